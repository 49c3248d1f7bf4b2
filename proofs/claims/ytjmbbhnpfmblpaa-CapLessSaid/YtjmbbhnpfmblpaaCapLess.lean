import Derived.Test.YtjmbbhnpfmblpaaCapB
/- layer 14: a token with caveats more has no right and no time that it had not. -/
namespace Go.Proofs.Ytjmbbhnpfmblpaa
open Go
set_option maxRecDepth 100000
theorem rMay_le (r : UInt8) (h : r.toNat ≤ 15) : rMay r = true := by
  have e : ∀ n, n < 16 → rMay (UInt8.ofNat n) = true := by decide
  have := e r.toNat (by omega)
  rwa [UInt8.ofNat_toNat] at this
theorem u8_and_not (a b : UInt8) : (a &&& b) &&& ~~~a = 0 := by
  apply UInt8.toBitVec_inj.1
  apply BitVec.eq_of_getElem_eq
  intro i hi
  simp
  cases a.toBitVec[i] <;> simp
theorem rcov_l (a b : UInt8) : rCov a (a &&& b) = true := by rw [rCov, u8_and_not]; rfl
theorem rcov_r (a b : UInt8) : rCov b (a &&& b) = true := by rw [rCov, UInt8.and_comm a b, u8_and_not]; rfl
theorem effF_snoc (r : UInt8) (u : Int) (cs : List Cav) (c : Cav) : effF r u (cs ++ [c]) = ((effF r u cs).1 &&& c.1, if c.2 < (effF r u cs).2 then c.2 else (effF r u cs).2) := by
  simp only [effF, List.foldl_append, List.foldl_cons, List.foldl_nil]; rfl
theorem onF_app (s : List UInt8) (a b : List Cav) : onF s (a ++ b) = onF (onF s a) b := by simp [onF]
theorem take_cav (l : List Cav) (i : Nat) (c : Cav) (h : l[i]? = some c) : l.take i ++ [c] = l.take (i + 1) := by rw [List.take_add_one, h]; rfl
theorem mayT_snoc (t u : Tok) (c : Cav) (h : mayT t = true) (h1 : u.tenant = t.tenant) (h2 : u.rights = t.rights) (h3 : u.cs.l = t.cs.l ++ [c]) (h4 : u.cs.len ≤ 8) (h5 : rMay c.1 = true) : mayT u = true := by
  rw [mayT] at h ⊢
  rw [h1, h2, h3]
  simp only [Bool.and_eq_true, decide_eq_true_eq, List.all_append, List.all_cons, List.all_nil] at h ⊢
  exact ⟨⟨h.1.1, h4⟩, h.2, h5, trivial⟩
theorem light14_ret (w0 : World) (t : Tok) (hc : t.cs.ok cavE 2 w0) (htag : t.tag.length = 32) :
    Ret Try.prog 66 [.agg ([V64 t.serial, .string ⟨(t.tenant).toArray⟩, V8 t.rights, VI t.from_, VI t.until_, t.cs.v] ++ (t.tag).map V8).toArray] w0 fun v w' => v = .bool (decide (t.tenant.length ≤ 1024 ∧ t.cs.len ≤ 64)) ∧ Hp w0 w' [] [] := by
  refine ret_mk Try.func66 rfl Try.ntmps66 (by simp) ?_
  have H := Hp.refl w0 []
  repeat refine c_seq ?_
  refine c_region ?_
  refine l_op (o_box (v := .agg ([V64 t.serial, .string ⟨(t.tenant).toArray⟩, V8 t.rights, VI t.from_, VI t.until_, t.cs.v] ++ (t.tag).map V8).toArray) H rfl (fun b1 w H hb1 => ?_))
  replace H : Hp w0 w [] ([.blk b1 ([V64 t.serial, .string ⟨(t.tenant).toArray⟩, V8 t.rights, VI t.from_, VI t.until_, t.cs.v] ++ (t.tag).map V8) 76]) := H
  refine l_op (o_val (r_as) ?_)
  first | refine l_end ?_ | refine l_nil ?_
  repeat refine c_seq ?_
  refine c_region ?_
  refine l_op (o_val (r_fa rfl fo76_1) ?_)
  refine l_op (o_val (r_ld (v := .string ⟨(t.tenant).toArray⟩) H (i := 0) rfl rfl ct9 rfl) ?_)
  refine l_op (o_val (r_lenstr (s := ⟨(t.tenant).toArray⟩) Try.underlying9 rfl) ?_)
  refine l_op (o_val (r_bin (a := ((t.tenant).length : Int)) (b := 1024) rfl rfl (fun _ => b_leq)) ?_)
  refine l_op (o_val (r_mv) ?_)
  by_cases hc2 : ((t.tenant).length : Int) ≤ 1024
  · skip
    refine l_yes rfl rfl (by exact congrArg Value.bool (decide_eq_true hc2)) (o_val (r_fa rfl fo76_5) ?_)
    refine l_yes rfl rfl (by exact congrArg Value.bool (decide_eq_true hc2)) (o_val (r_ld (v := t.cs.v) H (i := 0) rfl rfl ct74 rfl) ?_)
    refine l_yes rfl rfl (by exact congrArg Value.bool (decide_eq_true hc2)) (o_val (r_lens el74 rfl) ?_)
    refine l_yes rfl rfl (by exact congrArg Value.bool (decide_eq_true hc2)) (o_val (r_bin (a := (t.cs.len : Int)) (b := 64) rfl rfl (fun _ => b_leq)) ?_)
    refine l_op (o_val (r_pick (b := true) (congrArg Value.bool (decide_eq_true hc2))) ?_)
    refine l_op (o_val (r_as) ?_)
    first | refine l_end ?_ | refine l_nil ?_
    refine c_ret ?_
    try dsimp only [Exit.then, Exit.inBlock]
    refine e_ret1 (v := .bool (decide ((t.cs.len : Int) ≤ 64))) Try.results66 rfl ?_
    refine ⟨_, rfl, ?_⟩
    refine ⟨?_, H.sub (List.nil_sublist _)⟩
    congr 1
    rw [decide_eq_decide]
    omega
  · skip
    refine l_no rfl rfl (by exact congrArg Value.bool (decide_eq_false hc2)) rfl ?_
    refine l_no rfl rfl (by exact congrArg Value.bool (decide_eq_false hc2)) rfl ?_
    refine l_no rfl rfl (by exact congrArg Value.bool (decide_eq_false hc2)) rfl ?_
    refine l_no rfl rfl (by exact congrArg Value.bool (decide_eq_false hc2)) rfl ?_
    refine l_op (o_val (r_pick (b := false) (congrArg Value.bool (decide_eq_false hc2))) ?_)
    refine l_op (o_val (r_as) ?_)
    first | refine l_end ?_ | refine l_nil ?_
    refine c_ret ?_
    try dsimp only [Exit.then, Exit.inBlock]
    refine e_ret1 (v := .bool false) Try.results66 rfl ?_
    refine ⟨_, rfl, ?_⟩
    refine ⟨?_, H.sub (List.nil_sublist _)⟩
    first | rw [decide_eq_true (by omega : t.tenant.length ≤ 1024 ∧ t.cs.len ≤ 64)] | rw [decide_eq_false (by omega : ¬ (t.tenant.length ≤ 1024 ∧ t.cs.len ≤ 64))]
set_option maxHeartbeats 2000000 in
theorem capLess_ret (w0 : World) (key : List UInt8) (t : Tok) (x : Gl Cav) (now : Int) (hk : key.length = 32) (hc : t.cs.ok cavE 2 w0) (htag : t.tag.length = 32) (hx : x.ok cavE 2 w0) :
    Ret Try.prog 20 [.agg ((key).map V8).toArray, .agg ([V64 t.serial, .string ⟨(t.tenant).toArray⟩, V8 t.rights, VI t.from_, VI t.until_, t.cs.v] ++ (t.tag).map V8).toArray, x.v, VI now] w0 fun v w' => v = .bool true ∧ Hp w0 w' [] [] := by
  refine ret_mk Try.func20 rfl Try.ntmps20 (by simp) ?_
  have H := Hp.refl w0 []
  have hxl := hx.ln
  have hcl := hc.ln
  repeat refine c_seq ?_
  refine c_region ?_
  refine l_op (o_box (v := .agg ((key).map V8).toArray) H rfl (fun b1 w H hb1 => ?_))
  replace H : Hp w0 w [] ([.blk b1 ((key).map V8) 31]) := H
  refine l_op (o_box (v := .agg ([V64 t.serial, .string ⟨(t.tenant).toArray⟩, V8 t.rights, VI t.from_, VI t.until_, t.cs.v] ++ (t.tag).map V8).toArray) H rfl (fun b2 w H hb2 => ?_))
  replace H : Hp w0 w [] ([.blk b1 ((key).map V8) 31, .blk b2 ([V64 t.serial, .string ⟨(t.tenant).toArray⟩, V8 t.rights, VI t.from_, VI t.until_, t.cs.v] ++ (t.tag).map V8) 76]) := H
  refine l_op (o_val (r_as) ?_)
  first | refine l_end ?_ | refine l_nil ?_
  repeat refine c_seq ?_
  refine c_region ?_
  refine l_op (o_callR Try.func65 rfl rfl rfl (begun14_ret _) ?_)
  rintro _ w ⟨rfl, Hc⟩
  replace H : Hp w0 w [] ([.blk b1 ((key).map V8) 31, .blk b2 ([V64 t.serial, .string ⟨(t.tenant).toArray⟩, V8 t.rights, VI t.from_, VI t.until_, t.cs.v] ++ (t.tag).map V8) 76]) := H.call Hc
  clear Hc
  refine l_op (o_val (r_not rfl) ?_)
  first | refine l_end ?_ | refine l_nil ?_
  repeat refine c_seq ?_
  refine c_no rfl ?_
  refine c_skip ?_
  repeat refine c_seq ?_
  refine c_region ?_
  refine l_op (o_val (r_fa rfl fo76_5) ?_)
  refine l_op (o_st (v := .slice none 0 0) H (i := 1) rfl rfl rfl cs74 rfl (by simp only [List.length_append, List.length_cons, List.length_nil]; omega) (fun w H => ?_))
  replace H : Hp w0 w [] ([.blk b1 ((key).map V8) 31, .blk b2 ([V64 t.serial, .string ⟨(t.tenant).toArray⟩, V8 t.rights, VI t.from_, VI t.until_, .slice none 0 0] ++ (t.tag).map V8) 76]) := H
  first | refine l_end ?_ | refine l_nil ?_
  repeat refine c_seq ?_
  refine c_region ?_
  refine l_op (o_val (r_ldA (C := [V64 t.serial, .string ⟨(t.tenant).toArray⟩, V8 t.rights, VI t.from_, VI t.until_, .slice none 0 0] ++ (t.tag).map V8) H (i := 1) rfl rfl rt76 (by rw [List.length_append, List.length_map, (show (t.tag).length = 32 from htag)]; rfl)) ?_)
  refine l_op (o_callR Try.func66 rfl rfl rfl (light14_ret _ (⟨t.serial, t.tenant, t.rights, t.from_, t.until_, ⟨none, 0, 0, []⟩, t.tag⟩ : Tok) (Gl.ok_nil _) (show (t.tag).length = 32 from htag)) ?_)
  rintro _ w ⟨rfl, Hc⟩
  replace H : Hp w0 w [] ([.blk b1 ((key).map V8) 31, .blk b2 ([V64 t.serial, .string ⟨(t.tenant).toArray⟩, V8 t.rights, VI t.from_, VI t.until_, .slice none 0 0] ++ (t.tag).map V8) 76]) := H.call Hc
  clear Hc
  refine l_op (o_val (r_not rfl) ?_)
  refine l_op (o_val (r_mv) ?_)
  by_cases hc3 : t.tenant.length ≤ 1024 ∧ 0 ≤ 64
  · skip
    refine l_yes rfl rfl (by exact congrArg Value.bool (congrArg not (decide_eq_true hc3))) (o_val (r_ldA (C := [V64 t.serial, .string ⟨(t.tenant).toArray⟩, V8 t.rights, VI t.from_, VI t.until_, .slice none 0 0] ++ (t.tag).map V8) H (i := 1) rfl rfl rt76 (by rw [List.length_append, List.length_map, (show (t.tag).length = 32 from htag)]; rfl)) ?_)
    refine l_yes rfl rfl (by exact congrArg Value.bool (congrArg not (decide_eq_true hc3))) (o_callR Try.func75 rfl rfl rfl (may_ret _ (⟨t.serial, t.tenant, t.rights, t.from_, t.until_, ⟨none, 0, 0, []⟩, t.tag⟩ : Tok) (Gl.ok_nil _) (show (t.tag).length = 32 from htag) (by first | omega | (dsimp only; omega) | simp)) ?_)
    rintro _ w ⟨rfl, Hc⟩
    replace H : Hp w0 w [] ([.blk b1 ((key).map V8) 31, .blk b2 ([V64 t.serial, .string ⟨(t.tenant).toArray⟩, V8 t.rights, VI t.from_, VI t.until_, .slice none 0 0] ++ (t.tag).map V8) 76]) := H.call Hc
    clear Hc
    refine l_yes rfl rfl (by exact congrArg Value.bool (congrArg not (decide_eq_true hc3))) (o_val (r_not rfl) ?_)
    refine l_op (o_val (r_pick (b := false) (congrArg Value.bool (congrArg not (decide_eq_true hc3)))) ?_)
    refine l_op (o_val (r_mv) ?_)
    rcases Bool.eq_false_or_eq_true (mayT (⟨t.serial, t.tenant, t.rights, t.from_, t.until_, ⟨none, 0, 0, []⟩, t.tag⟩ : Tok)) with hc4 | hc4
    · skip
      refine l_yes rfl rfl (by exact congrArg Value.bool (congrArg not hc4)) (o_val (r_mv) ?_)
      refine l_yes rfl rfl (by exact congrArg Value.bool (congrArg not hc4)) (o_val (r_lens el74 rfl) ?_)
      refine l_yes rfl rfl (by exact congrArg Value.bool (congrArg not hc4)) (o_val (r_bin (a := (x.len : Int)) (b := 8) rfl rfl (fun _ => b_gtr)) ?_)
      refine l_op (o_val (r_pick (b := false) (congrArg Value.bool (congrArg not hc4))) ?_)
      first | refine l_end ?_ | refine l_nil ?_
      by_cases hc5 : 8 < (x.len : Int)
      · skip
        repeat refine c_seq ?_
        refine c_yes (by exact congrArg Value.bool (decide_eq_true hc5)) ?_
        repeat refine c_seq ?_
        refine c_region ?_
        refine l_op (o_val (r_as) ?_)
        first | refine l_end ?_ | refine l_nil ?_
        refine c_ret ?_
        try dsimp only [Exit.then, Exit.inBlock]
        refine e_ret1 (v := .bool true) Try.results20 rfl ?_
        refine ⟨_, rfl, ?_⟩
        exact ⟨rfl, H.sub (List.nil_sublist _)⟩
      · skip
        repeat refine c_seq ?_
        refine c_no (by exact congrArg Value.bool (decide_eq_false hc5)) ?_
        refine c_skip ?_
        repeat refine c_seq ?_
        refine c_region ?_
        refine l_op (o_val (r_ldAA (l := key) H (i := 0) rfl rfl rt31 (show (key).length = 32 from hk)) ?_)
        refine l_op (o_val (r_ldA (C := [V64 t.serial, .string ⟨(t.tenant).toArray⟩, V8 t.rights, VI t.from_, VI t.until_, .slice none 0 0] ++ (t.tag).map V8) H (i := 1) rfl rfl rt76 (by rw [List.length_append, List.length_map, (show (t.tag).length = 32 from htag)]; rfl)) ?_)
        refine l_op (o_callR Try.func68 rfl rfl rfl (issue_ok _ (key) (show (key).length = 32 from hk) (⟨t.serial, t.tenant, t.rights, t.from_, t.until_, ⟨none, 0, 0, []⟩, t.tag⟩ : Tok) (Gl.ok_nil _) (show (t.tag).length = 32 from htag) (by first | omega | (dsimp only; omega) | simp) (by assumption) rfl) ?_)
        rintro _ w ⟨rfl, Hc⟩
        replace H : Hp w0 w [] ([.blk b1 ((key).map V8) 31, .blk b2 ([V64 t.serial, .string ⟨(t.tenant).toArray⟩, V8 t.rights, VI t.from_, VI t.until_, .slice none 0 0] ++ (t.tag).map V8) 76]) := H.call Hc
        clear Hc
        refine l_op (o_val (r_mv) ?_)
        refine l_op (o_val (r_ext rfl rfl) ?_)
        refine l_op (o_val (r_ext rfl rfl) ?_)
        refine l_op (o_stW (C' := [V64 t.serial, .string ⟨(t.tenant).toArray⟩, V8 t.rights, VI t.from_, VI t.until_, .slice none 0 0] ++ (hmac (key) (framed [headB (t.serial) (t.tenant) (t.rights) (t.from_) (t.until_)])).map V8) H (i := 1) rfl rfl rfl cs76 (by simp [Value.oneCell', Sl.v, Gl.v]) (by rw [List.length_append, List.length_map, (show (t.tag).length = 32 from htag)]; rfl) (by rw [List.length_append, List.length_map, (show (hmac (key) (framed [headB (t.serial) (t.tenant) (t.rights) (t.from_) (t.until_)])).length = 32 from hmac_len _ _)]; rfl) (fun w H => ?_))
        replace H : Hp w0 w [] ([.blk b1 ((key).map V8) 31, .blk b2 ([V64 t.serial, .string ⟨(t.tenant).toArray⟩, V8 t.rights, VI t.from_, VI t.until_, .slice none 0 0] ++ (hmac (key) (framed [headB (t.serial) (t.tenant) (t.rights) (t.from_) (t.until_)])).map V8) 76]) := H
        refine l_op (o_val (r_as) ?_)
        first | refine l_end ?_ | refine l_nil ?_
        repeat refine c_seq ?_
        refine c_region ?_
        refine l_op (o_val (r_mv) ?_)
        refine l_op (o_val (r_bin (a := 0) (b := 0) rfl rfl (fun _ => b_neqB false (decide_eq_false (by decide)))) ?_)
        first | refine l_end ?_ | refine l_nil ?_
        repeat refine c_seq ?_
        refine c_no rfl ?_
        refine c_skip ?_
        repeat refine c_seq ?_
        refine c_region ?_
        refine l_op (o_val (r_as) ?_)
        first | refine l_end ?_ | refine l_nil ?_
        repeat refine c_seq ?_
        refine c_block ?_
        repeat refine c_seq ?_
        refine c_loop3 (fun (i : Nat) (a : Option Nat) (k : Nat) => [(2, x.v), (3, VI now), (4, .pointer (some ⟨b1, 0, none⟩)), (5, .pointer (some ⟨b2, 0, none⟩)), (10, VI (i : Int))])
          (fun (i : Nat) (a : Option Nat) (k : Nat) w => (i ≤ x.len ∧ mayT (⟨t.serial, t.tenant, t.rights, t.from_, t.until_, ⟨hd a, i, k, x.l.take i⟩, onF (hmac key (framed [headB t.serial t.tenant t.rights t.from_ t.until_])) (x.l.take i)⟩ : Tok) = true) ∧ Hp w0 w [] ([.blk b1 ((key).map V8) 31, .blk b2 ([V64 t.serial, .string ⟨(t.tenant).toArray⟩, V8 t.rights, VI t.from_, VI t.until_, .slice (hd a) i k] ++ (onF (hmac key (framed [headB t.serial t.tenant t.rights t.from_ t.until_])) (x.l.take i)).map V8) 76, .own a i k ((x.l.take i).flatMap cavE) 78 2]))
          (fun (i : Nat) (a : Option Nat) (k : Nat) => x.len - i) 0 none 0 ⟨rfl, rfl, rfl, rfl, rfl, trivial⟩ ⟨⟨Nat.zero_le _, hc4⟩, (H.nilEnd 78 2)⟩ ?_
        clear H
        rintro i a k τ w ⟨⟨hi, hmay⟩, H⟩
        repeat refine c_seq ?_
        refine c_region ?_
        refine l_op (o_val (r_mv) ?_)
        refine l_op (o_val (r_mv) ?_)
        refine l_op (o_val (r_lens el74 rfl) ?_)
        refine l_op (o_val (r_bin (a := (i : Int)) (b := (x.len : Int)) rfl rfl (fun _ => b_lss)) ?_)
        first | refine l_end ?_ | refine l_nil ?_
        by_cases hc6 : (i : Int) < (x.len : Int)
        · skip
          repeat refine c_seq ?_
          refine c_yes (by exact congrArg Value.bool (decide_eq_true hc6)) ?_
          refine c_skip ?_
          repeat refine c_seq ?_
          refine c_block ?_
          repeat refine c_seq ?_
          refine c_region ?_
          refine l_op (o_val (r_mv) ?_)
          refine l_op (o_val (r_mv) ?_)
          have ah9 := ((hx.up H)).addr (by decide) (by omega)
          obtain ⟨ab7, ao8, ah9⟩ := ah9
          refine l_op (o_val (r_isN i rfl rfl el74 ah9 (by omega) (by (try simp only [Sl.cut]); omega)) ?_)
          refine l_op (o_val (r_fa rfl fo78_0) ?_)
          have he11 : ∃ c, x.l[i]? = some c := ⟨_, List.getElem?_eq_getElem (by have := ((hx.up H)).ln; omega)⟩
          obtain ⟨e10, he11⟩ := he11
          have hez12 := ((hx.up H)).sz e10 (List.mem_of_getElem? he11)
          refine l_op (o_val (r_ldFld (v := V8 e10.1) (s := x) (k := i) (off := 0) (hx.up H) ah9 rfl ct73 he11 (by decide) rfl) ?_)
          refine l_op (o_val (r_bin (a := (e10.1.toNat : Int)) (b := 15) rfl rfl (fun _ => b_gtr)) ?_)
          first | refine l_end ?_ | refine l_nil ?_
          by_cases hc13 : 15 < (e10.1.toNat : Int)
          · skip
            repeat refine c_seq ?_
            refine c_yes (by exact congrArg Value.bool (decide_eq_true hc13)) ?_
            repeat refine c_seq ?_
            refine c_region ?_
            refine l_op (o_val (r_as) ?_)
            first | refine l_end ?_ | refine l_nil ?_
            refine c_ret ?_
            try dsimp only [Exit.then, Exit.inBlock]
            refine e_ret1 (v := .bool true) Try.results20 rfl ?_
            refine ⟨_, rfl, ?_⟩
            exact ⟨rfl, H.sub (List.nil_sublist _)⟩
          · skip
            repeat refine c_seq ?_
            refine c_no (by exact congrArg Value.bool (decide_eq_false hc13)) ?_
            refine c_skip ?_
            have hrm := rMay_le e10.1 (by omega)
            repeat refine c_seq ?_
            refine wp_held (fun w => Hp w0 w [] [.blk b1 ((key).map V8) 31, .blk b2 ([V64 t.serial, .string ⟨(t.tenant).toArray⟩, V8 t.rights, VI t.from_, VI t.until_, .slice (hd a) i k] ++ (onF (hmac key (framed [headB t.serial t.tenant t.rights t.from_ t.until_])) (x.l.take i)).map V8) 76, .own a i k ((x.l.take i).flatMap cavE) 78 2]) mixed ?_
            replace H := H.drew
            have HS := H
            refine t_take 0 rfl (by kernel_rfl) (by kernel_rfl) (by kernel_rfl) (fun _ _ _ h => h) (fun w HS => r_ldA (C := [V64 t.serial, .string ⟨(t.tenant).toArray⟩, V8 t.rights, VI t.from_, VI t.until_, .slice (hd a) i k] ++ (onF (hmac key (framed [headB t.serial t.tenant t.rights t.from_ t.until_])) (x.l.take i)).map V8) HS (i := 1) rfl rfl rt76 (by rw [List.length_append, List.length_map, (show (onF (hmac key (framed [headB t.serial t.tenant t.rights t.from_ t.until_])) (x.l.take i)).length = 32 from onF_len _ (hmac_len _ _) _)]; rfl)) HS ?_
            refine t_take 1 rfl (by kernel_rfl) (by kernel_rfl) (by kernel_rfl) (fun _ _ _ h => h) (fun w HS => r_mv) HS ?_
            refine t_take 2 rfl (by kernel_rfl) (by kernel_rfl) (by kernel_rfl) (fun _ _ _ h => h) (fun w HS => r_mv) HS ?_
            refine t_take 3 rfl (by kernel_rfl) (by kernel_rfl) (by kernel_rfl) (fun _ _ _ h => h) (fun w HS => r_isN i rfl rfl el74 ah9 (by omega) (by (try simp only [Sl.cut]); omega)) HS ?_
            refine t_take 4 rfl (by kernel_rfl) (by kernel_rfl) (by kernel_rfl) (fun _ _ _ h => h) (fun w HS => r_ldRow (s := x) (k := i) (hx.up HS) ah9 rfl rt78 (by decide) he11) HS ?_
            refine t_all [5, 9] (by kernel_rfl) (by simp) (all_cons (w_op 5 rfl ?_) (all_cons (w_op 9 rfl ?_) (all_nil)))
            · skip
              refine (o_callR Try.func70 rfl rfl rfl (less_ok _ (⟨t.serial, t.tenant, t.rights, t.from_, t.until_, ⟨hd a, i, k, x.l.take i⟩, onF (hmac key (framed [headB t.serial t.tenant t.rights t.from_ t.until_])) (x.l.take i)⟩ : Tok) e10 (H.glOwn (i := 2) rfl (by decide) (fun _ _ => rfl)) (show (onF (hmac key (framed [headB t.serial t.tenant t.rights t.from_ t.until_])) (x.l.take i)).length = 32 from onF_len _ (hmac_len _ _) _) (by first | omega | (dsimp only; omega) | simp) (by assumption) (by assumption) (by first | omega | (dsimp only; omega) | simp)) ?_)
              rintro _ w ⟨a14, c15, rfl, Hc⟩
              replace H : Hp w0 w [] ([.blk b1 ((key).map V8) 31, .blk b2 ([V64 t.serial, .string ⟨(t.tenant).toArray⟩, V8 t.rights, VI t.from_, VI t.until_, .slice (hd a) i k] ++ (onF (hmac key (framed [headB t.serial t.tenant t.rights t.from_ t.until_])) (x.l.take i)).map V8) 76, .own a i k ((x.l.take i).flatMap cavE) 78 2, .own a14 (i + 1) c15 ((x.l.take i ++ [e10]).flatMap cavE) 78 2]) := H.call Hc
              clear Hc
              refine ⟨H.sub (.cons_cons _ (.cons_cons _ (.cons_cons _ (List.nil_sublist _)))), ?_⟩
              replace HS := H.sub (.cons_cons _ (.cons_cons _ (.cons_cons _ (List.nil_sublist _))))
              refine t_take 6 rfl (by kernel_rfl) (by kernel_rfl) (by kernel_rfl) (fun _ _ _ h => h) (fun w HS => r_mv) HS ?_
              refine t_take 7 rfl (by kernel_rfl) (by kernel_rfl) (by kernel_rfl) (fun _ _ _ h => h) (fun w HS => r_ext rfl rfl) HS ?_
              refine t_take 8 rfl (by kernel_rfl) (by kernel_rfl) (by kernel_rfl) (fun _ _ _ h => h) (fun w HS => r_ext rfl rfl) HS ?_
              refine t_step 9 rfl (by kernel_rfl) (o_alloc H zc76 (fun b16 w H hb16 => ?_))
              replace H : Hp w0 w [] ([.blk b1 ((key).map V8) 31, .blk b2 ([V64 t.serial, .string ⟨(t.tenant).toArray⟩, V8 t.rights, VI t.from_, VI t.until_, .slice (hd a) i k] ++ (onF (hmac key (framed [headB t.serial t.tenant t.rights t.from_ t.until_])) (x.l.take i)).map V8) 76, .own a i k ((x.l.take i).flatMap cavE) 78 2, .own a14 (i + 1) c15 ((x.l.take i ++ [e10]).flatMap cavE) 78 2, .blk b16 ([V64 (0 : UInt64), .string ⟨(([] : List UInt8)).toArray⟩, V8 (0 : UInt8), VI 0, VI 0, .slice none 0 0] ++ (List.replicate 32 (0 : UInt8)).map V8) 76]) := H
              refine ⟨H.sub (.cons_cons _ (.cons_cons _ (.cons_cons _ (List.nil_sublist _)))), ?_⟩
              replace HS := H.sub (.cons_cons _ (.cons_cons _ (.cons_cons _ (List.nil_sublist _))))
              refine t_step 10 rfl (by kernel_rfl) (o_stW (C' := [V64 t.serial, .string ⟨(t.tenant).toArray⟩, V8 t.rights, VI t.from_, VI t.until_, .slice (hd a14) (i + 1) c15] ++ (onF (onF (hmac key (framed [headB t.serial t.tenant t.rights t.from_ t.until_])) (x.l.take i)) [e10]).map V8) H (i := 4) rfl rfl rfl cs76 (by simp [Value.oneCell', Sl.v, Gl.v]) (by rw [List.length_append, List.length_map, (show (List.replicate 32 (0 : UInt8)).length = 32 from (List.length_replicate ..))]; rfl) (by rw [List.length_append, List.length_map, (show (onF (onF (hmac key (framed [headB t.serial t.tenant t.rights t.from_ t.until_])) (x.l.take i)) [e10]).length = 32 from onF_len _ (show (onF (hmac key (framed [headB t.serial t.tenant t.rights t.from_ t.until_])) (x.l.take i)).length = 32 from onF_len _ (hmac_len _ _) _) _)]; rfl) (fun w H => ?_))
              replace H : Hp w0 w [] ([.blk b1 ((key).map V8) 31, .blk b2 ([V64 t.serial, .string ⟨(t.tenant).toArray⟩, V8 t.rights, VI t.from_, VI t.until_, .slice (hd a) i k] ++ (onF (hmac key (framed [headB t.serial t.tenant t.rights t.from_ t.until_])) (x.l.take i)).map V8) 76, .own a i k ((x.l.take i).flatMap cavE) 78 2, .own a14 (i + 1) c15 ((x.l.take i ++ [e10]).flatMap cavE) 78 2, .blk b16 ([V64 t.serial, .string ⟨(t.tenant).toArray⟩, V8 t.rights, VI t.from_, VI t.until_, .slice (hd a14) (i + 1) c15] ++ (onF (onF (hmac key (framed [headB t.serial t.tenant t.rights t.from_ t.until_])) (x.l.take i)) [e10]).map V8) 76]) := H
              refine ⟨H.sub (.cons_cons _ (.cons_cons _ (.cons_cons _ (List.nil_sublist _)))), ?_⟩
              replace HS := H.sub (.cons_cons _ (.cons_cons _ (.cons_cons _ (List.nil_sublist _))))
              refine t_take 11 rfl (by kernel_rfl) (by kernel_rfl) (by kernel_rfl) (fun _ _ _ h => h) (fun w HS => r_as) HS ?_
              refine t_done (by kernel_rfl) ?_
              clear HS
              repeat refine c_seq ?_
              refine c_region ?_
              refine l_op (o_val (r_mv) ?_)
              refine l_op (o_val (r_bin (a := 0) (b := 0) rfl rfl (fun _ => b_neqB false (decide_eq_false (by decide)))) ?_)
              first | refine l_end ?_ | refine l_nil ?_
              repeat refine c_seq ?_
              refine c_no rfl ?_
              refine c_skip ?_
              repeat refine c_seq ?_
              refine c_region ?_
              refine l_op (o_val (r_ldA (C := [V64 t.serial, .string ⟨(t.tenant).toArray⟩, V8 t.rights, VI t.from_, VI t.until_, .slice (hd a) i k] ++ (onF (hmac key (framed [headB t.serial t.tenant t.rights t.from_ t.until_])) (x.l.take i)).map V8) H (i := 1) rfl rfl rt76 (by rw [List.length_append, List.length_map, (show (onF (hmac key (framed [headB t.serial t.tenant t.rights t.from_ t.until_])) (x.l.take i)).length = 32 from onF_len _ (hmac_len _ _) _)]; rfl)) ?_)
              refine l_op (o_callR Try.func72 rfl rfl rfl (effect_ret _ (⟨t.serial, t.tenant, t.rights, t.from_, t.until_, ⟨hd a, i, k, x.l.take i⟩, onF (hmac key (framed [headB t.serial t.tenant t.rights t.from_ t.until_])) (x.l.take i)⟩ : Tok) (H.glOwn (i := 2) rfl (by decide) (fun _ _ => rfl)) (show (onF (hmac key (framed [headB t.serial t.tenant t.rights t.from_ t.until_])) (x.l.take i)).length = 32 from onF_len _ (hmac_len _ _) _)) ?_)
              rintro _ w ⟨rfl, Hc⟩
              replace H : Hp w0 w [] ([.blk b1 ((key).map V8) 31, .blk b2 ([V64 t.serial, .string ⟨(t.tenant).toArray⟩, V8 t.rights, VI t.from_, VI t.until_, .slice (hd a) i k] ++ (onF (hmac key (framed [headB t.serial t.tenant t.rights t.from_ t.until_])) (x.l.take i)).map V8) 76, .own a i k ((x.l.take i).flatMap cavE) 78 2, .own a14 (i + 1) c15 ((x.l.take i ++ [e10]).flatMap cavE) 78 2, .blk b16 ([V64 t.serial, .string ⟨(t.tenant).toArray⟩, V8 t.rights, VI t.from_, VI t.until_, .slice (hd a14) (i + 1) c15] ++ (onF (onF (hmac key (framed [headB t.serial t.tenant t.rights t.from_ t.until_])) (x.l.take i)) [e10]).map V8) 76]) := H.call Hc
              clear Hc
              refine l_op (o_val (r_mv) ?_)
              refine l_op (o_val (r_ext rfl rfl) ?_)
              refine l_op (o_val (r_ext rfl rfl) ?_)
              refine l_op (o_val (r_as) ?_)
              refine l_op (o_val (r_as) ?_)
              first | refine l_end ?_ | refine l_nil ?_
              repeat refine c_seq ?_
              refine c_region ?_
              refine l_op (o_val (r_ldA (C := [V64 t.serial, .string ⟨(t.tenant).toArray⟩, V8 t.rights, VI t.from_, VI t.until_, .slice (hd a14) (i + 1) c15] ++ (onF (onF (hmac key (framed [headB t.serial t.tenant t.rights t.from_ t.until_])) (x.l.take i)) [e10]).map V8) H (i := 4) rfl rfl rt76 (by rw [List.length_append, List.length_map, (show (onF (onF (hmac key (framed [headB t.serial t.tenant t.rights t.from_ t.until_])) (x.l.take i)) [e10]).length = 32 from onF_len _ (show (onF (hmac key (framed [headB t.serial t.tenant t.rights t.from_ t.until_])) (x.l.take i)).length = 32 from onF_len _ (hmac_len _ _) _) _)]; rfl)) ?_)
              refine l_op (o_callR Try.func72 rfl rfl rfl (effect_ret _ (⟨t.serial, t.tenant, t.rights, t.from_, t.until_, ⟨hd a14, i + 1, c15, x.l.take i ++ [e10]⟩, onF (onF (hmac key (framed [headB t.serial t.tenant t.rights t.from_ t.until_])) (x.l.take i)) [e10]⟩ : Tok) (H.glOwn (i := 3) rfl (by decide) (fun _ _ => rfl)) (show (onF (onF (hmac key (framed [headB t.serial t.tenant t.rights t.from_ t.until_])) (x.l.take i)) [e10]).length = 32 from onF_len _ (show (onF (hmac key (framed [headB t.serial t.tenant t.rights t.from_ t.until_])) (x.l.take i)).length = 32 from onF_len _ (hmac_len _ _) _) _)) ?_)
              rintro _ w ⟨rfl, Hc⟩
              replace H : Hp w0 w [] ([.blk b1 ((key).map V8) 31, .blk b2 ([V64 t.serial, .string ⟨(t.tenant).toArray⟩, V8 t.rights, VI t.from_, VI t.until_, .slice (hd a) i k] ++ (onF (hmac key (framed [headB t.serial t.tenant t.rights t.from_ t.until_])) (x.l.take i)).map V8) 76, .own a i k ((x.l.take i).flatMap cavE) 78 2, .own a14 (i + 1) c15 ((x.l.take i ++ [e10]).flatMap cavE) 78 2, .blk b16 ([V64 t.serial, .string ⟨(t.tenant).toArray⟩, V8 t.rights, VI t.from_, VI t.until_, .slice (hd a14) (i + 1) c15] ++ (onF (onF (hmac key (framed [headB t.serial t.tenant t.rights t.from_ t.until_])) (x.l.take i)) [e10]).map V8) 76]) := H.call Hc
              clear Hc
              refine l_op (o_val (r_mv) ?_)
              refine l_op (o_val (r_ext rfl rfl) ?_)
              refine l_op (o_val (r_ext rfl rfl) ?_)
              refine l_op (o_val (r_as) ?_)
              refine l_op (o_val (r_as) ?_)
              first | refine l_end ?_ | refine l_nil ?_
              repeat refine c_seq ?_
              refine wp_held (fun w => Hp w0 w [] [.blk b1 ((key).map V8) 31, .blk b2 ([V64 t.serial, .string ⟨(t.tenant).toArray⟩, V8 t.rights, VI t.from_, VI t.until_, .slice (hd a) i k] ++ (onF (hmac key (framed [headB t.serial t.tenant t.rights t.from_ t.until_])) (x.l.take i)).map V8) 76, .own a i k ((x.l.take i).flatMap cavE) 78 2, .own a14 (i + 1) c15 ((x.l.take i ++ [e10]).flatMap cavE) 78 2, .blk b16 ([V64 t.serial, .string ⟨(t.tenant).toArray⟩, V8 t.rights, VI t.from_, VI t.until_, .slice (hd a14) (i + 1) c15] ++ (onF (onF (hmac key (framed [headB t.serial t.tenant t.rights t.from_ t.until_])) (x.l.take i)) [e10]).map V8) 76]) mixed ?_
              replace H := H.drew
              have HS := H
              refine t_take 0 rfl (by kernel_rfl) (by kernel_rfl) (by kernel_rfl) (fun _ _ _ h => h) (fun w HS => r_ldAA (l := key) HS (i := 0) rfl rfl rt31 (show (key).length = 32 from hk)) HS ?_
              refine t_take 1 rfl (by kernel_rfl) (by kernel_rfl) (by kernel_rfl) (fun _ _ _ h => h) (fun w HS => r_ldA (C := [V64 t.serial, .string ⟨(t.tenant).toArray⟩, V8 t.rights, VI t.from_, VI t.until_, .slice (hd a) i k] ++ (onF (hmac key (framed [headB t.serial t.tenant t.rights t.from_ t.until_])) (x.l.take i)).map V8) HS (i := 1) rfl rfl rt76 (by rw [List.length_append, List.length_map, (show (onF (hmac key (framed [headB t.serial t.tenant t.rights t.from_ t.until_])) (x.l.take i)).length = 32 from onF_len _ (hmac_len _ _) _)]; rfl)) HS ?_
              refine t_take 2 rfl (by kernel_rfl) (by kernel_rfl) (by kernel_rfl) (fun _ _ _ h => h) (fun w HS => r_mv) HS ?_
              refine t_take 4 rfl (by kernel_rfl) (by kernel_rfl) (by kernel_rfl) (fun _ _ _ h => h) (fun w HS => r_ldAA (l := key) HS (i := 0) rfl rfl rt31 (show (key).length = 32 from hk)) HS ?_
              refine t_take 5 rfl (by kernel_rfl) (by kernel_rfl) (by kernel_rfl) (fun _ _ _ h => h) (fun w HS => r_ldA (C := [V64 t.serial, .string ⟨(t.tenant).toArray⟩, V8 t.rights, VI t.from_, VI t.until_, .slice (hd a14) (i + 1) c15] ++ (onF (onF (hmac key (framed [headB t.serial t.tenant t.rights t.from_ t.until_])) (x.l.take i)) [e10]).map V8) HS (i := 4) rfl rfl rt76 (by rw [List.length_append, List.length_map, (show (onF (onF (hmac key (framed [headB t.serial t.tenant t.rights t.from_ t.until_])) (x.l.take i)) [e10]).length = 32 from onF_len _ (show (onF (hmac key (framed [headB t.serial t.tenant t.rights t.from_ t.until_])) (x.l.take i)).length = 32 from onF_len _ (hmac_len _ _) _) _)]; rfl)) HS ?_
              refine t_take 6 rfl (by kernel_rfl) (by kernel_rfl) (by kernel_rfl) (fun _ _ _ h => h) (fun w HS => r_mv) HS ?_
              refine t_step 3 rfl (by kernel_rfl) (o_callR Try.func77 rfl rfl rfl (check14_ret _ (key) (show (key).length = 32 from hk) (⟨t.serial, t.tenant, t.rights, t.from_, t.until_, ⟨hd a, i, k, x.l.take i⟩, onF (hmac key (framed [headB t.serial t.tenant t.rights t.from_ t.until_])) (x.l.take i)⟩ : Tok) (H.glOwn (i := 2) rfl (by decide) (fun _ _ => rfl)) (show (onF (hmac key (framed [headB t.serial t.tenant t.rights t.from_ t.until_])) (x.l.take i)).length = 32 from onF_len _ (hmac_len _ _) _) (by first | omega | (dsimp only; omega) | simp) (now)) ?_)
              rintro _ w ⟨rfl, Hc⟩
              replace H : Hp w0 w [] ([.blk b1 ((key).map V8) 31, .blk b2 ([V64 t.serial, .string ⟨(t.tenant).toArray⟩, V8 t.rights, VI t.from_, VI t.until_, .slice (hd a) i k] ++ (onF (hmac key (framed [headB t.serial t.tenant t.rights t.from_ t.until_])) (x.l.take i)).map V8) 76, .own a i k ((x.l.take i).flatMap cavE) 78 2, .own a14 (i + 1) c15 ((x.l.take i ++ [e10]).flatMap cavE) 78 2, .blk b16 ([V64 t.serial, .string ⟨(t.tenant).toArray⟩, V8 t.rights, VI t.from_, VI t.until_, .slice (hd a14) (i + 1) c15] ++ (onF (onF (hmac key (framed [headB t.serial t.tenant t.rights t.from_ t.until_])) (x.l.take i)) [e10]).map V8) 76]) := H.call Hc
              clear Hc
              refine ⟨H, ?_⟩
              replace HS := H
              refine t_step 7 rfl (by kernel_rfl) (o_callR Try.func77 rfl rfl rfl (check14_ret _ (key) (show (key).length = 32 from hk) (⟨t.serial, t.tenant, t.rights, t.from_, t.until_, ⟨hd a14, i + 1, c15, x.l.take i ++ [e10]⟩, onF (onF (hmac key (framed [headB t.serial t.tenant t.rights t.from_ t.until_])) (x.l.take i)) [e10]⟩ : Tok) (H.glOwn (i := 3) rfl (by decide) (fun _ _ => rfl)) (show (onF (onF (hmac key (framed [headB t.serial t.tenant t.rights t.from_ t.until_])) (x.l.take i)) [e10]).length = 32 from onF_len _ (show (onF (hmac key (framed [headB t.serial t.tenant t.rights t.from_ t.until_])) (x.l.take i)).length = 32 from onF_len _ (hmac_len _ _) _) _) (by first | omega | (dsimp only; omega) | simp) (now)) ?_)
              rintro _ w ⟨rfl, Hc⟩
              replace H : Hp w0 w [] ([.blk b1 ((key).map V8) 31, .blk b2 ([V64 t.serial, .string ⟨(t.tenant).toArray⟩, V8 t.rights, VI t.from_, VI t.until_, .slice (hd a) i k] ++ (onF (hmac key (framed [headB t.serial t.tenant t.rights t.from_ t.until_])) (x.l.take i)).map V8) 76, .own a i k ((x.l.take i).flatMap cavE) 78 2, .own a14 (i + 1) c15 ((x.l.take i ++ [e10]).flatMap cavE) 78 2, .blk b16 ([V64 t.serial, .string ⟨(t.tenant).toArray⟩, V8 t.rights, VI t.from_, VI t.until_, .slice (hd a14) (i + 1) c15] ++ (onF (onF (hmac key (framed [headB t.serial t.tenant t.rights t.from_ t.until_])) (x.l.take i)) [e10]).map V8) 76]) := H.call Hc
              clear Hc
              refine ⟨H, ?_⟩
              replace HS := H
              refine t_take 8 rfl (by kernel_rfl) (by kernel_rfl) (by kernel_rfl) (fun _ _ _ h => h) (fun w HS => r_as) HS ?_
              refine t_take 9 rfl (by kernel_rfl) (by kernel_rfl) (by kernel_rfl) (fun _ _ _ h => h) (fun w HS => r_as) HS ?_
              refine t_done (by kernel_rfl) ?_
              clear HS
              have es := effF_snoc t.rights t.until_ (x.l.take i) e10
              have hu : (effF t.rights t.until_ (x.l.take i ++ [e10])).2 = e10.2 ∧ e10.2 < (effF t.rights t.until_ (x.l.take i)).2 ∨ (effF t.rights t.until_ (x.l.take i ++ [e10])).2 = (effF t.rights t.until_ (x.l.take i)).2 ∧ (effF t.rights t.until_ (x.l.take i)).2 ≤ e10.2 := by
                rw [es]; dsimp only; split <;> omega
              have k1 : (checkT (key) (⟨t.serial, t.tenant, t.rights, t.from_, t.until_, ⟨hd a, i, k, x.l.take i⟩, onF (hmac key (framed [headB t.serial t.tenant t.rights t.from_ t.until_])) (x.l.take i)⟩ : Tok) (now) = 0 ∨ checkT (key) (⟨t.serial, t.tenant, t.rights, t.from_, t.until_, ⟨hd a, i, k, x.l.take i⟩, onF (hmac key (framed [headB t.serial t.tenant t.rights t.from_ t.until_])) (x.l.take i)⟩ : Tok) (now) = 14) ∧ (checkT (key) (⟨t.serial, t.tenant, t.rights, t.from_, t.until_, ⟨hd a, i, k, x.l.take i⟩, onF (hmac key (framed [headB t.serial t.tenant t.rights t.from_ t.until_])) (x.l.take i)⟩ : Tok) (now) = 0 ↔ t.from_ ≤ now ∧ now < (effF t.rights t.until_ (x.l.take i)).2) := checkT_iff key (⟨t.serial, t.tenant, t.rights, t.from_, t.until_, ⟨hd a, i, k, x.l.take i⟩, onF (hmac key (framed [headB t.serial t.tenant t.rights t.from_ t.until_])) (x.l.take i)⟩ : Tok) now hmay rfl
              have k2 : (checkT (key) (⟨t.serial, t.tenant, t.rights, t.from_, t.until_, ⟨hd a14, i + 1, c15, x.l.take i ++ [e10]⟩, onF (onF (hmac key (framed [headB t.serial t.tenant t.rights t.from_ t.until_])) (x.l.take i)) [e10]⟩ : Tok) (now) = 0 ∨ checkT (key) (⟨t.serial, t.tenant, t.rights, t.from_, t.until_, ⟨hd a14, i + 1, c15, x.l.take i ++ [e10]⟩, onF (onF (hmac key (framed [headB t.serial t.tenant t.rights t.from_ t.until_])) (x.l.take i)) [e10]⟩ : Tok) (now) = 14) ∧ (checkT (key) (⟨t.serial, t.tenant, t.rights, t.from_, t.until_, ⟨hd a14, i + 1, c15, x.l.take i ++ [e10]⟩, onF (onF (hmac key (framed [headB t.serial t.tenant t.rights t.from_ t.until_])) (x.l.take i)) [e10]⟩ : Tok) (now) = 0 ↔ t.from_ ≤ now ∧ now < (effF t.rights t.until_ (x.l.take i ++ [e10])).2) := checkT_iff key (⟨t.serial, t.tenant, t.rights, t.from_, t.until_, ⟨hd a14, i + 1, c15, x.l.take i ++ [e10]⟩, onF (onF (hmac key (framed [headB t.serial t.tenant t.rights t.from_ t.until_])) (x.l.take i)) [e10]⟩ : Tok) now (mayT_snoc _ _ e10 hmay rfl rfl rfl (by dsimp only; omega) hrm) (onF_app _ _ _)
              repeat refine c_seq ?_
              refine c_region ?_
              refine l_op (o_val (r_mv) ?_)
              refine l_op (o_val (r_mv) ?_)
              refine l_op (o_callR Try.func80 rfl rfl rfl (rcov_ret _ ((effF (t.rights) (t.until_) (x.l.take i)).1) ((effF (t.rights) (t.until_) (x.l.take i ++ [e10])).1)) ?_)
              rintro _ w' ⟨rfl, hw17⟩
              rw [hw17]; clear hw17 w'
              have hk18 : (rCov ((effF (t.rights) (t.until_) (x.l.take i)).1) ((effF (t.rights) (t.until_) (x.l.take i ++ [e10])).1)) = true := (by rw [es]; exact rcov_l _ _)
              refine l_op (o_val (r_not rfl) ?_)
              refine l_op (o_val (r_mv) ?_)
              refine l_yes rfl rfl (by exact congrArg Value.bool (congrArg not hk18)) (o_val (r_mv) ?_)
              refine l_yes rfl rfl (by exact congrArg Value.bool (congrArg not hk18)) (o_val (r_mv) ?_)
              refine l_yes rfl rfl (by exact congrArg Value.bool (congrArg not hk18)) (o_val (r_isN i rfl rfl el74 ah9 (by omega) (by (try simp only [Sl.cut]); omega)) ?_)
              refine l_yes rfl rfl (by exact congrArg Value.bool (congrArg not hk18)) (o_val (r_fa rfl fo78_0) ?_)
              refine l_yes rfl rfl (by exact congrArg Value.bool (congrArg not hk18)) (o_val (r_ldFld (v := V8 e10.1) (s := x) (k := i) (off := 0) (hx.up H) ah9 rfl ct73 he11 (by decide) rfl) ?_)
              refine l_yes rfl rfl (by exact congrArg Value.bool (congrArg not hk18)) (o_val (r_mv) ?_)
              refine l_yes rfl rfl (by exact congrArg Value.bool (congrArg not hk18)) (o_callR Try.func80 rfl rfl rfl (rcov_ret _ (e10.1) ((effF (t.rights) (t.until_) (x.l.take i ++ [e10])).1)) ?_)
              rintro _ w' ⟨rfl, hw19⟩
              rw [hw19]; clear hw19 w'
              have hk20 : (rCov (e10.1) ((effF (t.rights) (t.until_) (x.l.take i ++ [e10])).1)) = true := (by rw [es]; exact rcov_r _ _)
              refine l_yes rfl rfl (by exact congrArg Value.bool (congrArg not hk18)) (o_val (r_not rfl) ?_)
              refine l_op (o_val (r_pick (b := false) (congrArg Value.bool (congrArg not hk18))) ?_)
              refine l_op (o_val (r_mv) ?_)
              refine l_yes rfl rfl (by exact congrArg Value.bool (congrArg not hk20)) (o_val (r_mv) ?_)
              refine l_yes rfl rfl (by exact congrArg Value.bool (congrArg not hk20)) (o_val (r_mv) ?_)
              refine l_yes rfl rfl (by exact congrArg Value.bool (congrArg not hk20)) (o_val (r_bin (a := (effF (t.rights) (t.until_) (x.l.take i ++ [e10])).2) (b := (effF (t.rights) (t.until_) (x.l.take i)).2) rfl rfl (fun _ => b_gtrB false (decide_eq_false (by omega)))) ?_)
              refine l_op (o_val (r_pick (b := false) (congrArg Value.bool (congrArg not hk20))) ?_)
              refine l_op (o_val (r_mv) ?_)
              refine l_yes rfl rfl rfl (o_val (r_mv) ?_)
              refine l_yes rfl rfl rfl (o_val (r_mv) ?_)
              refine l_yes rfl rfl rfl (o_val (r_mv) ?_)
              refine l_yes rfl rfl rfl (o_val (r_isN i rfl rfl el74 ah9 (by omega) (by (try simp only [Sl.cut]); omega)) ?_)
              refine l_yes rfl rfl rfl (o_val (r_fa rfl fo78_1) ?_)
              refine l_yes rfl rfl rfl (o_val (r_ldFld (v := VI e10.2) (s := x) (k := i) (off := 1) (hx.up H) ah9 rfl ct2 he11 (by decide) rfl) ?_)
              refine l_yes rfl rfl rfl (o_val (r_bin (a := (effF (t.rights) (t.until_) (x.l.take i ++ [e10])).2) (b := e10.2) rfl rfl (fun _ => b_gtrB false (decide_eq_false (by omega)))) ?_)
              refine l_op (o_val (r_pick rfl) ?_)
              refine l_op (o_val (r_mv) ?_)
              refine l_yes rfl rfl rfl (o_val (r_mv) ?_)
              refine l_yes rfl rfl rfl (o_val (r_bin (a := checkT (key) (⟨t.serial, t.tenant, t.rights, t.from_, t.until_, ⟨hd a14, i + 1, c15, x.l.take i ++ [e10]⟩, onF (onF (hmac key (framed [headB t.serial t.tenant t.rights t.from_ t.until_])) (x.l.take i)) [e10]⟩ : Tok) (now)) (b := 0) rfl rfl (fun _ => b_eql)) ?_)
              refine l_yes rfl rfl rfl (o_val (r_mv) ?_)
              by_cases hc21 : checkT (key) (⟨t.serial, t.tenant, t.rights, t.from_, t.until_, ⟨hd a14, i + 1, c15, x.l.take i ++ [e10]⟩, onF (onF (hmac key (framed [headB t.serial t.tenant t.rights t.from_ t.until_])) (x.l.take i)) [e10]⟩ : Tok) (now) = 0
              · skip
                refine l_yes rfl rfl (by exact congrArg Value.bool (decide_eq_true hc21)) (o_val (r_mv) ?_)
                refine l_yes rfl rfl (by exact congrArg Value.bool (decide_eq_true hc21)) (o_val (r_bin (a := checkT (key) (⟨t.serial, t.tenant, t.rights, t.from_, t.until_, ⟨hd a, i, k, x.l.take i⟩, onF (hmac key (framed [headB t.serial t.tenant t.rights t.from_ t.until_])) (x.l.take i)⟩ : Tok) (now)) (b := 0) rfl rfl (fun _ => b_neqB false (decide_eq_false (by omega)))) ?_)
                refine l_yes rfl rfl rfl (o_val (r_pick (b := true) (congrArg Value.bool (decide_eq_true hc21))) ?_)
                refine l_op (o_val (r_pick rfl) ?_)
                refine l_op (o_val (r_mv) ?_)
                refine l_yes rfl rfl rfl (o_val (r_mv) ?_)
                refine l_yes rfl rfl rfl (o_val (r_bin (a := checkT (key) (⟨t.serial, t.tenant, t.rights, t.from_, t.until_, ⟨hd a, i, k, x.l.take i⟩, onF (hmac key (framed [headB t.serial t.tenant t.rights t.from_ t.until_])) (x.l.take i)⟩ : Tok) (now)) (b := 0) rfl rfl (fun _ => b_eql)) ?_)
                refine l_yes rfl rfl rfl (o_val (r_mv) ?_)
                by_cases hc22 : checkT (key) (⟨t.serial, t.tenant, t.rights, t.from_, t.until_, ⟨hd a, i, k, x.l.take i⟩, onF (hmac key (framed [headB t.serial t.tenant t.rights t.from_ t.until_])) (x.l.take i)⟩ : Tok) (now) = 0
                · skip
                  refine l_yes rfl rfl (by exact congrArg Value.bool (decide_eq_true hc22)) (o_val (r_mv) ?_)
                  refine l_yes rfl rfl (by exact congrArg Value.bool (decide_eq_true hc22)) (o_val (r_mv) ?_)
                  refine l_yes rfl rfl (by exact congrArg Value.bool (decide_eq_true hc22)) (o_val (r_mv) ?_)
                  refine l_yes rfl rfl (by exact congrArg Value.bool (decide_eq_true hc22)) (o_val (r_isN i rfl rfl el74 ah9 (by omega) (by (try simp only [Sl.cut]); omega)) ?_)
                  refine l_yes rfl rfl (by exact congrArg Value.bool (decide_eq_true hc22)) (o_val (r_fa rfl fo78_1) ?_)
                  refine l_yes rfl rfl (by exact congrArg Value.bool (decide_eq_true hc22)) (o_val (r_ldFld (v := VI e10.2) (s := x) (k := i) (off := 1) (hx.up H) ah9 rfl ct2 he11 (by decide) rfl) ?_)
                  refine l_yes rfl rfl (by exact congrArg Value.bool (decide_eq_true hc22)) (o_val (r_bin (a := now) (b := e10.2) rfl rfl (fun _ => b_lss)) ?_)
                  refine l_yes rfl rfl rfl (o_val (r_pick (b := true) (congrArg Value.bool (decide_eq_true hc22))) ?_)
                  refine l_yes rfl rfl rfl (o_val (r_mv) ?_)
                  by_cases hc23 : now < e10.2
                  · skip
                    refine l_yes rfl rfl (by exact congrArg Value.bool (decide_eq_true hc23)) (o_val (r_mv) ?_)
                    refine l_yes rfl rfl (by exact congrArg Value.bool (decide_eq_true hc23)) (o_val (r_bin (a := checkT (key) (⟨t.serial, t.tenant, t.rights, t.from_, t.until_, ⟨hd a14, i + 1, c15, x.l.take i ++ [e10]⟩, onF (onF (hmac key (framed [headB t.serial t.tenant t.rights t.from_ t.until_])) (x.l.take i)) [e10]⟩ : Tok) (now)) (b := 0) rfl rfl (fun _ => b_neqB false (decide_eq_false (by omega)))) ?_)
                    refine l_yes rfl rfl rfl (o_val (r_pick (b := true) (congrArg Value.bool (decide_eq_true hc23))) ?_)
                    refine l_op (o_val (r_pick rfl) ?_)
                    refine l_op (o_val (r_mv) ?_)
                    refine l_yes rfl rfl rfl (o_val (r_mv) ?_)
                    refine l_yes rfl rfl rfl (o_val (r_bin (a := checkT (key) (⟨t.serial, t.tenant, t.rights, t.from_, t.until_, ⟨hd a14, i + 1, c15, x.l.take i ++ [e10]⟩, onF (onF (hmac key (framed [headB t.serial t.tenant t.rights t.from_ t.until_])) (x.l.take i)) [e10]⟩ : Tok) (now)) (b := 13) rfl rfl (fun _ => b_eqlB false (decide_eq_false (by omega)))) ?_)
                    refine l_op (o_val (r_pick rfl) ?_)
                    first | refine l_end ?_ | refine l_nil ?_
                    repeat refine c_seq ?_
                    refine c_no rfl ?_
                    refine c_skip ?_
                    repeat refine c_seq ?_
                    refine c_region ?_
                    refine l_op (o_val (r_ldA (C := [V64 t.serial, .string ⟨(t.tenant).toArray⟩, V8 t.rights, VI t.from_, VI t.until_, .slice (hd a14) (i + 1) c15] ++ (onF (onF (hmac key (framed [headB t.serial t.tenant t.rights t.from_ t.until_])) (x.l.take i)) [e10]).map V8) H (i := 4) rfl rfl rt76 (by rw [List.length_append, List.length_map, (show (onF (onF (hmac key (framed [headB t.serial t.tenant t.rights t.from_ t.until_])) (x.l.take i)) [e10]).length = 32 from onF_len _ (show (onF (hmac key (framed [headB t.serial t.tenant t.rights t.from_ t.until_])) (x.l.take i)).length = 32 from onF_len _ (hmac_len _ _) _) _)]; rfl)) ?_)
                    refine l_op (o_stW (C' := [V64 t.serial, .string ⟨(t.tenant).toArray⟩, V8 t.rights, VI t.from_, VI t.until_, .slice (hd a14) (i + 1) c15] ++ (onF (onF (hmac key (framed [headB t.serial t.tenant t.rights t.from_ t.until_])) (x.l.take i)) [e10]).map V8) H (i := 1) rfl rfl rfl cs76 (by simp [Value.oneCell', Sl.v, Gl.v]) (by rw [List.length_append, List.length_map, (show (onF (hmac key (framed [headB t.serial t.tenant t.rights t.from_ t.until_])) (x.l.take i)).length = 32 from onF_len _ (hmac_len _ _) _)]; rfl) (by rw [List.length_append, List.length_map, (show (onF (onF (hmac key (framed [headB t.serial t.tenant t.rights t.from_ t.until_])) (x.l.take i)) [e10]).length = 32 from onF_len _ (show (onF (hmac key (framed [headB t.serial t.tenant t.rights t.from_ t.until_])) (x.l.take i)).length = 32 from onF_len _ (hmac_len _ _) _) _)]; rfl) (fun w H => ?_))
                    replace H : Hp w0 w [] ([.blk b1 ((key).map V8) 31, .blk b2 ([V64 t.serial, .string ⟨(t.tenant).toArray⟩, V8 t.rights, VI t.from_, VI t.until_, .slice (hd a14) (i + 1) c15] ++ (onF (onF (hmac key (framed [headB t.serial t.tenant t.rights t.from_ t.until_])) (x.l.take i)) [e10]).map V8) 76, .own a i k ((x.l.take i).flatMap cavE) 78 2, .own a14 (i + 1) c15 ((x.l.take i ++ [e10]).flatMap cavE) 78 2, .blk b16 ([V64 t.serial, .string ⟨(t.tenant).toArray⟩, V8 t.rights, VI t.from_, VI t.until_, .slice (hd a14) (i + 1) c15] ++ (onF (onF (hmac key (framed [headB t.serial t.tenant t.rights t.from_ t.until_])) (x.l.take i)) [e10]).map V8) 76]) := H
                    first | refine l_end ?_ | refine l_nil ?_
                    repeat refine c_seq ?_
                    refine c_region ?_
                    refine l_op (o_val (r_mv) ?_)
                    refine l_op (o_val (r_bin (a := (i : Int)) (b := 1) rfl rfl (fun _ => b_add (by omega) (by omega))) ?_)
                    refine l_op (o_val (r_as) ?_)
                    first | refine l_end ?_ | refine l_nil ?_
                    have t1 := take_cav x.l i e10 he11
                    rw [← onF_app, t1] at H
                    refine round_end (i + 1, a14, c15) ?_ ?_ ?_
                    · exact ⟨rfl, rfl, rfl, rfl, show VI ((i : Int) + 1) = VI ((i + 1 : Nat) : Int) from congrArg VI (by omega), trivial⟩
                    · refine ⟨?_, ?_⟩
                      · try dsimp only
                        exact ⟨by omega, mayT_snoc _ _ e10 hmay rfl rfl t1.symm (by dsimp only; omega) hrm⟩
                      · exact H.sub (.cons_cons _ (.cons_cons _ (.cons _ (.cons_cons _ (List.nil_sublist _)))))
                    · show x.len - (i + 1 : Nat) < x.len - i; omega
                  · skip
                    refine l_no rfl rfl (by exact congrArg Value.bool (decide_eq_false hc23)) rfl ?_
                    refine l_no rfl rfl (by exact congrArg Value.bool (decide_eq_false hc23)) rfl ?_
                    refine l_yes rfl rfl rfl (o_val (r_pick (b := false) (congrArg Value.bool (decide_eq_false hc23))) ?_)
                    refine l_op (o_val (r_pick rfl) ?_)
                    refine l_op (o_val (r_mv) ?_)
                    refine l_yes rfl rfl rfl (o_val (r_mv) ?_)
                    refine l_yes rfl rfl rfl (o_val (r_bin (a := checkT (key) (⟨t.serial, t.tenant, t.rights, t.from_, t.until_, ⟨hd a14, i + 1, c15, x.l.take i ++ [e10]⟩, onF (onF (hmac key (framed [headB t.serial t.tenant t.rights t.from_ t.until_])) (x.l.take i)) [e10]⟩ : Tok) (now)) (b := 13) rfl rfl (fun _ => b_eqlB false (decide_eq_false (by omega)))) ?_)
                    refine l_op (o_val (r_pick rfl) ?_)
                    first | refine l_end ?_ | refine l_nil ?_
                    repeat refine c_seq ?_
                    refine c_no rfl ?_
                    refine c_skip ?_
                    repeat refine c_seq ?_
                    refine c_region ?_
                    refine l_op (o_val (r_ldA (C := [V64 t.serial, .string ⟨(t.tenant).toArray⟩, V8 t.rights, VI t.from_, VI t.until_, .slice (hd a14) (i + 1) c15] ++ (onF (onF (hmac key (framed [headB t.serial t.tenant t.rights t.from_ t.until_])) (x.l.take i)) [e10]).map V8) H (i := 4) rfl rfl rt76 (by rw [List.length_append, List.length_map, (show (onF (onF (hmac key (framed [headB t.serial t.tenant t.rights t.from_ t.until_])) (x.l.take i)) [e10]).length = 32 from onF_len _ (show (onF (hmac key (framed [headB t.serial t.tenant t.rights t.from_ t.until_])) (x.l.take i)).length = 32 from onF_len _ (hmac_len _ _) _) _)]; rfl)) ?_)
                    refine l_op (o_stW (C' := [V64 t.serial, .string ⟨(t.tenant).toArray⟩, V8 t.rights, VI t.from_, VI t.until_, .slice (hd a14) (i + 1) c15] ++ (onF (onF (hmac key (framed [headB t.serial t.tenant t.rights t.from_ t.until_])) (x.l.take i)) [e10]).map V8) H (i := 1) rfl rfl rfl cs76 (by simp [Value.oneCell', Sl.v, Gl.v]) (by rw [List.length_append, List.length_map, (show (onF (hmac key (framed [headB t.serial t.tenant t.rights t.from_ t.until_])) (x.l.take i)).length = 32 from onF_len _ (hmac_len _ _) _)]; rfl) (by rw [List.length_append, List.length_map, (show (onF (onF (hmac key (framed [headB t.serial t.tenant t.rights t.from_ t.until_])) (x.l.take i)) [e10]).length = 32 from onF_len _ (show (onF (hmac key (framed [headB t.serial t.tenant t.rights t.from_ t.until_])) (x.l.take i)).length = 32 from onF_len _ (hmac_len _ _) _) _)]; rfl) (fun w H => ?_))
                    replace H : Hp w0 w [] ([.blk b1 ((key).map V8) 31, .blk b2 ([V64 t.serial, .string ⟨(t.tenant).toArray⟩, V8 t.rights, VI t.from_, VI t.until_, .slice (hd a14) (i + 1) c15] ++ (onF (onF (hmac key (framed [headB t.serial t.tenant t.rights t.from_ t.until_])) (x.l.take i)) [e10]).map V8) 76, .own a i k ((x.l.take i).flatMap cavE) 78 2, .own a14 (i + 1) c15 ((x.l.take i ++ [e10]).flatMap cavE) 78 2, .blk b16 ([V64 t.serial, .string ⟨(t.tenant).toArray⟩, V8 t.rights, VI t.from_, VI t.until_, .slice (hd a14) (i + 1) c15] ++ (onF (onF (hmac key (framed [headB t.serial t.tenant t.rights t.from_ t.until_])) (x.l.take i)) [e10]).map V8) 76]) := H
                    first | refine l_end ?_ | refine l_nil ?_
                    repeat refine c_seq ?_
                    refine c_region ?_
                    refine l_op (o_val (r_mv) ?_)
                    refine l_op (o_val (r_bin (a := (i : Int)) (b := 1) rfl rfl (fun _ => b_add (by omega) (by omega))) ?_)
                    refine l_op (o_val (r_as) ?_)
                    first | refine l_end ?_ | refine l_nil ?_
                    have t1 := take_cav x.l i e10 he11
                    rw [← onF_app, t1] at H
                    refine round_end (i + 1, a14, c15) ?_ ?_ ?_
                    · exact ⟨rfl, rfl, rfl, rfl, show VI ((i : Int) + 1) = VI ((i + 1 : Nat) : Int) from congrArg VI (by omega), trivial⟩
                    · refine ⟨?_, ?_⟩
                      · try dsimp only
                        exact ⟨by omega, mayT_snoc _ _ e10 hmay rfl rfl t1.symm (by dsimp only; omega) hrm⟩
                      · exact H.sub (.cons_cons _ (.cons_cons _ (.cons _ (.cons_cons _ (List.nil_sublist _)))))
                    · show x.len - (i + 1 : Nat) < x.len - i; omega
                · skip
                  refine l_no rfl rfl (by exact congrArg Value.bool (decide_eq_false hc22)) rfl ?_
                  refine l_no rfl rfl (by exact congrArg Value.bool (decide_eq_false hc22)) rfl ?_
                  refine l_no rfl rfl (by exact congrArg Value.bool (decide_eq_false hc22)) rfl ?_
                  refine l_no rfl rfl (by exact congrArg Value.bool (decide_eq_false hc22)) rfl ?_
                  refine l_no rfl rfl (by exact congrArg Value.bool (decide_eq_false hc22)) rfl ?_
                  refine l_no rfl rfl (by exact congrArg Value.bool (decide_eq_false hc22)) rfl ?_
                  refine l_no rfl rfl (by exact congrArg Value.bool (decide_eq_false hc22)) rfl ?_
                  refine l_yes rfl rfl rfl (o_val (r_pick (b := false) (congrArg Value.bool (decide_eq_false hc22))) ?_)
                  refine l_yes rfl rfl rfl (o_val (r_mv) ?_)
                  refine l_no rfl rfl rfl rfl ?_
                  refine l_no rfl rfl rfl rfl ?_
                  refine l_yes rfl rfl rfl (o_val (r_pick rfl) ?_)
                  refine l_op (o_val (r_pick rfl) ?_)
                  refine l_op (o_val (r_mv) ?_)
                  refine l_yes rfl rfl rfl (o_val (r_mv) ?_)
                  refine l_yes rfl rfl rfl (o_val (r_bin (a := checkT (key) (⟨t.serial, t.tenant, t.rights, t.from_, t.until_, ⟨hd a14, i + 1, c15, x.l.take i ++ [e10]⟩, onF (onF (hmac key (framed [headB t.serial t.tenant t.rights t.from_ t.until_])) (x.l.take i)) [e10]⟩ : Tok) (now)) (b := 13) rfl rfl (fun _ => b_eqlB false (decide_eq_false (by omega)))) ?_)
                  refine l_op (o_val (r_pick rfl) ?_)
                  first | refine l_end ?_ | refine l_nil ?_
                  repeat refine c_seq ?_
                  refine c_no rfl ?_
                  refine c_skip ?_
                  repeat refine c_seq ?_
                  refine c_region ?_
                  refine l_op (o_val (r_ldA (C := [V64 t.serial, .string ⟨(t.tenant).toArray⟩, V8 t.rights, VI t.from_, VI t.until_, .slice (hd a14) (i + 1) c15] ++ (onF (onF (hmac key (framed [headB t.serial t.tenant t.rights t.from_ t.until_])) (x.l.take i)) [e10]).map V8) H (i := 4) rfl rfl rt76 (by rw [List.length_append, List.length_map, (show (onF (onF (hmac key (framed [headB t.serial t.tenant t.rights t.from_ t.until_])) (x.l.take i)) [e10]).length = 32 from onF_len _ (show (onF (hmac key (framed [headB t.serial t.tenant t.rights t.from_ t.until_])) (x.l.take i)).length = 32 from onF_len _ (hmac_len _ _) _) _)]; rfl)) ?_)
                  refine l_op (o_stW (C' := [V64 t.serial, .string ⟨(t.tenant).toArray⟩, V8 t.rights, VI t.from_, VI t.until_, .slice (hd a14) (i + 1) c15] ++ (onF (onF (hmac key (framed [headB t.serial t.tenant t.rights t.from_ t.until_])) (x.l.take i)) [e10]).map V8) H (i := 1) rfl rfl rfl cs76 (by simp [Value.oneCell', Sl.v, Gl.v]) (by rw [List.length_append, List.length_map, (show (onF (hmac key (framed [headB t.serial t.tenant t.rights t.from_ t.until_])) (x.l.take i)).length = 32 from onF_len _ (hmac_len _ _) _)]; rfl) (by rw [List.length_append, List.length_map, (show (onF (onF (hmac key (framed [headB t.serial t.tenant t.rights t.from_ t.until_])) (x.l.take i)) [e10]).length = 32 from onF_len _ (show (onF (hmac key (framed [headB t.serial t.tenant t.rights t.from_ t.until_])) (x.l.take i)).length = 32 from onF_len _ (hmac_len _ _) _) _)]; rfl) (fun w H => ?_))
                  replace H : Hp w0 w [] ([.blk b1 ((key).map V8) 31, .blk b2 ([V64 t.serial, .string ⟨(t.tenant).toArray⟩, V8 t.rights, VI t.from_, VI t.until_, .slice (hd a14) (i + 1) c15] ++ (onF (onF (hmac key (framed [headB t.serial t.tenant t.rights t.from_ t.until_])) (x.l.take i)) [e10]).map V8) 76, .own a i k ((x.l.take i).flatMap cavE) 78 2, .own a14 (i + 1) c15 ((x.l.take i ++ [e10]).flatMap cavE) 78 2, .blk b16 ([V64 t.serial, .string ⟨(t.tenant).toArray⟩, V8 t.rights, VI t.from_, VI t.until_, .slice (hd a14) (i + 1) c15] ++ (onF (onF (hmac key (framed [headB t.serial t.tenant t.rights t.from_ t.until_])) (x.l.take i)) [e10]).map V8) 76]) := H
                  first | refine l_end ?_ | refine l_nil ?_
                  repeat refine c_seq ?_
                  refine c_region ?_
                  refine l_op (o_val (r_mv) ?_)
                  refine l_op (o_val (r_bin (a := (i : Int)) (b := 1) rfl rfl (fun _ => b_add (by omega) (by omega))) ?_)
                  refine l_op (o_val (r_as) ?_)
                  first | refine l_end ?_ | refine l_nil ?_
                  have t1 := take_cav x.l i e10 he11
                  rw [← onF_app, t1] at H
                  refine round_end (i + 1, a14, c15) ?_ ?_ ?_
                  · exact ⟨rfl, rfl, rfl, rfl, show VI ((i : Int) + 1) = VI ((i + 1 : Nat) : Int) from congrArg VI (by omega), trivial⟩
                  · refine ⟨?_, ?_⟩
                    · try dsimp only
                      exact ⟨by omega, mayT_snoc _ _ e10 hmay rfl rfl t1.symm (by dsimp only; omega) hrm⟩
                    · exact H.sub (.cons_cons _ (.cons_cons _ (.cons _ (.cons_cons _ (List.nil_sublist _)))))
                  · show x.len - (i + 1 : Nat) < x.len - i; omega
              · skip
                refine l_no rfl rfl (by exact congrArg Value.bool (decide_eq_false hc21)) rfl ?_
                refine l_no rfl rfl (by exact congrArg Value.bool (decide_eq_false hc21)) rfl ?_
                refine l_yes rfl rfl rfl (o_val (r_pick (b := false) (congrArg Value.bool (decide_eq_false hc21))) ?_)
                refine l_op (o_val (r_pick rfl) ?_)
                refine l_op (o_val (r_mv) ?_)
                refine l_yes rfl rfl rfl (o_val (r_mv) ?_)
                refine l_yes rfl rfl rfl (o_val (r_bin (a := checkT (key) (⟨t.serial, t.tenant, t.rights, t.from_, t.until_, ⟨hd a, i, k, x.l.take i⟩, onF (hmac key (framed [headB t.serial t.tenant t.rights t.from_ t.until_])) (x.l.take i)⟩ : Tok) (now)) (b := 0) rfl rfl (fun _ => b_eql)) ?_)
                refine l_yes rfl rfl rfl (o_val (r_mv) ?_)
                by_cases hc24 : checkT (key) (⟨t.serial, t.tenant, t.rights, t.from_, t.until_, ⟨hd a, i, k, x.l.take i⟩, onF (hmac key (framed [headB t.serial t.tenant t.rights t.from_ t.until_])) (x.l.take i)⟩ : Tok) (now) = 0
                · skip
                  refine l_yes rfl rfl (by exact congrArg Value.bool (decide_eq_true hc24)) (o_val (r_mv) ?_)
                  refine l_yes rfl rfl (by exact congrArg Value.bool (decide_eq_true hc24)) (o_val (r_mv) ?_)
                  refine l_yes rfl rfl (by exact congrArg Value.bool (decide_eq_true hc24)) (o_val (r_mv) ?_)
                  refine l_yes rfl rfl (by exact congrArg Value.bool (decide_eq_true hc24)) (o_val (r_isN i rfl rfl el74 ah9 (by omega) (by (try simp only [Sl.cut]); omega)) ?_)
                  refine l_yes rfl rfl (by exact congrArg Value.bool (decide_eq_true hc24)) (o_val (r_fa rfl fo78_1) ?_)
                  refine l_yes rfl rfl (by exact congrArg Value.bool (decide_eq_true hc24)) (o_val (r_ldFld (v := VI e10.2) (s := x) (k := i) (off := 1) (hx.up H) ah9 rfl ct2 he11 (by decide) rfl) ?_)
                  refine l_yes rfl rfl (by exact congrArg Value.bool (decide_eq_true hc24)) (o_val (r_bin (a := now) (b := e10.2) rfl rfl (fun _ => b_lss)) ?_)
                  refine l_yes rfl rfl rfl (o_val (r_pick (b := true) (congrArg Value.bool (decide_eq_true hc24))) ?_)
                  refine l_yes rfl rfl rfl (o_val (r_mv) ?_)
                  by_cases hc25 : now < e10.2
                  · skip
                    refine l_yes rfl rfl (by exact congrArg Value.bool (decide_eq_true hc25)) (o_val (r_mv) ?_)
                    refine l_yes rfl rfl (by exact congrArg Value.bool (decide_eq_true hc25)) (o_val (r_bin (a := checkT (key) (⟨t.serial, t.tenant, t.rights, t.from_, t.until_, ⟨hd a14, i + 1, c15, x.l.take i ++ [e10]⟩, onF (onF (hmac key (framed [headB t.serial t.tenant t.rights t.from_ t.until_])) (x.l.take i)) [e10]⟩ : Tok) (now)) (b := 0) rfl rfl (fun _ => b_neqB false (decide_eq_false (by omega)))) ?_)
                    refine l_yes rfl rfl rfl (o_val (r_pick (b := true) (congrArg Value.bool (decide_eq_true hc25))) ?_)
                    refine l_op (o_val (r_pick rfl) ?_)
                    refine l_op (o_val (r_mv) ?_)
                    refine l_yes rfl rfl rfl (o_val (r_mv) ?_)
                    refine l_yes rfl rfl rfl (o_val (r_bin (a := checkT (key) (⟨t.serial, t.tenant, t.rights, t.from_, t.until_, ⟨hd a14, i + 1, c15, x.l.take i ++ [e10]⟩, onF (onF (hmac key (framed [headB t.serial t.tenant t.rights t.from_ t.until_])) (x.l.take i)) [e10]⟩ : Tok) (now)) (b := 13) rfl rfl (fun _ => b_eqlB false (decide_eq_false (by omega)))) ?_)
                    refine l_op (o_val (r_pick rfl) ?_)
                    first | refine l_end ?_ | refine l_nil ?_
                    repeat refine c_seq ?_
                    refine c_no rfl ?_
                    refine c_skip ?_
                    repeat refine c_seq ?_
                    refine c_region ?_
                    refine l_op (o_val (r_ldA (C := [V64 t.serial, .string ⟨(t.tenant).toArray⟩, V8 t.rights, VI t.from_, VI t.until_, .slice (hd a14) (i + 1) c15] ++ (onF (onF (hmac key (framed [headB t.serial t.tenant t.rights t.from_ t.until_])) (x.l.take i)) [e10]).map V8) H (i := 4) rfl rfl rt76 (by rw [List.length_append, List.length_map, (show (onF (onF (hmac key (framed [headB t.serial t.tenant t.rights t.from_ t.until_])) (x.l.take i)) [e10]).length = 32 from onF_len _ (show (onF (hmac key (framed [headB t.serial t.tenant t.rights t.from_ t.until_])) (x.l.take i)).length = 32 from onF_len _ (hmac_len _ _) _) _)]; rfl)) ?_)
                    refine l_op (o_stW (C' := [V64 t.serial, .string ⟨(t.tenant).toArray⟩, V8 t.rights, VI t.from_, VI t.until_, .slice (hd a14) (i + 1) c15] ++ (onF (onF (hmac key (framed [headB t.serial t.tenant t.rights t.from_ t.until_])) (x.l.take i)) [e10]).map V8) H (i := 1) rfl rfl rfl cs76 (by simp [Value.oneCell', Sl.v, Gl.v]) (by rw [List.length_append, List.length_map, (show (onF (hmac key (framed [headB t.serial t.tenant t.rights t.from_ t.until_])) (x.l.take i)).length = 32 from onF_len _ (hmac_len _ _) _)]; rfl) (by rw [List.length_append, List.length_map, (show (onF (onF (hmac key (framed [headB t.serial t.tenant t.rights t.from_ t.until_])) (x.l.take i)) [e10]).length = 32 from onF_len _ (show (onF (hmac key (framed [headB t.serial t.tenant t.rights t.from_ t.until_])) (x.l.take i)).length = 32 from onF_len _ (hmac_len _ _) _) _)]; rfl) (fun w H => ?_))
                    replace H : Hp w0 w [] ([.blk b1 ((key).map V8) 31, .blk b2 ([V64 t.serial, .string ⟨(t.tenant).toArray⟩, V8 t.rights, VI t.from_, VI t.until_, .slice (hd a14) (i + 1) c15] ++ (onF (onF (hmac key (framed [headB t.serial t.tenant t.rights t.from_ t.until_])) (x.l.take i)) [e10]).map V8) 76, .own a i k ((x.l.take i).flatMap cavE) 78 2, .own a14 (i + 1) c15 ((x.l.take i ++ [e10]).flatMap cavE) 78 2, .blk b16 ([V64 t.serial, .string ⟨(t.tenant).toArray⟩, V8 t.rights, VI t.from_, VI t.until_, .slice (hd a14) (i + 1) c15] ++ (onF (onF (hmac key (framed [headB t.serial t.tenant t.rights t.from_ t.until_])) (x.l.take i)) [e10]).map V8) 76]) := H
                    first | refine l_end ?_ | refine l_nil ?_
                    repeat refine c_seq ?_
                    refine c_region ?_
                    refine l_op (o_val (r_mv) ?_)
                    refine l_op (o_val (r_bin (a := (i : Int)) (b := 1) rfl rfl (fun _ => b_add (by omega) (by omega))) ?_)
                    refine l_op (o_val (r_as) ?_)
                    first | refine l_end ?_ | refine l_nil ?_
                    have t1 := take_cav x.l i e10 he11
                    rw [← onF_app, t1] at H
                    refine round_end (i + 1, a14, c15) ?_ ?_ ?_
                    · exact ⟨rfl, rfl, rfl, rfl, show VI ((i : Int) + 1) = VI ((i + 1 : Nat) : Int) from congrArg VI (by omega), trivial⟩
                    · refine ⟨?_, ?_⟩
                      · try dsimp only
                        exact ⟨by omega, mayT_snoc _ _ e10 hmay rfl rfl t1.symm (by dsimp only; omega) hrm⟩
                      · exact H.sub (.cons_cons _ (.cons_cons _ (.cons _ (.cons_cons _ (List.nil_sublist _)))))
                    · show x.len - (i + 1 : Nat) < x.len - i; omega
                  · skip
                    refine l_no rfl rfl (by exact congrArg Value.bool (decide_eq_false hc25)) rfl ?_
                    refine l_no rfl rfl (by exact congrArg Value.bool (decide_eq_false hc25)) rfl ?_
                    refine l_yes rfl rfl rfl (o_val (r_pick (b := false) (congrArg Value.bool (decide_eq_false hc25))) ?_)
                    refine l_op (o_val (r_pick rfl) ?_)
                    refine l_op (o_val (r_mv) ?_)
                    refine l_yes rfl rfl rfl (o_val (r_mv) ?_)
                    refine l_yes rfl rfl rfl (o_val (r_bin (a := checkT (key) (⟨t.serial, t.tenant, t.rights, t.from_, t.until_, ⟨hd a14, i + 1, c15, x.l.take i ++ [e10]⟩, onF (onF (hmac key (framed [headB t.serial t.tenant t.rights t.from_ t.until_])) (x.l.take i)) [e10]⟩ : Tok) (now)) (b := 13) rfl rfl (fun _ => b_eqlB false (decide_eq_false (by omega)))) ?_)
                    refine l_op (o_val (r_pick rfl) ?_)
                    first | refine l_end ?_ | refine l_nil ?_
                    repeat refine c_seq ?_
                    refine c_no rfl ?_
                    refine c_skip ?_
                    repeat refine c_seq ?_
                    refine c_region ?_
                    refine l_op (o_val (r_ldA (C := [V64 t.serial, .string ⟨(t.tenant).toArray⟩, V8 t.rights, VI t.from_, VI t.until_, .slice (hd a14) (i + 1) c15] ++ (onF (onF (hmac key (framed [headB t.serial t.tenant t.rights t.from_ t.until_])) (x.l.take i)) [e10]).map V8) H (i := 4) rfl rfl rt76 (by rw [List.length_append, List.length_map, (show (onF (onF (hmac key (framed [headB t.serial t.tenant t.rights t.from_ t.until_])) (x.l.take i)) [e10]).length = 32 from onF_len _ (show (onF (hmac key (framed [headB t.serial t.tenant t.rights t.from_ t.until_])) (x.l.take i)).length = 32 from onF_len _ (hmac_len _ _) _) _)]; rfl)) ?_)
                    refine l_op (o_stW (C' := [V64 t.serial, .string ⟨(t.tenant).toArray⟩, V8 t.rights, VI t.from_, VI t.until_, .slice (hd a14) (i + 1) c15] ++ (onF (onF (hmac key (framed [headB t.serial t.tenant t.rights t.from_ t.until_])) (x.l.take i)) [e10]).map V8) H (i := 1) rfl rfl rfl cs76 (by simp [Value.oneCell', Sl.v, Gl.v]) (by rw [List.length_append, List.length_map, (show (onF (hmac key (framed [headB t.serial t.tenant t.rights t.from_ t.until_])) (x.l.take i)).length = 32 from onF_len _ (hmac_len _ _) _)]; rfl) (by rw [List.length_append, List.length_map, (show (onF (onF (hmac key (framed [headB t.serial t.tenant t.rights t.from_ t.until_])) (x.l.take i)) [e10]).length = 32 from onF_len _ (show (onF (hmac key (framed [headB t.serial t.tenant t.rights t.from_ t.until_])) (x.l.take i)).length = 32 from onF_len _ (hmac_len _ _) _) _)]; rfl) (fun w H => ?_))
                    replace H : Hp w0 w [] ([.blk b1 ((key).map V8) 31, .blk b2 ([V64 t.serial, .string ⟨(t.tenant).toArray⟩, V8 t.rights, VI t.from_, VI t.until_, .slice (hd a14) (i + 1) c15] ++ (onF (onF (hmac key (framed [headB t.serial t.tenant t.rights t.from_ t.until_])) (x.l.take i)) [e10]).map V8) 76, .own a i k ((x.l.take i).flatMap cavE) 78 2, .own a14 (i + 1) c15 ((x.l.take i ++ [e10]).flatMap cavE) 78 2, .blk b16 ([V64 t.serial, .string ⟨(t.tenant).toArray⟩, V8 t.rights, VI t.from_, VI t.until_, .slice (hd a14) (i + 1) c15] ++ (onF (onF (hmac key (framed [headB t.serial t.tenant t.rights t.from_ t.until_])) (x.l.take i)) [e10]).map V8) 76]) := H
                    first | refine l_end ?_ | refine l_nil ?_
                    repeat refine c_seq ?_
                    refine c_region ?_
                    refine l_op (o_val (r_mv) ?_)
                    refine l_op (o_val (r_bin (a := (i : Int)) (b := 1) rfl rfl (fun _ => b_add (by omega) (by omega))) ?_)
                    refine l_op (o_val (r_as) ?_)
                    first | refine l_end ?_ | refine l_nil ?_
                    have t1 := take_cav x.l i e10 he11
                    rw [← onF_app, t1] at H
                    refine round_end (i + 1, a14, c15) ?_ ?_ ?_
                    · exact ⟨rfl, rfl, rfl, rfl, show VI ((i : Int) + 1) = VI ((i + 1 : Nat) : Int) from congrArg VI (by omega), trivial⟩
                    · refine ⟨?_, ?_⟩
                      · try dsimp only
                        exact ⟨by omega, mayT_snoc _ _ e10 hmay rfl rfl t1.symm (by dsimp only; omega) hrm⟩
                      · exact H.sub (.cons_cons _ (.cons_cons _ (.cons _ (.cons_cons _ (List.nil_sublist _)))))
                    · show x.len - (i + 1 : Nat) < x.len - i; omega
                · skip
                  refine l_no rfl rfl (by exact congrArg Value.bool (decide_eq_false hc24)) rfl ?_
                  refine l_no rfl rfl (by exact congrArg Value.bool (decide_eq_false hc24)) rfl ?_
                  refine l_no rfl rfl (by exact congrArg Value.bool (decide_eq_false hc24)) rfl ?_
                  refine l_no rfl rfl (by exact congrArg Value.bool (decide_eq_false hc24)) rfl ?_
                  refine l_no rfl rfl (by exact congrArg Value.bool (decide_eq_false hc24)) rfl ?_
                  refine l_no rfl rfl (by exact congrArg Value.bool (decide_eq_false hc24)) rfl ?_
                  refine l_no rfl rfl (by exact congrArg Value.bool (decide_eq_false hc24)) rfl ?_
                  refine l_yes rfl rfl rfl (o_val (r_pick (b := false) (congrArg Value.bool (decide_eq_false hc24))) ?_)
                  refine l_yes rfl rfl rfl (o_val (r_mv) ?_)
                  refine l_no rfl rfl rfl rfl ?_
                  refine l_no rfl rfl rfl rfl ?_
                  refine l_yes rfl rfl rfl (o_val (r_pick rfl) ?_)
                  refine l_op (o_val (r_pick rfl) ?_)
                  refine l_op (o_val (r_mv) ?_)
                  refine l_yes rfl rfl rfl (o_val (r_mv) ?_)
                  refine l_yes rfl rfl rfl (o_val (r_bin (a := checkT (key) (⟨t.serial, t.tenant, t.rights, t.from_, t.until_, ⟨hd a14, i + 1, c15, x.l.take i ++ [e10]⟩, onF (onF (hmac key (framed [headB t.serial t.tenant t.rights t.from_ t.until_])) (x.l.take i)) [e10]⟩ : Tok) (now)) (b := 13) rfl rfl (fun _ => b_eqlB false (decide_eq_false (by omega)))) ?_)
                  refine l_op (o_val (r_pick rfl) ?_)
                  first | refine l_end ?_ | refine l_nil ?_
                  repeat refine c_seq ?_
                  refine c_no rfl ?_
                  refine c_skip ?_
                  repeat refine c_seq ?_
                  refine c_region ?_
                  refine l_op (o_val (r_ldA (C := [V64 t.serial, .string ⟨(t.tenant).toArray⟩, V8 t.rights, VI t.from_, VI t.until_, .slice (hd a14) (i + 1) c15] ++ (onF (onF (hmac key (framed [headB t.serial t.tenant t.rights t.from_ t.until_])) (x.l.take i)) [e10]).map V8) H (i := 4) rfl rfl rt76 (by rw [List.length_append, List.length_map, (show (onF (onF (hmac key (framed [headB t.serial t.tenant t.rights t.from_ t.until_])) (x.l.take i)) [e10]).length = 32 from onF_len _ (show (onF (hmac key (framed [headB t.serial t.tenant t.rights t.from_ t.until_])) (x.l.take i)).length = 32 from onF_len _ (hmac_len _ _) _) _)]; rfl)) ?_)
                  refine l_op (o_stW (C' := [V64 t.serial, .string ⟨(t.tenant).toArray⟩, V8 t.rights, VI t.from_, VI t.until_, .slice (hd a14) (i + 1) c15] ++ (onF (onF (hmac key (framed [headB t.serial t.tenant t.rights t.from_ t.until_])) (x.l.take i)) [e10]).map V8) H (i := 1) rfl rfl rfl cs76 (by simp [Value.oneCell', Sl.v, Gl.v]) (by rw [List.length_append, List.length_map, (show (onF (hmac key (framed [headB t.serial t.tenant t.rights t.from_ t.until_])) (x.l.take i)).length = 32 from onF_len _ (hmac_len _ _) _)]; rfl) (by rw [List.length_append, List.length_map, (show (onF (onF (hmac key (framed [headB t.serial t.tenant t.rights t.from_ t.until_])) (x.l.take i)) [e10]).length = 32 from onF_len _ (show (onF (hmac key (framed [headB t.serial t.tenant t.rights t.from_ t.until_])) (x.l.take i)).length = 32 from onF_len _ (hmac_len _ _) _) _)]; rfl) (fun w H => ?_))
                  replace H : Hp w0 w [] ([.blk b1 ((key).map V8) 31, .blk b2 ([V64 t.serial, .string ⟨(t.tenant).toArray⟩, V8 t.rights, VI t.from_, VI t.until_, .slice (hd a14) (i + 1) c15] ++ (onF (onF (hmac key (framed [headB t.serial t.tenant t.rights t.from_ t.until_])) (x.l.take i)) [e10]).map V8) 76, .own a i k ((x.l.take i).flatMap cavE) 78 2, .own a14 (i + 1) c15 ((x.l.take i ++ [e10]).flatMap cavE) 78 2, .blk b16 ([V64 t.serial, .string ⟨(t.tenant).toArray⟩, V8 t.rights, VI t.from_, VI t.until_, .slice (hd a14) (i + 1) c15] ++ (onF (onF (hmac key (framed [headB t.serial t.tenant t.rights t.from_ t.until_])) (x.l.take i)) [e10]).map V8) 76]) := H
                  first | refine l_end ?_ | refine l_nil ?_
                  repeat refine c_seq ?_
                  refine c_region ?_
                  refine l_op (o_val (r_mv) ?_)
                  refine l_op (o_val (r_bin (a := (i : Int)) (b := 1) rfl rfl (fun _ => b_add (by omega) (by omega))) ?_)
                  refine l_op (o_val (r_as) ?_)
                  first | refine l_end ?_ | refine l_nil ?_
                  have t1 := take_cav x.l i e10 he11
                  rw [← onF_app, t1] at H
                  refine round_end (i + 1, a14, c15) ?_ ?_ ?_
                  · exact ⟨rfl, rfl, rfl, rfl, show VI ((i : Int) + 1) = VI ((i + 1 : Nat) : Int) from congrArg VI (by omega), trivial⟩
                  · refine ⟨?_, ?_⟩
                    · try dsimp only
                      exact ⟨by omega, mayT_snoc _ _ e10 hmay rfl rfl t1.symm (by dsimp only; omega) hrm⟩
                    · exact H.sub (.cons_cons _ (.cons_cons _ (.cons _ (.cons_cons _ (List.nil_sublist _)))))
                  · show x.len - (i + 1 : Nat) < x.len - i; omega
            · skip
              refine (o_alloc H zc76 (fun b26 w H hb26 => ?_))
              replace H : Hp w0 w [] ([.blk b1 ((key).map V8) 31, .blk b2 ([V64 t.serial, .string ⟨(t.tenant).toArray⟩, V8 t.rights, VI t.from_, VI t.until_, .slice (hd a) i k] ++ (onF (hmac key (framed [headB t.serial t.tenant t.rights t.from_ t.until_])) (x.l.take i)).map V8) 76, .own a i k ((x.l.take i).flatMap cavE) 78 2, .blk b26 ([V64 (0 : UInt64), .string ⟨(([] : List UInt8)).toArray⟩, V8 (0 : UInt8), VI 0, VI 0, .slice none 0 0] ++ (List.replicate 32 (0 : UInt8)).map V8) 76]) := H
              refine ⟨H.sub (.cons_cons _ (.cons_cons _ (.cons_cons _ (List.nil_sublist _)))), ?_⟩
              replace HS := H.sub (.cons_cons _ (.cons_cons _ (.cons_cons _ (List.nil_sublist _))))
              refine t_step 5 rfl (by kernel_rfl) (o_callR Try.func70 rfl rfl rfl (less_ok _ (⟨t.serial, t.tenant, t.rights, t.from_, t.until_, ⟨hd a, i, k, x.l.take i⟩, onF (hmac key (framed [headB t.serial t.tenant t.rights t.from_ t.until_])) (x.l.take i)⟩ : Tok) e10 (H.glOwn (i := 2) rfl (by decide) (fun _ _ => rfl)) (show (onF (hmac key (framed [headB t.serial t.tenant t.rights t.from_ t.until_])) (x.l.take i)).length = 32 from onF_len _ (hmac_len _ _) _) (by first | omega | (dsimp only; omega) | simp) (by assumption) (by assumption) (by first | omega | (dsimp only; omega) | simp)) ?_)
              rintro _ w ⟨a27, c28, rfl, Hc⟩
              replace H : Hp w0 w [] ([.blk b1 ((key).map V8) 31, .blk b2 ([V64 t.serial, .string ⟨(t.tenant).toArray⟩, V8 t.rights, VI t.from_, VI t.until_, .slice (hd a) i k] ++ (onF (hmac key (framed [headB t.serial t.tenant t.rights t.from_ t.until_])) (x.l.take i)).map V8) 76, .own a i k ((x.l.take i).flatMap cavE) 78 2, .blk b26 ([V64 (0 : UInt64), .string ⟨(([] : List UInt8)).toArray⟩, V8 (0 : UInt8), VI 0, VI 0, .slice none 0 0] ++ (List.replicate 32 (0 : UInt8)).map V8) 76, .own a27 (i + 1) c28 ((x.l.take i ++ [e10]).flatMap cavE) 78 2]) := H.call Hc
              clear Hc
              refine ⟨H.sub (.cons_cons _ (.cons_cons _ (.cons_cons _ (List.nil_sublist _)))), ?_⟩
              replace HS := H.sub (.cons_cons _ (.cons_cons _ (.cons_cons _ (List.nil_sublist _))))
              refine t_take 6 rfl (by kernel_rfl) (by kernel_rfl) (by kernel_rfl) (fun _ _ _ h => h) (fun w HS => r_mv) HS ?_
              refine t_take 7 rfl (by kernel_rfl) (by kernel_rfl) (by kernel_rfl) (fun _ _ _ h => h) (fun w HS => r_ext rfl rfl) HS ?_
              refine t_take 8 rfl (by kernel_rfl) (by kernel_rfl) (by kernel_rfl) (fun _ _ _ h => h) (fun w HS => r_ext rfl rfl) HS ?_
              refine t_step 10 rfl (by kernel_rfl) (o_stW (C' := [V64 t.serial, .string ⟨(t.tenant).toArray⟩, V8 t.rights, VI t.from_, VI t.until_, .slice (hd a27) (i + 1) c28] ++ (onF (onF (hmac key (framed [headB t.serial t.tenant t.rights t.from_ t.until_])) (x.l.take i)) [e10]).map V8) H (i := 3) rfl rfl rfl cs76 (by simp [Value.oneCell', Sl.v, Gl.v]) (by rw [List.length_append, List.length_map, (show (List.replicate 32 (0 : UInt8)).length = 32 from (List.length_replicate ..))]; rfl) (by rw [List.length_append, List.length_map, (show (onF (onF (hmac key (framed [headB t.serial t.tenant t.rights t.from_ t.until_])) (x.l.take i)) [e10]).length = 32 from onF_len _ (show (onF (hmac key (framed [headB t.serial t.tenant t.rights t.from_ t.until_])) (x.l.take i)).length = 32 from onF_len _ (hmac_len _ _) _) _)]; rfl) (fun w H => ?_))
              replace H : Hp w0 w [] ([.blk b1 ((key).map V8) 31, .blk b2 ([V64 t.serial, .string ⟨(t.tenant).toArray⟩, V8 t.rights, VI t.from_, VI t.until_, .slice (hd a) i k] ++ (onF (hmac key (framed [headB t.serial t.tenant t.rights t.from_ t.until_])) (x.l.take i)).map V8) 76, .own a i k ((x.l.take i).flatMap cavE) 78 2, .blk b26 ([V64 t.serial, .string ⟨(t.tenant).toArray⟩, V8 t.rights, VI t.from_, VI t.until_, .slice (hd a27) (i + 1) c28] ++ (onF (onF (hmac key (framed [headB t.serial t.tenant t.rights t.from_ t.until_])) (x.l.take i)) [e10]).map V8) 76, .own a27 (i + 1) c28 ((x.l.take i ++ [e10]).flatMap cavE) 78 2]) := H
              refine ⟨H.sub (.cons_cons _ (.cons_cons _ (.cons_cons _ (List.nil_sublist _)))), ?_⟩
              replace HS := H.sub (.cons_cons _ (.cons_cons _ (.cons_cons _ (List.nil_sublist _))))
              refine t_take 11 rfl (by kernel_rfl) (by kernel_rfl) (by kernel_rfl) (fun _ _ _ h => h) (fun w HS => r_as) HS ?_
              refine t_done (by kernel_rfl) ?_
              clear HS
              repeat refine c_seq ?_
              refine c_region ?_
              refine l_op (o_val (r_mv) ?_)
              refine l_op (o_val (r_bin (a := 0) (b := 0) rfl rfl (fun _ => b_neqB false (decide_eq_false (by decide)))) ?_)
              first | refine l_end ?_ | refine l_nil ?_
              repeat refine c_seq ?_
              refine c_no rfl ?_
              refine c_skip ?_
              repeat refine c_seq ?_
              refine c_region ?_
              refine l_op (o_val (r_ldA (C := [V64 t.serial, .string ⟨(t.tenant).toArray⟩, V8 t.rights, VI t.from_, VI t.until_, .slice (hd a) i k] ++ (onF (hmac key (framed [headB t.serial t.tenant t.rights t.from_ t.until_])) (x.l.take i)).map V8) H (i := 1) rfl rfl rt76 (by rw [List.length_append, List.length_map, (show (onF (hmac key (framed [headB t.serial t.tenant t.rights t.from_ t.until_])) (x.l.take i)).length = 32 from onF_len _ (hmac_len _ _) _)]; rfl)) ?_)
              refine l_op (o_callR Try.func72 rfl rfl rfl (effect_ret _ (⟨t.serial, t.tenant, t.rights, t.from_, t.until_, ⟨hd a, i, k, x.l.take i⟩, onF (hmac key (framed [headB t.serial t.tenant t.rights t.from_ t.until_])) (x.l.take i)⟩ : Tok) (H.glOwn (i := 2) rfl (by decide) (fun _ _ => rfl)) (show (onF (hmac key (framed [headB t.serial t.tenant t.rights t.from_ t.until_])) (x.l.take i)).length = 32 from onF_len _ (hmac_len _ _) _)) ?_)
              rintro _ w ⟨rfl, Hc⟩
              replace H : Hp w0 w [] ([.blk b1 ((key).map V8) 31, .blk b2 ([V64 t.serial, .string ⟨(t.tenant).toArray⟩, V8 t.rights, VI t.from_, VI t.until_, .slice (hd a) i k] ++ (onF (hmac key (framed [headB t.serial t.tenant t.rights t.from_ t.until_])) (x.l.take i)).map V8) 76, .own a i k ((x.l.take i).flatMap cavE) 78 2, .blk b26 ([V64 t.serial, .string ⟨(t.tenant).toArray⟩, V8 t.rights, VI t.from_, VI t.until_, .slice (hd a27) (i + 1) c28] ++ (onF (onF (hmac key (framed [headB t.serial t.tenant t.rights t.from_ t.until_])) (x.l.take i)) [e10]).map V8) 76, .own a27 (i + 1) c28 ((x.l.take i ++ [e10]).flatMap cavE) 78 2]) := H.call Hc
              clear Hc
              refine l_op (o_val (r_mv) ?_)
              refine l_op (o_val (r_ext rfl rfl) ?_)
              refine l_op (o_val (r_ext rfl rfl) ?_)
              refine l_op (o_val (r_as) ?_)
              refine l_op (o_val (r_as) ?_)
              first | refine l_end ?_ | refine l_nil ?_
              repeat refine c_seq ?_
              refine c_region ?_
              refine l_op (o_val (r_ldA (C := [V64 t.serial, .string ⟨(t.tenant).toArray⟩, V8 t.rights, VI t.from_, VI t.until_, .slice (hd a27) (i + 1) c28] ++ (onF (onF (hmac key (framed [headB t.serial t.tenant t.rights t.from_ t.until_])) (x.l.take i)) [e10]).map V8) H (i := 3) rfl rfl rt76 (by rw [List.length_append, List.length_map, (show (onF (onF (hmac key (framed [headB t.serial t.tenant t.rights t.from_ t.until_])) (x.l.take i)) [e10]).length = 32 from onF_len _ (show (onF (hmac key (framed [headB t.serial t.tenant t.rights t.from_ t.until_])) (x.l.take i)).length = 32 from onF_len _ (hmac_len _ _) _) _)]; rfl)) ?_)
              refine l_op (o_callR Try.func72 rfl rfl rfl (effect_ret _ (⟨t.serial, t.tenant, t.rights, t.from_, t.until_, ⟨hd a27, i + 1, c28, x.l.take i ++ [e10]⟩, onF (onF (hmac key (framed [headB t.serial t.tenant t.rights t.from_ t.until_])) (x.l.take i)) [e10]⟩ : Tok) (H.glOwn (i := 4) rfl (by decide) (fun _ _ => rfl)) (show (onF (onF (hmac key (framed [headB t.serial t.tenant t.rights t.from_ t.until_])) (x.l.take i)) [e10]).length = 32 from onF_len _ (show (onF (hmac key (framed [headB t.serial t.tenant t.rights t.from_ t.until_])) (x.l.take i)).length = 32 from onF_len _ (hmac_len _ _) _) _)) ?_)
              rintro _ w ⟨rfl, Hc⟩
              replace H : Hp w0 w [] ([.blk b1 ((key).map V8) 31, .blk b2 ([V64 t.serial, .string ⟨(t.tenant).toArray⟩, V8 t.rights, VI t.from_, VI t.until_, .slice (hd a) i k] ++ (onF (hmac key (framed [headB t.serial t.tenant t.rights t.from_ t.until_])) (x.l.take i)).map V8) 76, .own a i k ((x.l.take i).flatMap cavE) 78 2, .blk b26 ([V64 t.serial, .string ⟨(t.tenant).toArray⟩, V8 t.rights, VI t.from_, VI t.until_, .slice (hd a27) (i + 1) c28] ++ (onF (onF (hmac key (framed [headB t.serial t.tenant t.rights t.from_ t.until_])) (x.l.take i)) [e10]).map V8) 76, .own a27 (i + 1) c28 ((x.l.take i ++ [e10]).flatMap cavE) 78 2]) := H.call Hc
              clear Hc
              refine l_op (o_val (r_mv) ?_)
              refine l_op (o_val (r_ext rfl rfl) ?_)
              refine l_op (o_val (r_ext rfl rfl) ?_)
              refine l_op (o_val (r_as) ?_)
              refine l_op (o_val (r_as) ?_)
              first | refine l_end ?_ | refine l_nil ?_
              repeat refine c_seq ?_
              refine wp_held (fun w => Hp w0 w [] [.blk b1 ((key).map V8) 31, .blk b2 ([V64 t.serial, .string ⟨(t.tenant).toArray⟩, V8 t.rights, VI t.from_, VI t.until_, .slice (hd a) i k] ++ (onF (hmac key (framed [headB t.serial t.tenant t.rights t.from_ t.until_])) (x.l.take i)).map V8) 76, .own a i k ((x.l.take i).flatMap cavE) 78 2, .blk b26 ([V64 t.serial, .string ⟨(t.tenant).toArray⟩, V8 t.rights, VI t.from_, VI t.until_, .slice (hd a27) (i + 1) c28] ++ (onF (onF (hmac key (framed [headB t.serial t.tenant t.rights t.from_ t.until_])) (x.l.take i)) [e10]).map V8) 76, .own a27 (i + 1) c28 ((x.l.take i ++ [e10]).flatMap cavE) 78 2]) mixed ?_
              replace H := H.drew
              have HS := H
              refine t_take 0 rfl (by kernel_rfl) (by kernel_rfl) (by kernel_rfl) (fun _ _ _ h => h) (fun w HS => r_ldAA (l := key) HS (i := 0) rfl rfl rt31 (show (key).length = 32 from hk)) HS ?_
              refine t_take 1 rfl (by kernel_rfl) (by kernel_rfl) (by kernel_rfl) (fun _ _ _ h => h) (fun w HS => r_ldA (C := [V64 t.serial, .string ⟨(t.tenant).toArray⟩, V8 t.rights, VI t.from_, VI t.until_, .slice (hd a) i k] ++ (onF (hmac key (framed [headB t.serial t.tenant t.rights t.from_ t.until_])) (x.l.take i)).map V8) HS (i := 1) rfl rfl rt76 (by rw [List.length_append, List.length_map, (show (onF (hmac key (framed [headB t.serial t.tenant t.rights t.from_ t.until_])) (x.l.take i)).length = 32 from onF_len _ (hmac_len _ _) _)]; rfl)) HS ?_
              refine t_take 2 rfl (by kernel_rfl) (by kernel_rfl) (by kernel_rfl) (fun _ _ _ h => h) (fun w HS => r_mv) HS ?_
              refine t_take 4 rfl (by kernel_rfl) (by kernel_rfl) (by kernel_rfl) (fun _ _ _ h => h) (fun w HS => r_ldAA (l := key) HS (i := 0) rfl rfl rt31 (show (key).length = 32 from hk)) HS ?_
              refine t_take 5 rfl (by kernel_rfl) (by kernel_rfl) (by kernel_rfl) (fun _ _ _ h => h) (fun w HS => r_ldA (C := [V64 t.serial, .string ⟨(t.tenant).toArray⟩, V8 t.rights, VI t.from_, VI t.until_, .slice (hd a27) (i + 1) c28] ++ (onF (onF (hmac key (framed [headB t.serial t.tenant t.rights t.from_ t.until_])) (x.l.take i)) [e10]).map V8) HS (i := 3) rfl rfl rt76 (by rw [List.length_append, List.length_map, (show (onF (onF (hmac key (framed [headB t.serial t.tenant t.rights t.from_ t.until_])) (x.l.take i)) [e10]).length = 32 from onF_len _ (show (onF (hmac key (framed [headB t.serial t.tenant t.rights t.from_ t.until_])) (x.l.take i)).length = 32 from onF_len _ (hmac_len _ _) _) _)]; rfl)) HS ?_
              refine t_take 6 rfl (by kernel_rfl) (by kernel_rfl) (by kernel_rfl) (fun _ _ _ h => h) (fun w HS => r_mv) HS ?_
              refine t_step 3 rfl (by kernel_rfl) (o_callR Try.func77 rfl rfl rfl (check14_ret _ (key) (show (key).length = 32 from hk) (⟨t.serial, t.tenant, t.rights, t.from_, t.until_, ⟨hd a, i, k, x.l.take i⟩, onF (hmac key (framed [headB t.serial t.tenant t.rights t.from_ t.until_])) (x.l.take i)⟩ : Tok) (H.glOwn (i := 2) rfl (by decide) (fun _ _ => rfl)) (show (onF (hmac key (framed [headB t.serial t.tenant t.rights t.from_ t.until_])) (x.l.take i)).length = 32 from onF_len _ (hmac_len _ _) _) (by first | omega | (dsimp only; omega) | simp) (now)) ?_)
              rintro _ w ⟨rfl, Hc⟩
              replace H : Hp w0 w [] ([.blk b1 ((key).map V8) 31, .blk b2 ([V64 t.serial, .string ⟨(t.tenant).toArray⟩, V8 t.rights, VI t.from_, VI t.until_, .slice (hd a) i k] ++ (onF (hmac key (framed [headB t.serial t.tenant t.rights t.from_ t.until_])) (x.l.take i)).map V8) 76, .own a i k ((x.l.take i).flatMap cavE) 78 2, .blk b26 ([V64 t.serial, .string ⟨(t.tenant).toArray⟩, V8 t.rights, VI t.from_, VI t.until_, .slice (hd a27) (i + 1) c28] ++ (onF (onF (hmac key (framed [headB t.serial t.tenant t.rights t.from_ t.until_])) (x.l.take i)) [e10]).map V8) 76, .own a27 (i + 1) c28 ((x.l.take i ++ [e10]).flatMap cavE) 78 2]) := H.call Hc
              clear Hc
              refine ⟨H, ?_⟩
              replace HS := H
              refine t_step 7 rfl (by kernel_rfl) (o_callR Try.func77 rfl rfl rfl (check14_ret _ (key) (show (key).length = 32 from hk) (⟨t.serial, t.tenant, t.rights, t.from_, t.until_, ⟨hd a27, i + 1, c28, x.l.take i ++ [e10]⟩, onF (onF (hmac key (framed [headB t.serial t.tenant t.rights t.from_ t.until_])) (x.l.take i)) [e10]⟩ : Tok) (H.glOwn (i := 4) rfl (by decide) (fun _ _ => rfl)) (show (onF (onF (hmac key (framed [headB t.serial t.tenant t.rights t.from_ t.until_])) (x.l.take i)) [e10]).length = 32 from onF_len _ (show (onF (hmac key (framed [headB t.serial t.tenant t.rights t.from_ t.until_])) (x.l.take i)).length = 32 from onF_len _ (hmac_len _ _) _) _) (by first | omega | (dsimp only; omega) | simp) (now)) ?_)
              rintro _ w ⟨rfl, Hc⟩
              replace H : Hp w0 w [] ([.blk b1 ((key).map V8) 31, .blk b2 ([V64 t.serial, .string ⟨(t.tenant).toArray⟩, V8 t.rights, VI t.from_, VI t.until_, .slice (hd a) i k] ++ (onF (hmac key (framed [headB t.serial t.tenant t.rights t.from_ t.until_])) (x.l.take i)).map V8) 76, .own a i k ((x.l.take i).flatMap cavE) 78 2, .blk b26 ([V64 t.serial, .string ⟨(t.tenant).toArray⟩, V8 t.rights, VI t.from_, VI t.until_, .slice (hd a27) (i + 1) c28] ++ (onF (onF (hmac key (framed [headB t.serial t.tenant t.rights t.from_ t.until_])) (x.l.take i)) [e10]).map V8) 76, .own a27 (i + 1) c28 ((x.l.take i ++ [e10]).flatMap cavE) 78 2]) := H.call Hc
              clear Hc
              refine ⟨H, ?_⟩
              replace HS := H
              refine t_take 8 rfl (by kernel_rfl) (by kernel_rfl) (by kernel_rfl) (fun _ _ _ h => h) (fun w HS => r_as) HS ?_
              refine t_take 9 rfl (by kernel_rfl) (by kernel_rfl) (by kernel_rfl) (fun _ _ _ h => h) (fun w HS => r_as) HS ?_
              refine t_done (by kernel_rfl) ?_
              clear HS
              have es := effF_snoc t.rights t.until_ (x.l.take i) e10
              have hu : (effF t.rights t.until_ (x.l.take i ++ [e10])).2 = e10.2 ∧ e10.2 < (effF t.rights t.until_ (x.l.take i)).2 ∨ (effF t.rights t.until_ (x.l.take i ++ [e10])).2 = (effF t.rights t.until_ (x.l.take i)).2 ∧ (effF t.rights t.until_ (x.l.take i)).2 ≤ e10.2 := by
                rw [es]; dsimp only; split <;> omega
              have k1 : (checkT (key) (⟨t.serial, t.tenant, t.rights, t.from_, t.until_, ⟨hd a, i, k, x.l.take i⟩, onF (hmac key (framed [headB t.serial t.tenant t.rights t.from_ t.until_])) (x.l.take i)⟩ : Tok) (now) = 0 ∨ checkT (key) (⟨t.serial, t.tenant, t.rights, t.from_, t.until_, ⟨hd a, i, k, x.l.take i⟩, onF (hmac key (framed [headB t.serial t.tenant t.rights t.from_ t.until_])) (x.l.take i)⟩ : Tok) (now) = 14) ∧ (checkT (key) (⟨t.serial, t.tenant, t.rights, t.from_, t.until_, ⟨hd a, i, k, x.l.take i⟩, onF (hmac key (framed [headB t.serial t.tenant t.rights t.from_ t.until_])) (x.l.take i)⟩ : Tok) (now) = 0 ↔ t.from_ ≤ now ∧ now < (effF t.rights t.until_ (x.l.take i)).2) := checkT_iff key (⟨t.serial, t.tenant, t.rights, t.from_, t.until_, ⟨hd a, i, k, x.l.take i⟩, onF (hmac key (framed [headB t.serial t.tenant t.rights t.from_ t.until_])) (x.l.take i)⟩ : Tok) now hmay rfl
              have k2 : (checkT (key) (⟨t.serial, t.tenant, t.rights, t.from_, t.until_, ⟨hd a27, i + 1, c28, x.l.take i ++ [e10]⟩, onF (onF (hmac key (framed [headB t.serial t.tenant t.rights t.from_ t.until_])) (x.l.take i)) [e10]⟩ : Tok) (now) = 0 ∨ checkT (key) (⟨t.serial, t.tenant, t.rights, t.from_, t.until_, ⟨hd a27, i + 1, c28, x.l.take i ++ [e10]⟩, onF (onF (hmac key (framed [headB t.serial t.tenant t.rights t.from_ t.until_])) (x.l.take i)) [e10]⟩ : Tok) (now) = 14) ∧ (checkT (key) (⟨t.serial, t.tenant, t.rights, t.from_, t.until_, ⟨hd a27, i + 1, c28, x.l.take i ++ [e10]⟩, onF (onF (hmac key (framed [headB t.serial t.tenant t.rights t.from_ t.until_])) (x.l.take i)) [e10]⟩ : Tok) (now) = 0 ↔ t.from_ ≤ now ∧ now < (effF t.rights t.until_ (x.l.take i ++ [e10])).2) := checkT_iff key (⟨t.serial, t.tenant, t.rights, t.from_, t.until_, ⟨hd a27, i + 1, c28, x.l.take i ++ [e10]⟩, onF (onF (hmac key (framed [headB t.serial t.tenant t.rights t.from_ t.until_])) (x.l.take i)) [e10]⟩ : Tok) now (mayT_snoc _ _ e10 hmay rfl rfl rfl (by dsimp only; omega) hrm) (onF_app _ _ _)
              repeat refine c_seq ?_
              refine c_region ?_
              refine l_op (o_val (r_mv) ?_)
              refine l_op (o_val (r_mv) ?_)
              refine l_op (o_callR Try.func80 rfl rfl rfl (rcov_ret _ ((effF (t.rights) (t.until_) (x.l.take i)).1) ((effF (t.rights) (t.until_) (x.l.take i ++ [e10])).1)) ?_)
              rintro _ w' ⟨rfl, hw29⟩
              rw [hw29]; clear hw29 w'
              have hk30 : (rCov ((effF (t.rights) (t.until_) (x.l.take i)).1) ((effF (t.rights) (t.until_) (x.l.take i ++ [e10])).1)) = true := (by rw [es]; exact rcov_l _ _)
              refine l_op (o_val (r_not rfl) ?_)
              refine l_op (o_val (r_mv) ?_)
              refine l_yes rfl rfl (by exact congrArg Value.bool (congrArg not hk30)) (o_val (r_mv) ?_)
              refine l_yes rfl rfl (by exact congrArg Value.bool (congrArg not hk30)) (o_val (r_mv) ?_)
              refine l_yes rfl rfl (by exact congrArg Value.bool (congrArg not hk30)) (o_val (r_isN i rfl rfl el74 ah9 (by omega) (by (try simp only [Sl.cut]); omega)) ?_)
              refine l_yes rfl rfl (by exact congrArg Value.bool (congrArg not hk30)) (o_val (r_fa rfl fo78_0) ?_)
              refine l_yes rfl rfl (by exact congrArg Value.bool (congrArg not hk30)) (o_val (r_ldFld (v := V8 e10.1) (s := x) (k := i) (off := 0) (hx.up H) ah9 rfl ct73 he11 (by decide) rfl) ?_)
              refine l_yes rfl rfl (by exact congrArg Value.bool (congrArg not hk30)) (o_val (r_mv) ?_)
              refine l_yes rfl rfl (by exact congrArg Value.bool (congrArg not hk30)) (o_callR Try.func80 rfl rfl rfl (rcov_ret _ (e10.1) ((effF (t.rights) (t.until_) (x.l.take i ++ [e10])).1)) ?_)
              rintro _ w' ⟨rfl, hw31⟩
              rw [hw31]; clear hw31 w'
              have hk32 : (rCov (e10.1) ((effF (t.rights) (t.until_) (x.l.take i ++ [e10])).1)) = true := (by rw [es]; exact rcov_r _ _)
              refine l_yes rfl rfl (by exact congrArg Value.bool (congrArg not hk30)) (o_val (r_not rfl) ?_)
              refine l_op (o_val (r_pick (b := false) (congrArg Value.bool (congrArg not hk30))) ?_)
              refine l_op (o_val (r_mv) ?_)
              refine l_yes rfl rfl (by exact congrArg Value.bool (congrArg not hk32)) (o_val (r_mv) ?_)
              refine l_yes rfl rfl (by exact congrArg Value.bool (congrArg not hk32)) (o_val (r_mv) ?_)
              refine l_yes rfl rfl (by exact congrArg Value.bool (congrArg not hk32)) (o_val (r_bin (a := (effF (t.rights) (t.until_) (x.l.take i ++ [e10])).2) (b := (effF (t.rights) (t.until_) (x.l.take i)).2) rfl rfl (fun _ => b_gtrB false (decide_eq_false (by omega)))) ?_)
              refine l_op (o_val (r_pick (b := false) (congrArg Value.bool (congrArg not hk32))) ?_)
              refine l_op (o_val (r_mv) ?_)
              refine l_yes rfl rfl rfl (o_val (r_mv) ?_)
              refine l_yes rfl rfl rfl (o_val (r_mv) ?_)
              refine l_yes rfl rfl rfl (o_val (r_mv) ?_)
              refine l_yes rfl rfl rfl (o_val (r_isN i rfl rfl el74 ah9 (by omega) (by (try simp only [Sl.cut]); omega)) ?_)
              refine l_yes rfl rfl rfl (o_val (r_fa rfl fo78_1) ?_)
              refine l_yes rfl rfl rfl (o_val (r_ldFld (v := VI e10.2) (s := x) (k := i) (off := 1) (hx.up H) ah9 rfl ct2 he11 (by decide) rfl) ?_)
              refine l_yes rfl rfl rfl (o_val (r_bin (a := (effF (t.rights) (t.until_) (x.l.take i ++ [e10])).2) (b := e10.2) rfl rfl (fun _ => b_gtrB false (decide_eq_false (by omega)))) ?_)
              refine l_op (o_val (r_pick rfl) ?_)
              refine l_op (o_val (r_mv) ?_)
              refine l_yes rfl rfl rfl (o_val (r_mv) ?_)
              refine l_yes rfl rfl rfl (o_val (r_bin (a := checkT (key) (⟨t.serial, t.tenant, t.rights, t.from_, t.until_, ⟨hd a27, i + 1, c28, x.l.take i ++ [e10]⟩, onF (onF (hmac key (framed [headB t.serial t.tenant t.rights t.from_ t.until_])) (x.l.take i)) [e10]⟩ : Tok) (now)) (b := 0) rfl rfl (fun _ => b_eql)) ?_)
              refine l_yes rfl rfl rfl (o_val (r_mv) ?_)
              by_cases hc33 : checkT (key) (⟨t.serial, t.tenant, t.rights, t.from_, t.until_, ⟨hd a27, i + 1, c28, x.l.take i ++ [e10]⟩, onF (onF (hmac key (framed [headB t.serial t.tenant t.rights t.from_ t.until_])) (x.l.take i)) [e10]⟩ : Tok) (now) = 0
              · skip
                refine l_yes rfl rfl (by exact congrArg Value.bool (decide_eq_true hc33)) (o_val (r_mv) ?_)
                refine l_yes rfl rfl (by exact congrArg Value.bool (decide_eq_true hc33)) (o_val (r_bin (a := checkT (key) (⟨t.serial, t.tenant, t.rights, t.from_, t.until_, ⟨hd a, i, k, x.l.take i⟩, onF (hmac key (framed [headB t.serial t.tenant t.rights t.from_ t.until_])) (x.l.take i)⟩ : Tok) (now)) (b := 0) rfl rfl (fun _ => b_neqB false (decide_eq_false (by omega)))) ?_)
                refine l_yes rfl rfl rfl (o_val (r_pick (b := true) (congrArg Value.bool (decide_eq_true hc33))) ?_)
                refine l_op (o_val (r_pick rfl) ?_)
                refine l_op (o_val (r_mv) ?_)
                refine l_yes rfl rfl rfl (o_val (r_mv) ?_)
                refine l_yes rfl rfl rfl (o_val (r_bin (a := checkT (key) (⟨t.serial, t.tenant, t.rights, t.from_, t.until_, ⟨hd a, i, k, x.l.take i⟩, onF (hmac key (framed [headB t.serial t.tenant t.rights t.from_ t.until_])) (x.l.take i)⟩ : Tok) (now)) (b := 0) rfl rfl (fun _ => b_eql)) ?_)
                refine l_yes rfl rfl rfl (o_val (r_mv) ?_)
                by_cases hc34 : checkT (key) (⟨t.serial, t.tenant, t.rights, t.from_, t.until_, ⟨hd a, i, k, x.l.take i⟩, onF (hmac key (framed [headB t.serial t.tenant t.rights t.from_ t.until_])) (x.l.take i)⟩ : Tok) (now) = 0
                · skip
                  refine l_yes rfl rfl (by exact congrArg Value.bool (decide_eq_true hc34)) (o_val (r_mv) ?_)
                  refine l_yes rfl rfl (by exact congrArg Value.bool (decide_eq_true hc34)) (o_val (r_mv) ?_)
                  refine l_yes rfl rfl (by exact congrArg Value.bool (decide_eq_true hc34)) (o_val (r_mv) ?_)
                  refine l_yes rfl rfl (by exact congrArg Value.bool (decide_eq_true hc34)) (o_val (r_isN i rfl rfl el74 ah9 (by omega) (by (try simp only [Sl.cut]); omega)) ?_)
                  refine l_yes rfl rfl (by exact congrArg Value.bool (decide_eq_true hc34)) (o_val (r_fa rfl fo78_1) ?_)
                  refine l_yes rfl rfl (by exact congrArg Value.bool (decide_eq_true hc34)) (o_val (r_ldFld (v := VI e10.2) (s := x) (k := i) (off := 1) (hx.up H) ah9 rfl ct2 he11 (by decide) rfl) ?_)
                  refine l_yes rfl rfl (by exact congrArg Value.bool (decide_eq_true hc34)) (o_val (r_bin (a := now) (b := e10.2) rfl rfl (fun _ => b_lss)) ?_)
                  refine l_yes rfl rfl rfl (o_val (r_pick (b := true) (congrArg Value.bool (decide_eq_true hc34))) ?_)
                  refine l_yes rfl rfl rfl (o_val (r_mv) ?_)
                  by_cases hc35 : now < e10.2
                  · skip
                    refine l_yes rfl rfl (by exact congrArg Value.bool (decide_eq_true hc35)) (o_val (r_mv) ?_)
                    refine l_yes rfl rfl (by exact congrArg Value.bool (decide_eq_true hc35)) (o_val (r_bin (a := checkT (key) (⟨t.serial, t.tenant, t.rights, t.from_, t.until_, ⟨hd a27, i + 1, c28, x.l.take i ++ [e10]⟩, onF (onF (hmac key (framed [headB t.serial t.tenant t.rights t.from_ t.until_])) (x.l.take i)) [e10]⟩ : Tok) (now)) (b := 0) rfl rfl (fun _ => b_neqB false (decide_eq_false (by omega)))) ?_)
                    refine l_yes rfl rfl rfl (o_val (r_pick (b := true) (congrArg Value.bool (decide_eq_true hc35))) ?_)
                    refine l_op (o_val (r_pick rfl) ?_)
                    refine l_op (o_val (r_mv) ?_)
                    refine l_yes rfl rfl rfl (o_val (r_mv) ?_)
                    refine l_yes rfl rfl rfl (o_val (r_bin (a := checkT (key) (⟨t.serial, t.tenant, t.rights, t.from_, t.until_, ⟨hd a27, i + 1, c28, x.l.take i ++ [e10]⟩, onF (onF (hmac key (framed [headB t.serial t.tenant t.rights t.from_ t.until_])) (x.l.take i)) [e10]⟩ : Tok) (now)) (b := 13) rfl rfl (fun _ => b_eqlB false (decide_eq_false (by omega)))) ?_)
                    refine l_op (o_val (r_pick rfl) ?_)
                    first | refine l_end ?_ | refine l_nil ?_
                    repeat refine c_seq ?_
                    refine c_no rfl ?_
                    refine c_skip ?_
                    repeat refine c_seq ?_
                    refine c_region ?_
                    refine l_op (o_val (r_ldA (C := [V64 t.serial, .string ⟨(t.tenant).toArray⟩, V8 t.rights, VI t.from_, VI t.until_, .slice (hd a27) (i + 1) c28] ++ (onF (onF (hmac key (framed [headB t.serial t.tenant t.rights t.from_ t.until_])) (x.l.take i)) [e10]).map V8) H (i := 3) rfl rfl rt76 (by rw [List.length_append, List.length_map, (show (onF (onF (hmac key (framed [headB t.serial t.tenant t.rights t.from_ t.until_])) (x.l.take i)) [e10]).length = 32 from onF_len _ (show (onF (hmac key (framed [headB t.serial t.tenant t.rights t.from_ t.until_])) (x.l.take i)).length = 32 from onF_len _ (hmac_len _ _) _) _)]; rfl)) ?_)
                    refine l_op (o_stW (C' := [V64 t.serial, .string ⟨(t.tenant).toArray⟩, V8 t.rights, VI t.from_, VI t.until_, .slice (hd a27) (i + 1) c28] ++ (onF (onF (hmac key (framed [headB t.serial t.tenant t.rights t.from_ t.until_])) (x.l.take i)) [e10]).map V8) H (i := 1) rfl rfl rfl cs76 (by simp [Value.oneCell', Sl.v, Gl.v]) (by rw [List.length_append, List.length_map, (show (onF (hmac key (framed [headB t.serial t.tenant t.rights t.from_ t.until_])) (x.l.take i)).length = 32 from onF_len _ (hmac_len _ _) _)]; rfl) (by rw [List.length_append, List.length_map, (show (onF (onF (hmac key (framed [headB t.serial t.tenant t.rights t.from_ t.until_])) (x.l.take i)) [e10]).length = 32 from onF_len _ (show (onF (hmac key (framed [headB t.serial t.tenant t.rights t.from_ t.until_])) (x.l.take i)).length = 32 from onF_len _ (hmac_len _ _) _) _)]; rfl) (fun w H => ?_))
                    replace H : Hp w0 w [] ([.blk b1 ((key).map V8) 31, .blk b2 ([V64 t.serial, .string ⟨(t.tenant).toArray⟩, V8 t.rights, VI t.from_, VI t.until_, .slice (hd a27) (i + 1) c28] ++ (onF (onF (hmac key (framed [headB t.serial t.tenant t.rights t.from_ t.until_])) (x.l.take i)) [e10]).map V8) 76, .own a i k ((x.l.take i).flatMap cavE) 78 2, .blk b26 ([V64 t.serial, .string ⟨(t.tenant).toArray⟩, V8 t.rights, VI t.from_, VI t.until_, .slice (hd a27) (i + 1) c28] ++ (onF (onF (hmac key (framed [headB t.serial t.tenant t.rights t.from_ t.until_])) (x.l.take i)) [e10]).map V8) 76, .own a27 (i + 1) c28 ((x.l.take i ++ [e10]).flatMap cavE) 78 2]) := H
                    first | refine l_end ?_ | refine l_nil ?_
                    repeat refine c_seq ?_
                    refine c_region ?_
                    refine l_op (o_val (r_mv) ?_)
                    refine l_op (o_val (r_bin (a := (i : Int)) (b := 1) rfl rfl (fun _ => b_add (by omega) (by omega))) ?_)
                    refine l_op (o_val (r_as) ?_)
                    first | refine l_end ?_ | refine l_nil ?_
                    have t1 := take_cav x.l i e10 he11
                    rw [← onF_app, t1] at H
                    refine round_end (i + 1, a27, c28) ?_ ?_ ?_
                    · exact ⟨rfl, rfl, rfl, rfl, show VI ((i : Int) + 1) = VI ((i + 1 : Nat) : Int) from congrArg VI (by omega), trivial⟩
                    · refine ⟨?_, ?_⟩
                      · try dsimp only
                        exact ⟨by omega, mayT_snoc _ _ e10 hmay rfl rfl t1.symm (by dsimp only; omega) hrm⟩
                      · exact H.sub (.cons_cons _ (.cons_cons _ (.cons _ (.cons _ (.cons_cons _ (List.nil_sublist _))))))
                    · show x.len - (i + 1 : Nat) < x.len - i; omega
                  · skip
                    refine l_no rfl rfl (by exact congrArg Value.bool (decide_eq_false hc35)) rfl ?_
                    refine l_no rfl rfl (by exact congrArg Value.bool (decide_eq_false hc35)) rfl ?_
                    refine l_yes rfl rfl rfl (o_val (r_pick (b := false) (congrArg Value.bool (decide_eq_false hc35))) ?_)
                    refine l_op (o_val (r_pick rfl) ?_)
                    refine l_op (o_val (r_mv) ?_)
                    refine l_yes rfl rfl rfl (o_val (r_mv) ?_)
                    refine l_yes rfl rfl rfl (o_val (r_bin (a := checkT (key) (⟨t.serial, t.tenant, t.rights, t.from_, t.until_, ⟨hd a27, i + 1, c28, x.l.take i ++ [e10]⟩, onF (onF (hmac key (framed [headB t.serial t.tenant t.rights t.from_ t.until_])) (x.l.take i)) [e10]⟩ : Tok) (now)) (b := 13) rfl rfl (fun _ => b_eqlB false (decide_eq_false (by omega)))) ?_)
                    refine l_op (o_val (r_pick rfl) ?_)
                    first | refine l_end ?_ | refine l_nil ?_
                    repeat refine c_seq ?_
                    refine c_no rfl ?_
                    refine c_skip ?_
                    repeat refine c_seq ?_
                    refine c_region ?_
                    refine l_op (o_val (r_ldA (C := [V64 t.serial, .string ⟨(t.tenant).toArray⟩, V8 t.rights, VI t.from_, VI t.until_, .slice (hd a27) (i + 1) c28] ++ (onF (onF (hmac key (framed [headB t.serial t.tenant t.rights t.from_ t.until_])) (x.l.take i)) [e10]).map V8) H (i := 3) rfl rfl rt76 (by rw [List.length_append, List.length_map, (show (onF (onF (hmac key (framed [headB t.serial t.tenant t.rights t.from_ t.until_])) (x.l.take i)) [e10]).length = 32 from onF_len _ (show (onF (hmac key (framed [headB t.serial t.tenant t.rights t.from_ t.until_])) (x.l.take i)).length = 32 from onF_len _ (hmac_len _ _) _) _)]; rfl)) ?_)
                    refine l_op (o_stW (C' := [V64 t.serial, .string ⟨(t.tenant).toArray⟩, V8 t.rights, VI t.from_, VI t.until_, .slice (hd a27) (i + 1) c28] ++ (onF (onF (hmac key (framed [headB t.serial t.tenant t.rights t.from_ t.until_])) (x.l.take i)) [e10]).map V8) H (i := 1) rfl rfl rfl cs76 (by simp [Value.oneCell', Sl.v, Gl.v]) (by rw [List.length_append, List.length_map, (show (onF (hmac key (framed [headB t.serial t.tenant t.rights t.from_ t.until_])) (x.l.take i)).length = 32 from onF_len _ (hmac_len _ _) _)]; rfl) (by rw [List.length_append, List.length_map, (show (onF (onF (hmac key (framed [headB t.serial t.tenant t.rights t.from_ t.until_])) (x.l.take i)) [e10]).length = 32 from onF_len _ (show (onF (hmac key (framed [headB t.serial t.tenant t.rights t.from_ t.until_])) (x.l.take i)).length = 32 from onF_len _ (hmac_len _ _) _) _)]; rfl) (fun w H => ?_))
                    replace H : Hp w0 w [] ([.blk b1 ((key).map V8) 31, .blk b2 ([V64 t.serial, .string ⟨(t.tenant).toArray⟩, V8 t.rights, VI t.from_, VI t.until_, .slice (hd a27) (i + 1) c28] ++ (onF (onF (hmac key (framed [headB t.serial t.tenant t.rights t.from_ t.until_])) (x.l.take i)) [e10]).map V8) 76, .own a i k ((x.l.take i).flatMap cavE) 78 2, .blk b26 ([V64 t.serial, .string ⟨(t.tenant).toArray⟩, V8 t.rights, VI t.from_, VI t.until_, .slice (hd a27) (i + 1) c28] ++ (onF (onF (hmac key (framed [headB t.serial t.tenant t.rights t.from_ t.until_])) (x.l.take i)) [e10]).map V8) 76, .own a27 (i + 1) c28 ((x.l.take i ++ [e10]).flatMap cavE) 78 2]) := H
                    first | refine l_end ?_ | refine l_nil ?_
                    repeat refine c_seq ?_
                    refine c_region ?_
                    refine l_op (o_val (r_mv) ?_)
                    refine l_op (o_val (r_bin (a := (i : Int)) (b := 1) rfl rfl (fun _ => b_add (by omega) (by omega))) ?_)
                    refine l_op (o_val (r_as) ?_)
                    first | refine l_end ?_ | refine l_nil ?_
                    have t1 := take_cav x.l i e10 he11
                    rw [← onF_app, t1] at H
                    refine round_end (i + 1, a27, c28) ?_ ?_ ?_
                    · exact ⟨rfl, rfl, rfl, rfl, show VI ((i : Int) + 1) = VI ((i + 1 : Nat) : Int) from congrArg VI (by omega), trivial⟩
                    · refine ⟨?_, ?_⟩
                      · try dsimp only
                        exact ⟨by omega, mayT_snoc _ _ e10 hmay rfl rfl t1.symm (by dsimp only; omega) hrm⟩
                      · exact H.sub (.cons_cons _ (.cons_cons _ (.cons _ (.cons _ (.cons_cons _ (List.nil_sublist _))))))
                    · show x.len - (i + 1 : Nat) < x.len - i; omega
                · skip
                  refine l_no rfl rfl (by exact congrArg Value.bool (decide_eq_false hc34)) rfl ?_
                  refine l_no rfl rfl (by exact congrArg Value.bool (decide_eq_false hc34)) rfl ?_
                  refine l_no rfl rfl (by exact congrArg Value.bool (decide_eq_false hc34)) rfl ?_
                  refine l_no rfl rfl (by exact congrArg Value.bool (decide_eq_false hc34)) rfl ?_
                  refine l_no rfl rfl (by exact congrArg Value.bool (decide_eq_false hc34)) rfl ?_
                  refine l_no rfl rfl (by exact congrArg Value.bool (decide_eq_false hc34)) rfl ?_
                  refine l_no rfl rfl (by exact congrArg Value.bool (decide_eq_false hc34)) rfl ?_
                  refine l_yes rfl rfl rfl (o_val (r_pick (b := false) (congrArg Value.bool (decide_eq_false hc34))) ?_)
                  refine l_yes rfl rfl rfl (o_val (r_mv) ?_)
                  refine l_no rfl rfl rfl rfl ?_
                  refine l_no rfl rfl rfl rfl ?_
                  refine l_yes rfl rfl rfl (o_val (r_pick rfl) ?_)
                  refine l_op (o_val (r_pick rfl) ?_)
                  refine l_op (o_val (r_mv) ?_)
                  refine l_yes rfl rfl rfl (o_val (r_mv) ?_)
                  refine l_yes rfl rfl rfl (o_val (r_bin (a := checkT (key) (⟨t.serial, t.tenant, t.rights, t.from_, t.until_, ⟨hd a27, i + 1, c28, x.l.take i ++ [e10]⟩, onF (onF (hmac key (framed [headB t.serial t.tenant t.rights t.from_ t.until_])) (x.l.take i)) [e10]⟩ : Tok) (now)) (b := 13) rfl rfl (fun _ => b_eqlB false (decide_eq_false (by omega)))) ?_)
                  refine l_op (o_val (r_pick rfl) ?_)
                  first | refine l_end ?_ | refine l_nil ?_
                  repeat refine c_seq ?_
                  refine c_no rfl ?_
                  refine c_skip ?_
                  repeat refine c_seq ?_
                  refine c_region ?_
                  refine l_op (o_val (r_ldA (C := [V64 t.serial, .string ⟨(t.tenant).toArray⟩, V8 t.rights, VI t.from_, VI t.until_, .slice (hd a27) (i + 1) c28] ++ (onF (onF (hmac key (framed [headB t.serial t.tenant t.rights t.from_ t.until_])) (x.l.take i)) [e10]).map V8) H (i := 3) rfl rfl rt76 (by rw [List.length_append, List.length_map, (show (onF (onF (hmac key (framed [headB t.serial t.tenant t.rights t.from_ t.until_])) (x.l.take i)) [e10]).length = 32 from onF_len _ (show (onF (hmac key (framed [headB t.serial t.tenant t.rights t.from_ t.until_])) (x.l.take i)).length = 32 from onF_len _ (hmac_len _ _) _) _)]; rfl)) ?_)
                  refine l_op (o_stW (C' := [V64 t.serial, .string ⟨(t.tenant).toArray⟩, V8 t.rights, VI t.from_, VI t.until_, .slice (hd a27) (i + 1) c28] ++ (onF (onF (hmac key (framed [headB t.serial t.tenant t.rights t.from_ t.until_])) (x.l.take i)) [e10]).map V8) H (i := 1) rfl rfl rfl cs76 (by simp [Value.oneCell', Sl.v, Gl.v]) (by rw [List.length_append, List.length_map, (show (onF (hmac key (framed [headB t.serial t.tenant t.rights t.from_ t.until_])) (x.l.take i)).length = 32 from onF_len _ (hmac_len _ _) _)]; rfl) (by rw [List.length_append, List.length_map, (show (onF (onF (hmac key (framed [headB t.serial t.tenant t.rights t.from_ t.until_])) (x.l.take i)) [e10]).length = 32 from onF_len _ (show (onF (hmac key (framed [headB t.serial t.tenant t.rights t.from_ t.until_])) (x.l.take i)).length = 32 from onF_len _ (hmac_len _ _) _) _)]; rfl) (fun w H => ?_))
                  replace H : Hp w0 w [] ([.blk b1 ((key).map V8) 31, .blk b2 ([V64 t.serial, .string ⟨(t.tenant).toArray⟩, V8 t.rights, VI t.from_, VI t.until_, .slice (hd a27) (i + 1) c28] ++ (onF (onF (hmac key (framed [headB t.serial t.tenant t.rights t.from_ t.until_])) (x.l.take i)) [e10]).map V8) 76, .own a i k ((x.l.take i).flatMap cavE) 78 2, .blk b26 ([V64 t.serial, .string ⟨(t.tenant).toArray⟩, V8 t.rights, VI t.from_, VI t.until_, .slice (hd a27) (i + 1) c28] ++ (onF (onF (hmac key (framed [headB t.serial t.tenant t.rights t.from_ t.until_])) (x.l.take i)) [e10]).map V8) 76, .own a27 (i + 1) c28 ((x.l.take i ++ [e10]).flatMap cavE) 78 2]) := H
                  first | refine l_end ?_ | refine l_nil ?_
                  repeat refine c_seq ?_
                  refine c_region ?_
                  refine l_op (o_val (r_mv) ?_)
                  refine l_op (o_val (r_bin (a := (i : Int)) (b := 1) rfl rfl (fun _ => b_add (by omega) (by omega))) ?_)
                  refine l_op (o_val (r_as) ?_)
                  first | refine l_end ?_ | refine l_nil ?_
                  have t1 := take_cav x.l i e10 he11
                  rw [← onF_app, t1] at H
                  refine round_end (i + 1, a27, c28) ?_ ?_ ?_
                  · exact ⟨rfl, rfl, rfl, rfl, show VI ((i : Int) + 1) = VI ((i + 1 : Nat) : Int) from congrArg VI (by omega), trivial⟩
                  · refine ⟨?_, ?_⟩
                    · try dsimp only
                      exact ⟨by omega, mayT_snoc _ _ e10 hmay rfl rfl t1.symm (by dsimp only; omega) hrm⟩
                    · exact H.sub (.cons_cons _ (.cons_cons _ (.cons _ (.cons _ (.cons_cons _ (List.nil_sublist _))))))
                  · show x.len - (i + 1 : Nat) < x.len - i; omega
              · skip
                refine l_no rfl rfl (by exact congrArg Value.bool (decide_eq_false hc33)) rfl ?_
                refine l_no rfl rfl (by exact congrArg Value.bool (decide_eq_false hc33)) rfl ?_
                refine l_yes rfl rfl rfl (o_val (r_pick (b := false) (congrArg Value.bool (decide_eq_false hc33))) ?_)
                refine l_op (o_val (r_pick rfl) ?_)
                refine l_op (o_val (r_mv) ?_)
                refine l_yes rfl rfl rfl (o_val (r_mv) ?_)
                refine l_yes rfl rfl rfl (o_val (r_bin (a := checkT (key) (⟨t.serial, t.tenant, t.rights, t.from_, t.until_, ⟨hd a, i, k, x.l.take i⟩, onF (hmac key (framed [headB t.serial t.tenant t.rights t.from_ t.until_])) (x.l.take i)⟩ : Tok) (now)) (b := 0) rfl rfl (fun _ => b_eql)) ?_)
                refine l_yes rfl rfl rfl (o_val (r_mv) ?_)
                by_cases hc36 : checkT (key) (⟨t.serial, t.tenant, t.rights, t.from_, t.until_, ⟨hd a, i, k, x.l.take i⟩, onF (hmac key (framed [headB t.serial t.tenant t.rights t.from_ t.until_])) (x.l.take i)⟩ : Tok) (now) = 0
                · skip
                  refine l_yes rfl rfl (by exact congrArg Value.bool (decide_eq_true hc36)) (o_val (r_mv) ?_)
                  refine l_yes rfl rfl (by exact congrArg Value.bool (decide_eq_true hc36)) (o_val (r_mv) ?_)
                  refine l_yes rfl rfl (by exact congrArg Value.bool (decide_eq_true hc36)) (o_val (r_mv) ?_)
                  refine l_yes rfl rfl (by exact congrArg Value.bool (decide_eq_true hc36)) (o_val (r_isN i rfl rfl el74 ah9 (by omega) (by (try simp only [Sl.cut]); omega)) ?_)
                  refine l_yes rfl rfl (by exact congrArg Value.bool (decide_eq_true hc36)) (o_val (r_fa rfl fo78_1) ?_)
                  refine l_yes rfl rfl (by exact congrArg Value.bool (decide_eq_true hc36)) (o_val (r_ldFld (v := VI e10.2) (s := x) (k := i) (off := 1) (hx.up H) ah9 rfl ct2 he11 (by decide) rfl) ?_)
                  refine l_yes rfl rfl (by exact congrArg Value.bool (decide_eq_true hc36)) (o_val (r_bin (a := now) (b := e10.2) rfl rfl (fun _ => b_lss)) ?_)
                  refine l_yes rfl rfl rfl (o_val (r_pick (b := true) (congrArg Value.bool (decide_eq_true hc36))) ?_)
                  refine l_yes rfl rfl rfl (o_val (r_mv) ?_)
                  by_cases hc37 : now < e10.2
                  · skip
                    refine l_yes rfl rfl (by exact congrArg Value.bool (decide_eq_true hc37)) (o_val (r_mv) ?_)
                    refine l_yes rfl rfl (by exact congrArg Value.bool (decide_eq_true hc37)) (o_val (r_bin (a := checkT (key) (⟨t.serial, t.tenant, t.rights, t.from_, t.until_, ⟨hd a27, i + 1, c28, x.l.take i ++ [e10]⟩, onF (onF (hmac key (framed [headB t.serial t.tenant t.rights t.from_ t.until_])) (x.l.take i)) [e10]⟩ : Tok) (now)) (b := 0) rfl rfl (fun _ => b_neqB false (decide_eq_false (by omega)))) ?_)
                    refine l_yes rfl rfl rfl (o_val (r_pick (b := true) (congrArg Value.bool (decide_eq_true hc37))) ?_)
                    refine l_op (o_val (r_pick rfl) ?_)
                    refine l_op (o_val (r_mv) ?_)
                    refine l_yes rfl rfl rfl (o_val (r_mv) ?_)
                    refine l_yes rfl rfl rfl (o_val (r_bin (a := checkT (key) (⟨t.serial, t.tenant, t.rights, t.from_, t.until_, ⟨hd a27, i + 1, c28, x.l.take i ++ [e10]⟩, onF (onF (hmac key (framed [headB t.serial t.tenant t.rights t.from_ t.until_])) (x.l.take i)) [e10]⟩ : Tok) (now)) (b := 13) rfl rfl (fun _ => b_eqlB false (decide_eq_false (by omega)))) ?_)
                    refine l_op (o_val (r_pick rfl) ?_)
                    first | refine l_end ?_ | refine l_nil ?_
                    repeat refine c_seq ?_
                    refine c_no rfl ?_
                    refine c_skip ?_
                    repeat refine c_seq ?_
                    refine c_region ?_
                    refine l_op (o_val (r_ldA (C := [V64 t.serial, .string ⟨(t.tenant).toArray⟩, V8 t.rights, VI t.from_, VI t.until_, .slice (hd a27) (i + 1) c28] ++ (onF (onF (hmac key (framed [headB t.serial t.tenant t.rights t.from_ t.until_])) (x.l.take i)) [e10]).map V8) H (i := 3) rfl rfl rt76 (by rw [List.length_append, List.length_map, (show (onF (onF (hmac key (framed [headB t.serial t.tenant t.rights t.from_ t.until_])) (x.l.take i)) [e10]).length = 32 from onF_len _ (show (onF (hmac key (framed [headB t.serial t.tenant t.rights t.from_ t.until_])) (x.l.take i)).length = 32 from onF_len _ (hmac_len _ _) _) _)]; rfl)) ?_)
                    refine l_op (o_stW (C' := [V64 t.serial, .string ⟨(t.tenant).toArray⟩, V8 t.rights, VI t.from_, VI t.until_, .slice (hd a27) (i + 1) c28] ++ (onF (onF (hmac key (framed [headB t.serial t.tenant t.rights t.from_ t.until_])) (x.l.take i)) [e10]).map V8) H (i := 1) rfl rfl rfl cs76 (by simp [Value.oneCell', Sl.v, Gl.v]) (by rw [List.length_append, List.length_map, (show (onF (hmac key (framed [headB t.serial t.tenant t.rights t.from_ t.until_])) (x.l.take i)).length = 32 from onF_len _ (hmac_len _ _) _)]; rfl) (by rw [List.length_append, List.length_map, (show (onF (onF (hmac key (framed [headB t.serial t.tenant t.rights t.from_ t.until_])) (x.l.take i)) [e10]).length = 32 from onF_len _ (show (onF (hmac key (framed [headB t.serial t.tenant t.rights t.from_ t.until_])) (x.l.take i)).length = 32 from onF_len _ (hmac_len _ _) _) _)]; rfl) (fun w H => ?_))
                    replace H : Hp w0 w [] ([.blk b1 ((key).map V8) 31, .blk b2 ([V64 t.serial, .string ⟨(t.tenant).toArray⟩, V8 t.rights, VI t.from_, VI t.until_, .slice (hd a27) (i + 1) c28] ++ (onF (onF (hmac key (framed [headB t.serial t.tenant t.rights t.from_ t.until_])) (x.l.take i)) [e10]).map V8) 76, .own a i k ((x.l.take i).flatMap cavE) 78 2, .blk b26 ([V64 t.serial, .string ⟨(t.tenant).toArray⟩, V8 t.rights, VI t.from_, VI t.until_, .slice (hd a27) (i + 1) c28] ++ (onF (onF (hmac key (framed [headB t.serial t.tenant t.rights t.from_ t.until_])) (x.l.take i)) [e10]).map V8) 76, .own a27 (i + 1) c28 ((x.l.take i ++ [e10]).flatMap cavE) 78 2]) := H
                    first | refine l_end ?_ | refine l_nil ?_
                    repeat refine c_seq ?_
                    refine c_region ?_
                    refine l_op (o_val (r_mv) ?_)
                    refine l_op (o_val (r_bin (a := (i : Int)) (b := 1) rfl rfl (fun _ => b_add (by omega) (by omega))) ?_)
                    refine l_op (o_val (r_as) ?_)
                    first | refine l_end ?_ | refine l_nil ?_
                    have t1 := take_cav x.l i e10 he11
                    rw [← onF_app, t1] at H
                    refine round_end (i + 1, a27, c28) ?_ ?_ ?_
                    · exact ⟨rfl, rfl, rfl, rfl, show VI ((i : Int) + 1) = VI ((i + 1 : Nat) : Int) from congrArg VI (by omega), trivial⟩
                    · refine ⟨?_, ?_⟩
                      · try dsimp only
                        exact ⟨by omega, mayT_snoc _ _ e10 hmay rfl rfl t1.symm (by dsimp only; omega) hrm⟩
                      · exact H.sub (.cons_cons _ (.cons_cons _ (.cons _ (.cons _ (.cons_cons _ (List.nil_sublist _))))))
                    · show x.len - (i + 1 : Nat) < x.len - i; omega
                  · skip
                    refine l_no rfl rfl (by exact congrArg Value.bool (decide_eq_false hc37)) rfl ?_
                    refine l_no rfl rfl (by exact congrArg Value.bool (decide_eq_false hc37)) rfl ?_
                    refine l_yes rfl rfl rfl (o_val (r_pick (b := false) (congrArg Value.bool (decide_eq_false hc37))) ?_)
                    refine l_op (o_val (r_pick rfl) ?_)
                    refine l_op (o_val (r_mv) ?_)
                    refine l_yes rfl rfl rfl (o_val (r_mv) ?_)
                    refine l_yes rfl rfl rfl (o_val (r_bin (a := checkT (key) (⟨t.serial, t.tenant, t.rights, t.from_, t.until_, ⟨hd a27, i + 1, c28, x.l.take i ++ [e10]⟩, onF (onF (hmac key (framed [headB t.serial t.tenant t.rights t.from_ t.until_])) (x.l.take i)) [e10]⟩ : Tok) (now)) (b := 13) rfl rfl (fun _ => b_eqlB false (decide_eq_false (by omega)))) ?_)
                    refine l_op (o_val (r_pick rfl) ?_)
                    first | refine l_end ?_ | refine l_nil ?_
                    repeat refine c_seq ?_
                    refine c_no rfl ?_
                    refine c_skip ?_
                    repeat refine c_seq ?_
                    refine c_region ?_
                    refine l_op (o_val (r_ldA (C := [V64 t.serial, .string ⟨(t.tenant).toArray⟩, V8 t.rights, VI t.from_, VI t.until_, .slice (hd a27) (i + 1) c28] ++ (onF (onF (hmac key (framed [headB t.serial t.tenant t.rights t.from_ t.until_])) (x.l.take i)) [e10]).map V8) H (i := 3) rfl rfl rt76 (by rw [List.length_append, List.length_map, (show (onF (onF (hmac key (framed [headB t.serial t.tenant t.rights t.from_ t.until_])) (x.l.take i)) [e10]).length = 32 from onF_len _ (show (onF (hmac key (framed [headB t.serial t.tenant t.rights t.from_ t.until_])) (x.l.take i)).length = 32 from onF_len _ (hmac_len _ _) _) _)]; rfl)) ?_)
                    refine l_op (o_stW (C' := [V64 t.serial, .string ⟨(t.tenant).toArray⟩, V8 t.rights, VI t.from_, VI t.until_, .slice (hd a27) (i + 1) c28] ++ (onF (onF (hmac key (framed [headB t.serial t.tenant t.rights t.from_ t.until_])) (x.l.take i)) [e10]).map V8) H (i := 1) rfl rfl rfl cs76 (by simp [Value.oneCell', Sl.v, Gl.v]) (by rw [List.length_append, List.length_map, (show (onF (hmac key (framed [headB t.serial t.tenant t.rights t.from_ t.until_])) (x.l.take i)).length = 32 from onF_len _ (hmac_len _ _) _)]; rfl) (by rw [List.length_append, List.length_map, (show (onF (onF (hmac key (framed [headB t.serial t.tenant t.rights t.from_ t.until_])) (x.l.take i)) [e10]).length = 32 from onF_len _ (show (onF (hmac key (framed [headB t.serial t.tenant t.rights t.from_ t.until_])) (x.l.take i)).length = 32 from onF_len _ (hmac_len _ _) _) _)]; rfl) (fun w H => ?_))
                    replace H : Hp w0 w [] ([.blk b1 ((key).map V8) 31, .blk b2 ([V64 t.serial, .string ⟨(t.tenant).toArray⟩, V8 t.rights, VI t.from_, VI t.until_, .slice (hd a27) (i + 1) c28] ++ (onF (onF (hmac key (framed [headB t.serial t.tenant t.rights t.from_ t.until_])) (x.l.take i)) [e10]).map V8) 76, .own a i k ((x.l.take i).flatMap cavE) 78 2, .blk b26 ([V64 t.serial, .string ⟨(t.tenant).toArray⟩, V8 t.rights, VI t.from_, VI t.until_, .slice (hd a27) (i + 1) c28] ++ (onF (onF (hmac key (framed [headB t.serial t.tenant t.rights t.from_ t.until_])) (x.l.take i)) [e10]).map V8) 76, .own a27 (i + 1) c28 ((x.l.take i ++ [e10]).flatMap cavE) 78 2]) := H
                    first | refine l_end ?_ | refine l_nil ?_
                    repeat refine c_seq ?_
                    refine c_region ?_
                    refine l_op (o_val (r_mv) ?_)
                    refine l_op (o_val (r_bin (a := (i : Int)) (b := 1) rfl rfl (fun _ => b_add (by omega) (by omega))) ?_)
                    refine l_op (o_val (r_as) ?_)
                    first | refine l_end ?_ | refine l_nil ?_
                    have t1 := take_cav x.l i e10 he11
                    rw [← onF_app, t1] at H
                    refine round_end (i + 1, a27, c28) ?_ ?_ ?_
                    · exact ⟨rfl, rfl, rfl, rfl, show VI ((i : Int) + 1) = VI ((i + 1 : Nat) : Int) from congrArg VI (by omega), trivial⟩
                    · refine ⟨?_, ?_⟩
                      · try dsimp only
                        exact ⟨by omega, mayT_snoc _ _ e10 hmay rfl rfl t1.symm (by dsimp only; omega) hrm⟩
                      · exact H.sub (.cons_cons _ (.cons_cons _ (.cons _ (.cons _ (.cons_cons _ (List.nil_sublist _))))))
                    · show x.len - (i + 1 : Nat) < x.len - i; omega
                · skip
                  refine l_no rfl rfl (by exact congrArg Value.bool (decide_eq_false hc36)) rfl ?_
                  refine l_no rfl rfl (by exact congrArg Value.bool (decide_eq_false hc36)) rfl ?_
                  refine l_no rfl rfl (by exact congrArg Value.bool (decide_eq_false hc36)) rfl ?_
                  refine l_no rfl rfl (by exact congrArg Value.bool (decide_eq_false hc36)) rfl ?_
                  refine l_no rfl rfl (by exact congrArg Value.bool (decide_eq_false hc36)) rfl ?_
                  refine l_no rfl rfl (by exact congrArg Value.bool (decide_eq_false hc36)) rfl ?_
                  refine l_no rfl rfl (by exact congrArg Value.bool (decide_eq_false hc36)) rfl ?_
                  refine l_yes rfl rfl rfl (o_val (r_pick (b := false) (congrArg Value.bool (decide_eq_false hc36))) ?_)
                  refine l_yes rfl rfl rfl (o_val (r_mv) ?_)
                  refine l_no rfl rfl rfl rfl ?_
                  refine l_no rfl rfl rfl rfl ?_
                  refine l_yes rfl rfl rfl (o_val (r_pick rfl) ?_)
                  refine l_op (o_val (r_pick rfl) ?_)
                  refine l_op (o_val (r_mv) ?_)
                  refine l_yes rfl rfl rfl (o_val (r_mv) ?_)
                  refine l_yes rfl rfl rfl (o_val (r_bin (a := checkT (key) (⟨t.serial, t.tenant, t.rights, t.from_, t.until_, ⟨hd a27, i + 1, c28, x.l.take i ++ [e10]⟩, onF (onF (hmac key (framed [headB t.serial t.tenant t.rights t.from_ t.until_])) (x.l.take i)) [e10]⟩ : Tok) (now)) (b := 13) rfl rfl (fun _ => b_eqlB false (decide_eq_false (by omega)))) ?_)
                  refine l_op (o_val (r_pick rfl) ?_)
                  first | refine l_end ?_ | refine l_nil ?_
                  repeat refine c_seq ?_
                  refine c_no rfl ?_
                  refine c_skip ?_
                  repeat refine c_seq ?_
                  refine c_region ?_
                  refine l_op (o_val (r_ldA (C := [V64 t.serial, .string ⟨(t.tenant).toArray⟩, V8 t.rights, VI t.from_, VI t.until_, .slice (hd a27) (i + 1) c28] ++ (onF (onF (hmac key (framed [headB t.serial t.tenant t.rights t.from_ t.until_])) (x.l.take i)) [e10]).map V8) H (i := 3) rfl rfl rt76 (by rw [List.length_append, List.length_map, (show (onF (onF (hmac key (framed [headB t.serial t.tenant t.rights t.from_ t.until_])) (x.l.take i)) [e10]).length = 32 from onF_len _ (show (onF (hmac key (framed [headB t.serial t.tenant t.rights t.from_ t.until_])) (x.l.take i)).length = 32 from onF_len _ (hmac_len _ _) _) _)]; rfl)) ?_)
                  refine l_op (o_stW (C' := [V64 t.serial, .string ⟨(t.tenant).toArray⟩, V8 t.rights, VI t.from_, VI t.until_, .slice (hd a27) (i + 1) c28] ++ (onF (onF (hmac key (framed [headB t.serial t.tenant t.rights t.from_ t.until_])) (x.l.take i)) [e10]).map V8) H (i := 1) rfl rfl rfl cs76 (by simp [Value.oneCell', Sl.v, Gl.v]) (by rw [List.length_append, List.length_map, (show (onF (hmac key (framed [headB t.serial t.tenant t.rights t.from_ t.until_])) (x.l.take i)).length = 32 from onF_len _ (hmac_len _ _) _)]; rfl) (by rw [List.length_append, List.length_map, (show (onF (onF (hmac key (framed [headB t.serial t.tenant t.rights t.from_ t.until_])) (x.l.take i)) [e10]).length = 32 from onF_len _ (show (onF (hmac key (framed [headB t.serial t.tenant t.rights t.from_ t.until_])) (x.l.take i)).length = 32 from onF_len _ (hmac_len _ _) _) _)]; rfl) (fun w H => ?_))
                  replace H : Hp w0 w [] ([.blk b1 ((key).map V8) 31, .blk b2 ([V64 t.serial, .string ⟨(t.tenant).toArray⟩, V8 t.rights, VI t.from_, VI t.until_, .slice (hd a27) (i + 1) c28] ++ (onF (onF (hmac key (framed [headB t.serial t.tenant t.rights t.from_ t.until_])) (x.l.take i)) [e10]).map V8) 76, .own a i k ((x.l.take i).flatMap cavE) 78 2, .blk b26 ([V64 t.serial, .string ⟨(t.tenant).toArray⟩, V8 t.rights, VI t.from_, VI t.until_, .slice (hd a27) (i + 1) c28] ++ (onF (onF (hmac key (framed [headB t.serial t.tenant t.rights t.from_ t.until_])) (x.l.take i)) [e10]).map V8) 76, .own a27 (i + 1) c28 ((x.l.take i ++ [e10]).flatMap cavE) 78 2]) := H
                  first | refine l_end ?_ | refine l_nil ?_
                  repeat refine c_seq ?_
                  refine c_region ?_
                  refine l_op (o_val (r_mv) ?_)
                  refine l_op (o_val (r_bin (a := (i : Int)) (b := 1) rfl rfl (fun _ => b_add (by omega) (by omega))) ?_)
                  refine l_op (o_val (r_as) ?_)
                  first | refine l_end ?_ | refine l_nil ?_
                  have t1 := take_cav x.l i e10 he11
                  rw [← onF_app, t1] at H
                  refine round_end (i + 1, a27, c28) ?_ ?_ ?_
                  · exact ⟨rfl, rfl, rfl, rfl, show VI ((i : Int) + 1) = VI ((i + 1 : Nat) : Int) from congrArg VI (by omega), trivial⟩
                  · refine ⟨?_, ?_⟩
                    · try dsimp only
                      exact ⟨by omega, mayT_snoc _ _ e10 hmay rfl rfl t1.symm (by dsimp only; omega) hrm⟩
                    · exact H.sub (.cons_cons _ (.cons_cons _ (.cons _ (.cons _ (.cons_cons _ (List.nil_sublist _))))))
                  · show x.len - (i + 1 : Nat) < x.len - i; omega
        · skip
          repeat refine c_seq ?_
          refine c_no (by exact congrArg Value.bool (decide_eq_false hc6)) ?_
          refine c_exit ?_
          repeat refine c_seq ?_
          refine c_region ?_
          refine l_op (o_val (r_as) ?_)
          first | refine l_end ?_ | refine l_nil ?_
          refine c_ret ?_
          try dsimp only [Exit.then, Exit.inBlock]
          refine e_ret1 (v := .bool true) Try.results20 rfl ?_
          refine ⟨_, rfl, ?_⟩
          exact ⟨rfl, H.sub (List.nil_sublist _)⟩
    · skip
      refine l_no rfl rfl (by exact congrArg Value.bool (congrArg not hc4)) rfl ?_
      refine l_no rfl rfl (by exact congrArg Value.bool (congrArg not hc4)) rfl ?_
      refine l_no rfl rfl (by exact congrArg Value.bool (congrArg not hc4)) rfl ?_
      refine l_op (o_val (r_pick (b := true) (congrArg Value.bool (congrArg not hc4))) ?_)
      first | refine l_end ?_ | refine l_nil ?_
      repeat refine c_seq ?_
      refine c_yes rfl ?_
      repeat refine c_seq ?_
      refine c_region ?_
      refine l_op (o_val (r_as) ?_)
      first | refine l_end ?_ | refine l_nil ?_
      refine c_ret ?_
      try dsimp only [Exit.then, Exit.inBlock]
      refine e_ret1 (v := .bool true) Try.results20 rfl ?_
      refine ⟨_, rfl, ?_⟩
      exact ⟨rfl, H.sub (List.nil_sublist _)⟩
  · skip
    refine l_no rfl rfl (by exact congrArg Value.bool (congrArg not (decide_eq_false hc3))) rfl ?_
    refine l_no rfl rfl (by exact congrArg Value.bool (congrArg not (decide_eq_false hc3))) rfl ?_
    refine l_no rfl rfl (by exact congrArg Value.bool (congrArg not (decide_eq_false hc3))) rfl ?_
    refine l_op (o_val (r_pick (b := true) (congrArg Value.bool (congrArg not (decide_eq_false hc3)))) ?_)
    refine l_op (o_val (r_mv) ?_)
    refine l_no rfl rfl rfl rfl ?_
    refine l_no rfl rfl rfl rfl ?_
    refine l_no rfl rfl rfl rfl ?_
    refine l_op (o_val (r_pick rfl) ?_)
    first | refine l_end ?_ | refine l_nil ?_
    repeat refine c_seq ?_
    refine c_yes rfl ?_
    repeat refine c_seq ?_
    refine c_region ?_
    refine l_op (o_val (r_as) ?_)
    first | refine l_end ?_ | refine l_nil ?_
    refine c_ret ?_
    try dsimp only [Exit.then, Exit.inBlock]
    refine e_ret1 (v := .bool true) Try.results20 rfl ?_
    refine ⟨_, rfl, ?_⟩
    exact ⟨rfl, H.sub (List.nil_sublist _)⟩
end Go.Proofs.Ytjmbbhnpfmblpaa
