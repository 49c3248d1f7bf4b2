import Derived.Test.YtjmbbhnpfmblpaaCap1
/- cap: May, on, own, Effect. -/
namespace Go.Proofs.Ytjmbbhnpfmblpaa
open Go
set_option maxRecDepth 100000
/-- may it be a token? -/
def mayT (t : Tok) : Bool := (decide (t.tenant = []) || nameMay t.tenant) && rMay t.rights && decide (t.cs.len ≤ 8) && t.cs.l.all fun c => rMay c.1
theorem mayT_iff (t : Tok) : mayT t = true ↔ (t.tenant = [] ∨ nameMay t.tenant = true) ∧ rMay t.rights = true ∧ t.cs.len ≤ 8 ∧ ∀ (i : Nat) (c : Cav), t.cs.l[i]? = some c → rMay c.1 = true := by
  simp only [mayT, Bool.and_eq_true, Bool.or_eq_true, decide_eq_true_eq, List.all_eq_true, and_assoc]
  refine ⟨fun ⟨h1, h2, h3, h4⟩ => ⟨h1, h2, h3, fun i c hc => h4 c (List.mem_of_getElem? hc)⟩, fun ⟨h1, h2, h3, h4⟩ => ⟨h1, h2, h3, fun c hc => ?_⟩⟩
  obtain ⟨i, hi⟩ := List.getElem?_of_mem hc
  exact h4 i c hi
def onF (sum : List UInt8) (cs : List Cav) : List UInt8 := cs.foldl (fun s c => hmac s (framed [cavB c])) sum
theorem onF_len (sum : List UInt8) (h : sum.length = 32) : ∀ cs, (onF sum cs).length = 32 := by
  intro cs
  induction cs generalizing sum with
  | nil => exact h
  | cons c cs ih => exact ih _ (hmac_len _ _)
theorem onF_succ (sum : List UInt8) (cs : List Cav) (i : Nat) (c : Cav) (h : cs[i]? = some c) : hmac (onF sum (cs.take i)) (framed [cavB c]) = onF sum (cs.take (i + 1)) := by
  rw [List.take_add_one, h]; simp [onF]
theorem cavB_len (c : Cav) : (cavB c).length = 9 := by simp [cavB, timeB, be_len]
def effF (r : UInt8) (u : Int) (cs : List Cav) : UInt8 × Int := cs.foldl (fun p c => (p.1 &&& c.1, if c.2 < p.2 then c.2 else p.2)) (r, u)
theorem effF_succ (r : UInt8) (u : Int) (cs : List Cav) (i : Nat) (c : Cav) (h : cs[i]? = some c) : effF r u (cs.take (i + 1)) = ((effF r u (cs.take i)).1 &&& c.1, if c.2 < (effF r u (cs.take i)).2 then c.2 else (effF r u (cs.take i)).2) := by
  rw [List.take_add_one, h]; simp only [effF, Option.toList_some, List.foldl_append, List.foldl_cons, List.foldl_nil]; rfl
theorem may_ret (w0 : World) (t : Tok) (hc : t.cs.ok cavE 2 w0) (htag : t.tag.length = 32) (hn : t.tenant.length ≤ 65536) :
    Ret Try.prog 75 [.agg ([V64 t.serial, .string ⟨(t.tenant).toArray⟩, V8 t.rights, VI t.from_, VI t.until_, t.cs.v] ++ (t.tag).map V8).toArray] w0 fun v w' => v = .bool (mayT t) ∧ Hp w0 w' [] [] := by
  refine ret_mk Try.func75 rfl Try.ntmps75 (by simp) ?_
  have H := Hp.refl w0 []
  repeat refine c_seq ?_
  refine c_region ?_
  refine l_op (o_box (v := .agg ([V64 t.serial, .string ⟨(t.tenant).toArray⟩, V8 t.rights, VI t.from_, VI t.until_, t.cs.v] ++ (t.tag).map V8).toArray) H rfl (fun b1 w H hb1 => ?_))
  replace H : Hp w0 w [] ([.blk b1 ([V64 t.serial, .string ⟨(t.tenant).toArray⟩, V8 t.rights, VI t.from_, VI t.until_, t.cs.v] ++ (t.tag).map V8) 76]) := H
  refine l_op (o_val (r_as) ?_)
  first | refine l_end ?_ | refine l_nil ?_
  repeat refine c_seq ?_
  refine c_region ?_
  refine l_op (o_val (r_fa rfl fo76_1) ?_)
  refine l_op (o_val (r_ld (v := .string ⟨(t.tenant).toArray⟩) H (i := 0) rfl rfl ct9 rfl) ?_)
  refine l_op (o_val (r_strne (a := t.tenant) (b := ([] : List UInt8)) rfl rfl) ?_)
  refine l_op (o_val (r_mv) ?_)
  by_cases hc2 : t.tenant = ([] : List UInt8)
  · skip
    refine l_no rfl rfl (by exact congrArg Value.bool (congrArg not (decide_eq_true hc2))) rfl ?_
    refine l_no rfl rfl (by exact congrArg Value.bool (congrArg not (decide_eq_true hc2))) rfl ?_
    refine l_no rfl rfl (by exact congrArg Value.bool (congrArg not (decide_eq_true hc2))) rfl ?_
    refine l_no rfl rfl (by exact congrArg Value.bool (congrArg not (decide_eq_true hc2))) rfl ?_
    refine l_op (o_val (r_pick (b := false) (congrArg Value.bool (congrArg not (decide_eq_true hc2)))) ?_)
    refine l_op (o_val (r_mv) ?_)
    refine l_yes rfl rfl rfl (o_val (r_fa rfl fo76_2) ?_)
    refine l_yes rfl rfl rfl (o_val (r_ld (v := V8 t.rights) H (i := 0) rfl rfl ct73 rfl) ?_)
    refine l_yes rfl rfl rfl (o_callR Try.func117 rfl rfl rfl (rmay_ret _ (t.rights)) ?_)
    rintro _ w' ⟨rfl, hw3⟩
    rw [hw3]; clear hw3 w'
    refine l_yes rfl rfl rfl (o_val (r_not rfl) ?_)
    refine l_op (o_val (r_pick rfl) ?_)
    refine l_op (o_val (r_mv) ?_)
    rcases Bool.eq_false_or_eq_true (rMay (t.rights)) with hc4 | hc4
    · skip
      refine l_yes rfl rfl (by exact congrArg Value.bool (congrArg not hc4)) (o_val (r_fa rfl fo76_5) ?_)
      refine l_yes rfl rfl (by exact congrArg Value.bool (congrArg not hc4)) (o_val (r_ld (v := t.cs.v) H (i := 0) rfl rfl ct74 rfl) ?_)
      refine l_yes rfl rfl (by exact congrArg Value.bool (congrArg not hc4)) (o_val (r_lens el74 rfl) ?_)
      refine l_yes rfl rfl (by exact congrArg Value.bool (congrArg not hc4)) (o_val (r_bin (a := (t.cs.len : Int)) (b := 8) rfl rfl (fun _ => b_gtr)) ?_)
      refine l_op (o_val (r_pick (b := false) (congrArg Value.bool (congrArg not hc4))) ?_)
      first | refine l_end ?_ | refine l_nil ?_
      by_cases hc5 : 8 < (t.cs.len : Int)
      · skip
        repeat refine c_seq ?_
        refine c_yes (by exact congrArg Value.bool (decide_eq_true hc5)) ?_
        repeat refine c_seq ?_
        refine c_region ?_
        refine l_op (o_val (r_as) ?_)
        first | refine l_end ?_ | refine l_nil ?_
        refine c_ret ?_
        try dsimp only [Exit.then, Exit.inBlock]
        refine e_ret1 (v := .bool false) Try.results75 rfl ?_
        refine ⟨_, rfl, ?_⟩
        refine ⟨?_, H.sub (List.nil_sublist _)⟩
        have e : mayT t = false := Bool.eq_false_iff.2 fun h => by
          have h2 := (mayT_iff t).1 h
          omega
        rw [e]
      · skip
        repeat refine c_seq ?_
        refine c_no (by exact congrArg Value.bool (decide_eq_false hc5)) ?_
        refine c_skip ?_
        repeat refine c_seq ?_
        refine c_region ?_
        refine l_op (o_val (r_fa rfl fo76_5) ?_)
        refine l_op (o_val (r_ld (v := t.cs.v) H (i := 0) rfl rfl ct74 rfl) ?_)
        refine l_op (o_val (r_lens el74 rfl) ?_)
        refine l_op (o_val (r_mv) ?_)
        first | refine l_end ?_ | refine l_nil ?_
        repeat refine c_seq ?_
        refine c_block ?_
        repeat refine c_seq ?_
        refine c_loop (fun (i : Nat) => [(27, t.cs.v), (28, VI (t.cs.len : Int)), (29, VI (i : Int))])
          (fun (i : Nat) w => (i ≤ t.cs.len ∧ ∀ (j : Nat) (c : Cav), j < i → t.cs.l[j]? = some c → rMay c.1 = true) ∧ Hp w0 w [] ([.blk b1 ([V64 t.serial, .string ⟨(t.tenant).toArray⟩, V8 t.rights, VI t.from_, VI t.until_, t.cs.v] ++ (t.tag).map V8) 76]))
          (fun (i : Nat) => t.cs.len - i) 0 ⟨rfl, rfl, rfl, trivial⟩ ⟨⟨Nat.zero_le _, fun j c hj => absurd hj (by omega)⟩, H⟩ ?_
        clear H
        rintro i τ w ⟨⟨hi, hall⟩, H⟩
        repeat refine c_seq ?_
        refine c_region ?_
        refine l_op (o_val (r_bin (a := (i : Int)) (b := (t.cs.len : Int)) rfl rfl (fun _ => b_lss)) ?_)
        first | refine l_end ?_ | refine l_nil ?_
        by_cases hc6 : (i : Int) < (t.cs.len : Int)
        · skip
          repeat refine c_seq ?_
          refine c_yes (by exact congrArg Value.bool (decide_eq_true hc6)) ?_
          refine c_skip ?_
          repeat refine c_seq ?_
          refine c_block ?_
          repeat refine c_seq ?_
          refine c_region ?_
          have ah9 := ((hc.up H)).addr (by decide) (by omega)
          obtain ⟨ab7, ao8, ah9⟩ := ah9
          refine l_op (o_val (r_isN i rfl rfl el74 ah9 (by omega) (by (try simp only [Sl.cut]); omega)) ?_)
          have he11 : ∃ c, t.cs.l[i]? = some c := ⟨_, List.getElem?_eq_getElem (by have := ((hc.up H)).ln; omega)⟩
          obtain ⟨e10, he11⟩ := he11
          have hez12 := ((hc.up H)).sz e10 (List.mem_of_getElem? he11)
          refine l_op (o_val (r_ldRow (s := t.cs) (k := i) (hc.up H) ah9 rfl rt78 (by decide) he11) ?_)
          refine l_op (o_alloc H zc78 (fun b13 w H hb13 => ?_))
          replace H : Hp w0 w [] ([.blk b1 ([V64 t.serial, .string ⟨(t.tenant).toArray⟩, V8 t.rights, VI t.from_, VI t.until_, t.cs.v] ++ (t.tag).map V8) 76, .blk b13 ([V8 (0 : UInt8), VI 0]) 78]) := H
          refine l_op (o_stW (C' := [V8 e10.1, VI e10.2]) H (i := 1) rfl rfl rfl cs78 (by simp [Value.oneCell', Sl.v, Gl.v]) (by rfl) (by rfl) (fun w H => ?_))
          replace H : Hp w0 w [] ([.blk b1 ([V64 t.serial, .string ⟨(t.tenant).toArray⟩, V8 t.rights, VI t.from_, VI t.until_, t.cs.v] ++ (t.tag).map V8) 76, .blk b13 ([V8 e10.1, VI e10.2]) 78]) := H
          first | refine l_end ?_ | refine l_nil ?_
          repeat refine c_seq ?_
          refine c_region ?_
          refine l_op (o_val (r_fa rfl fo78_0) ?_)
          refine l_op (o_val (r_ld (v := V8 e10.1) H (i := 1) rfl rfl ct73 rfl) ?_)
          refine l_op (o_callR Try.func117 rfl rfl rfl (rmay_ret _ (e10.1)) ?_)
          rintro _ w' ⟨rfl, hw14⟩
          rw [hw14]; clear hw14 w'
          refine l_op (o_val (r_not rfl) ?_)
          first | refine l_end ?_ | refine l_nil ?_
          rcases Bool.eq_false_or_eq_true (rMay (e10.1)) with hc15 | hc15
          · skip
            repeat refine c_seq ?_
            refine c_no (by exact congrArg Value.bool (congrArg not hc15)) ?_
            refine c_skip ?_
            repeat refine c_seq ?_
            refine c_region ?_
            refine l_op (o_val (r_bin (a := (i : Int)) (b := 1) rfl rfl (fun _ => b_add (by omega) (by omega))) ?_)
            refine l_op (o_val (r_mv) ?_)
            first | refine l_end ?_ | refine l_nil ?_
            refine round_end (i + 1) ?_ ?_ ?_
            · exact ⟨rfl, rfl, show VI ((i : Int) + 1) = VI ((i + 1 : Nat) : Int) from congrArg VI (by omega), trivial⟩
            · refine ⟨?_, ?_⟩
              · try dsimp only
                exact ⟨by omega, fun j c hj hjc => by
                  by_cases hji : j < i
                  · exact hall j c hji hjc
                  · have e : j = i := by omega
                    rw [e, he11] at hjc
                    cases hjc
                    exact hc15⟩
              · exact H.sub (.cons_cons _ (List.nil_sublist _))
            · show t.cs.len - (i + 1 : Nat) < t.cs.len - i; omega
          · skip
            repeat refine c_seq ?_
            refine c_yes (by exact congrArg Value.bool (congrArg not hc15)) ?_
            repeat refine c_seq ?_
            refine c_region ?_
            refine l_op (o_val (r_as) ?_)
            first | refine l_end ?_ | refine l_nil ?_
            refine c_ret ?_
            try dsimp only [Exit.then, Exit.inBlock]
            refine e_ret1 (v := .bool false) Try.results75 rfl ?_
            refine ⟨_, rfl, ?_⟩
            refine ⟨?_, H.sub (List.nil_sublist _)⟩
            have e : mayT t = false := Bool.eq_false_iff.2 fun h => by
              have h2 := (mayT_iff t).1 h
              have h3 := h2.2.2.2 i e10 he11
              rw [hc15] at h3; cases h3
            rw [e]
        · skip
          repeat refine c_seq ?_
          refine c_no (by exact congrArg Value.bool (decide_eq_false hc6)) ?_
          refine c_exit ?_
          repeat refine c_seq ?_
          refine c_region ?_
          refine l_op (o_val (r_as) ?_)
          first | refine l_end ?_ | refine l_nil ?_
          refine c_ret ?_
          try dsimp only [Exit.then, Exit.inBlock]
          refine e_ret1 (v := .bool true) Try.results75 rfl ?_
          refine ⟨_, rfl, ?_⟩
          refine ⟨?_, H.sub (List.nil_sublist _)⟩
          rw [(mayT_iff t).2 ⟨.inl (of_decide_eq_true (decide_eq_true hc2)), hc4, by omega, fun j c hj => hall j c (by have := hc.ln; have := (List.getElem?_eq_some_iff.1 hj).1; omega) hj⟩]
    · skip
      refine l_no rfl rfl (by exact congrArg Value.bool (congrArg not hc4)) rfl ?_
      refine l_no rfl rfl (by exact congrArg Value.bool (congrArg not hc4)) rfl ?_
      refine l_no rfl rfl (by exact congrArg Value.bool (congrArg not hc4)) rfl ?_
      refine l_no rfl rfl (by exact congrArg Value.bool (congrArg not hc4)) rfl ?_
      refine l_op (o_val (r_pick (b := true) (congrArg Value.bool (congrArg not hc4))) ?_)
      first | refine l_end ?_ | refine l_nil ?_
      repeat refine c_seq ?_
      refine c_yes rfl ?_
      repeat refine c_seq ?_
      refine c_region ?_
      refine l_op (o_val (r_as) ?_)
      first | refine l_end ?_ | refine l_nil ?_
      refine c_ret ?_
      try dsimp only [Exit.then, Exit.inBlock]
      refine e_ret1 (v := .bool false) Try.results75 rfl ?_
      refine ⟨_, rfl, ?_⟩
      refine ⟨?_, H.sub (List.nil_sublist _)⟩
      have e : mayT t = false := Bool.eq_false_iff.2 fun h => by
        have h2 := (mayT_iff t).1 h
        have h3 := h2.2.1
        rw [hc4] at h3; cases h3
      rw [e]
  · skip
    refine l_yes rfl rfl (by exact congrArg Value.bool (congrArg not (decide_eq_false hc2))) (o_val (r_fa rfl fo76_1) ?_)
    refine l_yes rfl rfl (by exact congrArg Value.bool (congrArg not (decide_eq_false hc2))) (o_val (r_ld (v := .string ⟨(t.tenant).toArray⟩) H (i := 0) rfl rfl ct9 rfl) ?_)
    refine l_yes rfl rfl (by exact congrArg Value.bool (congrArg not (decide_eq_false hc2))) (o_callR Try.func123 rfl rfl rfl (nmay_ret _ (t.tenant) (by omega)) ?_)
    rintro _ w ⟨rfl, Hc⟩
    replace H : Hp w0 w [] ([.blk b1 ([V64 t.serial, .string ⟨(t.tenant).toArray⟩, V8 t.rights, VI t.from_, VI t.until_, t.cs.v] ++ (t.tag).map V8) 76]) := H.call Hc
    clear Hc
    refine l_yes rfl rfl (by exact congrArg Value.bool (congrArg not (decide_eq_false hc2))) (o_val (r_not rfl) ?_)
    refine l_op (o_val (r_pick (b := true) (congrArg Value.bool (congrArg not (decide_eq_false hc2)))) ?_)
    refine l_op (o_val (r_mv) ?_)
    rcases Bool.eq_false_or_eq_true (nameMay (t.tenant)) with hc16 | hc16
    · skip
      refine l_yes rfl rfl (by exact congrArg Value.bool (congrArg not hc16)) (o_val (r_fa rfl fo76_2) ?_)
      refine l_yes rfl rfl (by exact congrArg Value.bool (congrArg not hc16)) (o_val (r_ld (v := V8 t.rights) H (i := 0) rfl rfl ct73 rfl) ?_)
      refine l_yes rfl rfl (by exact congrArg Value.bool (congrArg not hc16)) (o_callR Try.func117 rfl rfl rfl (rmay_ret _ (t.rights)) ?_)
      rintro _ w' ⟨rfl, hw17⟩
      rw [hw17]; clear hw17 w'
      refine l_yes rfl rfl (by exact congrArg Value.bool (congrArg not hc16)) (o_val (r_not rfl) ?_)
      refine l_op (o_val (r_pick (b := false) (congrArg Value.bool (congrArg not hc16))) ?_)
      refine l_op (o_val (r_mv) ?_)
      rcases Bool.eq_false_or_eq_true (rMay (t.rights)) with hc18 | hc18
      · skip
        refine l_yes rfl rfl (by exact congrArg Value.bool (congrArg not hc18)) (o_val (r_fa rfl fo76_5) ?_)
        refine l_yes rfl rfl (by exact congrArg Value.bool (congrArg not hc18)) (o_val (r_ld (v := t.cs.v) H (i := 0) rfl rfl ct74 rfl) ?_)
        refine l_yes rfl rfl (by exact congrArg Value.bool (congrArg not hc18)) (o_val (r_lens el74 rfl) ?_)
        refine l_yes rfl rfl (by exact congrArg Value.bool (congrArg not hc18)) (o_val (r_bin (a := (t.cs.len : Int)) (b := 8) rfl rfl (fun _ => b_gtr)) ?_)
        refine l_op (o_val (r_pick (b := false) (congrArg Value.bool (congrArg not hc18))) ?_)
        first | refine l_end ?_ | refine l_nil ?_
        by_cases hc19 : 8 < (t.cs.len : Int)
        · skip
          repeat refine c_seq ?_
          refine c_yes (by exact congrArg Value.bool (decide_eq_true hc19)) ?_
          repeat refine c_seq ?_
          refine c_region ?_
          refine l_op (o_val (r_as) ?_)
          first | refine l_end ?_ | refine l_nil ?_
          refine c_ret ?_
          try dsimp only [Exit.then, Exit.inBlock]
          refine e_ret1 (v := .bool false) Try.results75 rfl ?_
          refine ⟨_, rfl, ?_⟩
          refine ⟨?_, H.sub (List.nil_sublist _)⟩
          have e : mayT t = false := Bool.eq_false_iff.2 fun h => by
            have h2 := (mayT_iff t).1 h
            omega
          rw [e]
        · skip
          repeat refine c_seq ?_
          refine c_no (by exact congrArg Value.bool (decide_eq_false hc19)) ?_
          refine c_skip ?_
          repeat refine c_seq ?_
          refine c_region ?_
          refine l_op (o_val (r_fa rfl fo76_5) ?_)
          refine l_op (o_val (r_ld (v := t.cs.v) H (i := 0) rfl rfl ct74 rfl) ?_)
          refine l_op (o_val (r_lens el74 rfl) ?_)
          refine l_op (o_val (r_mv) ?_)
          first | refine l_end ?_ | refine l_nil ?_
          repeat refine c_seq ?_
          refine c_block ?_
          repeat refine c_seq ?_
          refine c_loop (fun (i : Nat) => [(27, t.cs.v), (28, VI (t.cs.len : Int)), (29, VI (i : Int))])
            (fun (i : Nat) w => (i ≤ t.cs.len ∧ ∀ (j : Nat) (c : Cav), j < i → t.cs.l[j]? = some c → rMay c.1 = true) ∧ Hp w0 w [] ([.blk b1 ([V64 t.serial, .string ⟨(t.tenant).toArray⟩, V8 t.rights, VI t.from_, VI t.until_, t.cs.v] ++ (t.tag).map V8) 76]))
            (fun (i : Nat) => t.cs.len - i) 0 ⟨rfl, rfl, rfl, trivial⟩ ⟨⟨Nat.zero_le _, fun j c hj => absurd hj (by omega)⟩, H⟩ ?_
          clear H
          rintro i τ w ⟨⟨hi, hall⟩, H⟩
          repeat refine c_seq ?_
          refine c_region ?_
          refine l_op (o_val (r_bin (a := (i : Int)) (b := (t.cs.len : Int)) rfl rfl (fun _ => b_lss)) ?_)
          first | refine l_end ?_ | refine l_nil ?_
          by_cases hc20 : (i : Int) < (t.cs.len : Int)
          · skip
            repeat refine c_seq ?_
            refine c_yes (by exact congrArg Value.bool (decide_eq_true hc20)) ?_
            refine c_skip ?_
            repeat refine c_seq ?_
            refine c_block ?_
            repeat refine c_seq ?_
            refine c_region ?_
            have ah23 := ((hc.up H)).addr (by decide) (by omega)
            obtain ⟨ab21, ao22, ah23⟩ := ah23
            refine l_op (o_val (r_isN i rfl rfl el74 ah23 (by omega) (by (try simp only [Sl.cut]); omega)) ?_)
            have he25 : ∃ c, t.cs.l[i]? = some c := ⟨_, List.getElem?_eq_getElem (by have := ((hc.up H)).ln; omega)⟩
            obtain ⟨e24, he25⟩ := he25
            have hez26 := ((hc.up H)).sz e24 (List.mem_of_getElem? he25)
            refine l_op (o_val (r_ldRow (s := t.cs) (k := i) (hc.up H) ah23 rfl rt78 (by decide) he25) ?_)
            refine l_op (o_alloc H zc78 (fun b27 w H hb27 => ?_))
            replace H : Hp w0 w [] ([.blk b1 ([V64 t.serial, .string ⟨(t.tenant).toArray⟩, V8 t.rights, VI t.from_, VI t.until_, t.cs.v] ++ (t.tag).map V8) 76, .blk b27 ([V8 (0 : UInt8), VI 0]) 78]) := H
            refine l_op (o_stW (C' := [V8 e24.1, VI e24.2]) H (i := 1) rfl rfl rfl cs78 (by simp [Value.oneCell', Sl.v, Gl.v]) (by rfl) (by rfl) (fun w H => ?_))
            replace H : Hp w0 w [] ([.blk b1 ([V64 t.serial, .string ⟨(t.tenant).toArray⟩, V8 t.rights, VI t.from_, VI t.until_, t.cs.v] ++ (t.tag).map V8) 76, .blk b27 ([V8 e24.1, VI e24.2]) 78]) := H
            first | refine l_end ?_ | refine l_nil ?_
            repeat refine c_seq ?_
            refine c_region ?_
            refine l_op (o_val (r_fa rfl fo78_0) ?_)
            refine l_op (o_val (r_ld (v := V8 e24.1) H (i := 1) rfl rfl ct73 rfl) ?_)
            refine l_op (o_callR Try.func117 rfl rfl rfl (rmay_ret _ (e24.1)) ?_)
            rintro _ w' ⟨rfl, hw28⟩
            rw [hw28]; clear hw28 w'
            refine l_op (o_val (r_not rfl) ?_)
            first | refine l_end ?_ | refine l_nil ?_
            rcases Bool.eq_false_or_eq_true (rMay (e24.1)) with hc29 | hc29
            · skip
              repeat refine c_seq ?_
              refine c_no (by exact congrArg Value.bool (congrArg not hc29)) ?_
              refine c_skip ?_
              repeat refine c_seq ?_
              refine c_region ?_
              refine l_op (o_val (r_bin (a := (i : Int)) (b := 1) rfl rfl (fun _ => b_add (by omega) (by omega))) ?_)
              refine l_op (o_val (r_mv) ?_)
              first | refine l_end ?_ | refine l_nil ?_
              refine round_end (i + 1) ?_ ?_ ?_
              · exact ⟨rfl, rfl, show VI ((i : Int) + 1) = VI ((i + 1 : Nat) : Int) from congrArg VI (by omega), trivial⟩
              · refine ⟨?_, ?_⟩
                · try dsimp only
                  exact ⟨by omega, fun j c hj hjc => by
                    by_cases hji : j < i
                    · exact hall j c hji hjc
                    · have e : j = i := by omega
                      rw [e, he25] at hjc
                      cases hjc
                      exact hc29⟩
                · exact H.sub (.cons_cons _ (List.nil_sublist _))
              · show t.cs.len - (i + 1 : Nat) < t.cs.len - i; omega
            · skip
              repeat refine c_seq ?_
              refine c_yes (by exact congrArg Value.bool (congrArg not hc29)) ?_
              repeat refine c_seq ?_
              refine c_region ?_
              refine l_op (o_val (r_as) ?_)
              first | refine l_end ?_ | refine l_nil ?_
              refine c_ret ?_
              try dsimp only [Exit.then, Exit.inBlock]
              refine e_ret1 (v := .bool false) Try.results75 rfl ?_
              refine ⟨_, rfl, ?_⟩
              refine ⟨?_, H.sub (List.nil_sublist _)⟩
              have e : mayT t = false := Bool.eq_false_iff.2 fun h => by
                have h2 := (mayT_iff t).1 h
                have h3 := h2.2.2.2 i e24 he25
                rw [hc29] at h3; cases h3
              rw [e]
          · skip
            repeat refine c_seq ?_
            refine c_no (by exact congrArg Value.bool (decide_eq_false hc20)) ?_
            refine c_exit ?_
            repeat refine c_seq ?_
            refine c_region ?_
            refine l_op (o_val (r_as) ?_)
            first | refine l_end ?_ | refine l_nil ?_
            refine c_ret ?_
            try dsimp only [Exit.then, Exit.inBlock]
            refine e_ret1 (v := .bool true) Try.results75 rfl ?_
            refine ⟨_, rfl, ?_⟩
            refine ⟨?_, H.sub (List.nil_sublist _)⟩
            rw [(mayT_iff t).2 ⟨.inr hc16, hc18, by omega, fun j c hj => hall j c (by have := hc.ln; have := (List.getElem?_eq_some_iff.1 hj).1; omega) hj⟩]
      · skip
        refine l_no rfl rfl (by exact congrArg Value.bool (congrArg not hc18)) rfl ?_
        refine l_no rfl rfl (by exact congrArg Value.bool (congrArg not hc18)) rfl ?_
        refine l_no rfl rfl (by exact congrArg Value.bool (congrArg not hc18)) rfl ?_
        refine l_no rfl rfl (by exact congrArg Value.bool (congrArg not hc18)) rfl ?_
        refine l_op (o_val (r_pick (b := true) (congrArg Value.bool (congrArg not hc18))) ?_)
        first | refine l_end ?_ | refine l_nil ?_
        repeat refine c_seq ?_
        refine c_yes rfl ?_
        repeat refine c_seq ?_
        refine c_region ?_
        refine l_op (o_val (r_as) ?_)
        first | refine l_end ?_ | refine l_nil ?_
        refine c_ret ?_
        try dsimp only [Exit.then, Exit.inBlock]
        refine e_ret1 (v := .bool false) Try.results75 rfl ?_
        refine ⟨_, rfl, ?_⟩
        refine ⟨?_, H.sub (List.nil_sublist _)⟩
        have e : mayT t = false := Bool.eq_false_iff.2 fun h => by
          have h2 := (mayT_iff t).1 h
          have h3 := h2.2.1
          rw [hc18] at h3; cases h3
        rw [e]
    · skip
      refine l_no rfl rfl (by exact congrArg Value.bool (congrArg not hc16)) rfl ?_
      refine l_no rfl rfl (by exact congrArg Value.bool (congrArg not hc16)) rfl ?_
      refine l_no rfl rfl (by exact congrArg Value.bool (congrArg not hc16)) rfl ?_
      refine l_no rfl rfl (by exact congrArg Value.bool (congrArg not hc16)) rfl ?_
      refine l_op (o_val (r_pick (b := true) (congrArg Value.bool (congrArg not hc16))) ?_)
      refine l_op (o_val (r_mv) ?_)
      refine l_no rfl rfl rfl rfl ?_
      refine l_no rfl rfl rfl rfl ?_
      refine l_no rfl rfl rfl rfl ?_
      refine l_no rfl rfl rfl rfl ?_
      refine l_op (o_val (r_pick rfl) ?_)
      first | refine l_end ?_ | refine l_nil ?_
      repeat refine c_seq ?_
      refine c_yes rfl ?_
      repeat refine c_seq ?_
      refine c_region ?_
      refine l_op (o_val (r_as) ?_)
      first | refine l_end ?_ | refine l_nil ?_
      refine c_ret ?_
      try dsimp only [Exit.then, Exit.inBlock]
      refine e_ret1 (v := .bool false) Try.results75 rfl ?_
      refine ⟨_, rfl, ?_⟩
      refine ⟨?_, H.sub (List.nil_sublist _)⟩
      have e : mayT t = false := Bool.eq_false_iff.2 fun h => by
        have h2 := (mayT_iff t).1 h
        rcases h2.1 with h3 | h3
        · exact absurd h3 (of_decide_eq_false (decide_eq_false hc2))
        · rw [hc16] at h3; cases h3
      rw [e]
theorem on_ret (w0 : World) (sum : List UInt8) (hsum : sum.length = 32) (x : Gl Cav) (hx : x.ok cavE 2 w0) :
    Ret Try.prog 118 [.agg ((sum).map V8).toArray, x.v] w0 fun v w' => v = .agg ((onF sum x.l).map V8).toArray ∧ Hp w0 w' [] [] := by
  refine ret_mk Try.func118 rfl Try.ntmps118 (by simp) ?_
  have H := Hp.refl w0 []
  have hxl := hx.le
  have hxm := hx.mx
  have hmL : maxLen = 9223372036854775807 := rfl
  repeat refine c_seq ?_
  refine c_region ?_
  refine l_op (o_box (v := .agg ((sum).map V8).toArray) H rfl (fun b1 w H hb1 => ?_))
  replace H : Hp w0 w [] ([.blk b1 ((sum).map V8) 31]) := H
  refine l_op (o_alloc H zc31 (fun b2 w H hb2 => ?_))
  replace H : Hp w0 w [] ([.blk b1 ((sum).map V8) 31, .blk b2 ((List.replicate 32 (0 : UInt8)).map V8) 31]) := H
  first | refine l_end ?_ | refine l_nil ?_
  repeat refine c_seq ?_
  refine c_region ?_
  refine l_op (o_val (r_mv) ?_)
  refine l_op (o_val (r_lens el74 rfl) ?_)
  refine l_op (o_val (r_mv) ?_)
  first | refine l_end ?_ | refine l_nil ?_
  repeat refine c_seq ?_
  refine c_block ?_
  repeat refine c_seq ?_
  refine c_loop (fun (i : Nat) => [(2, .pointer (some ⟨b1, 0, none⟩)), (4, .pointer (some ⟨b2, 0, none⟩)), (7, x.v), (8, VI (x.len : Int)), (9, VI (i : Int))])
    (fun (i : Nat) w => (i ≤ x.len) ∧ Hp w0 w [] ([.blk b1 ((onF sum (x.l.take i)).map V8) 31, .blk b2 ((List.replicate 32 (0 : UInt8)).map V8) 31]))
    (fun (i : Nat) => x.len - i) 0 ⟨rfl, rfl, rfl, rfl, rfl, trivial⟩ ⟨Nat.zero_le _, H⟩ ?_
  clear H
  rintro i τ w ⟨hi, H⟩
  repeat refine c_seq ?_
  refine c_region ?_
  refine l_op (o_val (r_bin (a := (i : Int)) (b := (x.len : Int)) rfl rfl (fun _ => b_lss)) ?_)
  first | refine l_end ?_ | refine l_nil ?_
  by_cases hc3 : (i : Int) < (x.len : Int)
  · skip
    repeat refine c_seq ?_
    refine c_yes (by exact congrArg Value.bool (decide_eq_true hc3)) ?_
    refine c_skip ?_
    repeat refine c_seq ?_
    refine c_block ?_
    repeat refine c_seq ?_
    refine c_region ?_
    have ah6 := ((hx.up H)).addr (by decide) (by omega)
    obtain ⟨ab4, ao5, ah6⟩ := ah6
    refine l_op (o_val (r_isN i rfl rfl el74 ah6 (by omega) (by (try simp only [Sl.cut]); omega)) ?_)
    have he8 : ∃ c, x.l[i]? = some c := ⟨_, List.getElem?_eq_getElem (by have := ((hx.up H)).ln; omega)⟩
    obtain ⟨e7, he8⟩ := he8
    have hez9 := ((hx.up H)).sz e7 (List.mem_of_getElem? he8)
    refine l_op (o_val (r_ldRow (s := x) (k := i) (hx.up H) ah6 rfl rt78 (by decide) he8) ?_)
    refine l_op (o_alloc H zc78 (fun b10 w H hb10 => ?_))
    replace H : Hp w0 w [] ([.blk b1 ((onF sum (x.l.take i)).map V8) 31, .blk b2 ((List.replicate 32 (0 : UInt8)).map V8) 31, .blk b10 ([V8 (0 : UInt8), VI 0]) 78]) := H
    refine l_op (o_stW (C' := [V8 e7.1, VI e7.2]) H (i := 2) rfl rfl rfl cs78 (by simp [Value.oneCell', Sl.v, Gl.v]) (by rfl) (by rfl) (fun w H => ?_))
    replace H : Hp w0 w [] ([.blk b1 ((onF sum (x.l.take i)).map V8) 31, .blk b2 ((List.replicate 32 (0 : UInt8)).map V8) 31, .blk b10 ([V8 e7.1, VI e7.2]) 78]) := H
    first | refine l_end ?_ | refine l_nil ?_
    repeat refine c_seq ?_
    refine wp_held (fun w => Hp w0 w [] [.blk b2 ((List.replicate 32 (0 : UInt8)).map V8) 31, .blk b10 ([V8 e7.1, VI e7.2]) 78]) mixed ?_
    replace H := H.drew
    have HS := H.sub (.cons _ (.cons_cons _ (.cons_cons _ (List.nil_sublist _))))
    refine t_take 0 rfl (by kernel_rfl) (by kernel_rfl) (by kernel_rfl) (fun _ _ _ h => h) (fun w HS => r_slA (h := 32) (m := 32) (lv := none) (hv := none) (mv := none) rfl ar31 rfl rfl rfl (fun w => sbn w)) HS ?_
    refine t_take 1 rfl (by kernel_rfl) (by kernel_rfl) (by kernel_rfl) (fun _ _ _ h => h) (fun w HS => r_ldA (C := [V8 e7.1, VI e7.2]) HS (i := 1) rfl rfl rt78 (by rfl)) HS ?_
    refine t_step 2 rfl (by kernel_rfl) (o_callR Try.func125 rfl rfl rfl (caveat_ret _ e7) ?_)
    rintro _ w ⟨a11, c12, rfl, Hc⟩
    replace H : Hp w0 w [] ([.blk b1 ((onF sum (x.l.take i)).map V8) 31, .blk b2 ((List.replicate 32 (0 : UInt8)).map V8) 31, .blk b10 ([V8 e7.1, VI e7.2]) 78, .own a11 9 c12 ((cavB e7).map V8) 5 1]) := H.call Hc
    clear Hc
    refine ⟨H.sub (.cons _ (.cons_cons _ (.cons_cons _ (List.nil_sublist _)))), ?_⟩
    replace HS := H.sub (.cons _ (.cons_cons _ (.cons_cons _ (List.nil_sublist _))))
    refine t_step 3 rfl (by kernel_rfl) (o_bslV ([.slice (hd a11) 9 c12]) H sl22 zc29 rfl (by simp [Value.oneCell', Sl.v]) rfl (by decide) (fun b13 w H hb13 => ?_))
    replace H : Hp w0 w [] ([.blk b1 ((onF sum (x.l.take i)).map V8) 31, .blk b2 ((List.replicate 32 (0 : UInt8)).map V8) 31, .blk b10 ([V8 e7.1, VI e7.2]) 78, .own a11 9 c12 ((cavB e7).map V8) 5 1, .own (some b13) 1 1 ([.slice (hd a11) 9 c12]) 29 1]) := H
    refine ⟨H.sub (.cons _ (.cons_cons _ (.cons_cons _ (List.nil_sublist _)))), ?_⟩
    replace HS := H.sub (.cons _ (.cons_cons _ (.cons_cons _ (List.nil_sublist _))))
    refine t_step 4 rfl (by kernel_rfl) (o_callR Try.func52 rfl rfl rfl (macOf_ret _ (⟨some ⟨b1, 0, none⟩, 32, 32, onF sum (x.l.take i)⟩ : Sl) (H.slBlkA (i := 0) rfl 32 (show (onF sum (x.l.take i)).length = 32 from onF_len _ hsum _) (by decide)) (hd (some b13)) 1 1 [⟨hd a11, 9, c12, cavB e7⟩] (H.own (i := 4) rfl) rfl (all1 (H.slOwn (i := 3) rfl)) (by omega) (by simp [framed, be_len, cavB_len])) ?_)
    rintro _ w ⟨rfl, Hc⟩
    replace H : Hp w0 w [] ([.blk b1 ((onF sum (x.l.take i)).map V8) 31, .blk b2 ((List.replicate 32 (0 : UInt8)).map V8) 31, .blk b10 ([V8 e7.1, VI e7.2]) 78, .own a11 9 c12 ((cavB e7).map V8) 5 1, .own (some b13) 1 1 ([.slice (hd a11) 9 c12]) 29 1]) := H.call Hc
    clear Hc
    refine ⟨H.sub (.cons _ (.cons_cons _ (.cons_cons _ (List.nil_sublist _)))), ?_⟩
    replace HS := H.sub (.cons _ (.cons_cons _ (.cons_cons _ (List.nil_sublist _))))
    refine t_step 5 rfl (by kernel_rfl) (o_stA (l' := hmac (onF sum (x.l.take i)) (framed [cavB e7])) H (i := 0) rfl rfl rfl cs31 (show (onF sum (x.l.take i)).length = 32 from onF_len _ hsum _) (show (hmac (onF sum (x.l.take i)) (framed [cavB e7])).length = 32 from hmac_len _ _) (fun w H => ?_))
    replace H : Hp w0 w [] ([.blk b1 ((hmac (onF sum (x.l.take i)) (framed [cavB e7])).map V8) 31, .blk b2 ((List.replicate 32 (0 : UInt8)).map V8) 31, .blk b10 ([V8 e7.1, VI e7.2]) 78, .own a11 9 c12 ((cavB e7).map V8) 5 1, .own (some b13) 1 1 ([.slice (hd a11) 9 c12]) 29 1]) := H
    refine ⟨H.sub (.cons _ (.cons_cons _ (.cons_cons _ (List.nil_sublist _)))), ?_⟩
    replace HS := H.sub (.cons _ (.cons_cons _ (.cons_cons _ (List.nil_sublist _))))
    refine t_done (by kernel_rfl) ?_
    clear HS
    repeat refine c_seq ?_
    refine c_region ?_
    refine l_op (o_val (r_bin (a := (i : Int)) (b := 1) rfl rfl (fun _ => b_add (by omega) (by omega))) ?_)
    refine l_op (o_val (r_mv) ?_)
    first | refine l_end ?_ | refine l_nil ?_
    rw [onF_succ sum x.l i e7 he8] at H
    refine round_end (i + 1) ?_ ?_ ?_
    · exact ⟨rfl, rfl, rfl, rfl, show VI ((i : Int) + 1) = VI ((i + 1 : Nat) : Int) from congrArg VI (by omega), trivial⟩
    · refine ⟨?_, ?_⟩
      · try dsimp only
        exact by omega
      · exact H.sub (.cons_cons _ (.cons_cons _ (List.nil_sublist _)))
    · show x.len - (i + 1 : Nat) < x.len - i; omega
  · skip
    repeat refine c_seq ?_
    refine c_no (by exact congrArg Value.bool (decide_eq_false hc3)) ?_
    refine c_exit ?_
    repeat refine c_seq ?_
    refine c_region ?_
    refine l_op (o_val (r_ldAA (l := onF sum (x.l.take i)) H (i := 0) rfl rfl rt31 (show (onF sum (x.l.take i)).length = 32 from onF_len _ hsum _)) ?_)
    refine l_op (o_stA (l' := onF sum (x.l.take i)) H (i := 1) rfl rfl rfl cs31 (show (List.replicate 32 (0 : UInt8)).length = 32 from (List.length_replicate ..)) (show (onF sum (x.l.take i)).length = 32 from onF_len _ hsum _) (fun w H => ?_))
    replace H : Hp w0 w [] ([.blk b1 ((onF sum (x.l.take i)).map V8) 31, .blk b2 ((onF sum (x.l.take i)).map V8) 31]) := H
    first | refine l_end ?_ | refine l_nil ?_
    refine c_ret ?_
    try dsimp only [Exit.then, Exit.inBlock]
    refine e_retA (l := onF sum (x.l.take i)) Try.results118 H (i := 1) rfl rfl rt31 (show (onF sum (x.l.take i)).length = 32 from onF_len _ hsum _) ?_
    refine ⟨_, rfl, ?_⟩
    have hi2 : i = x.len := by omega
    rw [List.take_of_length_le (by have := hx.ln; omega)]
    exact ⟨rfl, H.sub (List.nil_sublist _)⟩
theorem capown_ret (w0 : World) (t : Tok) (hc : t.cs.ok cavE 2 w0) (htag : t.tag.length = 32) (x : Gl Cav) (hx : x.ok cavE 2 w0) (h1 : t.cs.len ≤ 1048576) (h2 : x.len ≤ 1048576) :
    Ret Try.prog 119 [.agg ([V64 t.serial, .string ⟨(t.tenant).toArray⟩, V8 t.rights, VI t.from_, VI t.until_, t.cs.v] ++ (t.tag).map V8).toArray, x.v] w0 fun v w' => ∃ a c, v = .agg ([V64 t.serial, .string ⟨(t.tenant).toArray⟩, V8 t.rights, VI t.from_, VI t.until_, .slice (hd a) (t.cs.len + x.len) c] ++ (t.tag).map V8).toArray ∧ Hp w0 w' [] [.own a (t.cs.len + x.len) c ((t.cs.l ++ x.l).flatMap cavE) 78 2] := by
  refine ret_mk Try.func119 rfl Try.ntmps119 (by simp) ?_
  have H := Hp.refl w0 []
  repeat refine c_seq ?_
  refine c_region ?_
  refine l_op (o_box (v := .agg ([V64 t.serial, .string ⟨(t.tenant).toArray⟩, V8 t.rights, VI t.from_, VI t.until_, t.cs.v] ++ (t.tag).map V8).toArray) H rfl (fun b1 w H hb1 => ?_))
  replace H : Hp w0 w [] ([.blk b1 ([V64 t.serial, .string ⟨(t.tenant).toArray⟩, V8 t.rights, VI t.from_, VI t.until_, t.cs.v] ++ (t.tag).map V8) 76]) := H
  refine l_op (o_alloc H zc76 (fun b2 w H hb2 => ?_))
  replace H : Hp w0 w [] ([.blk b1 ([V64 t.serial, .string ⟨(t.tenant).toArray⟩, V8 t.rights, VI t.from_, VI t.until_, t.cs.v] ++ (t.tag).map V8) 76, .blk b2 ([V64 (0 : UInt64), .string ⟨(([] : List UInt8)).toArray⟩, V8 (0 : UInt8), VI 0, VI 0, .slice none 0 0] ++ (List.replicate 32 (0 : UInt8)).map V8) 76]) := H
  first | refine l_end ?_ | refine l_nil ?_
  repeat refine c_seq ?_
  refine c_region ?_
  refine l_op (o_bslG0 (α := Cav) (enc := cavE) H sl74 zc78 (by decide) (fun b3 w H hb3 => ?_))
  replace H : Hp w0 w [] ([.blk b1 ([V64 t.serial, .string ⟨(t.tenant).toArray⟩, V8 t.rights, VI t.from_, VI t.until_, t.cs.v] ++ (t.tag).map V8) 76, .blk b2 ([V64 (0 : UInt64), .string ⟨(([] : List UInt8)).toArray⟩, V8 (0 : UInt8), VI 0, VI 0, .slice none 0 0] ++ (List.replicate 32 (0 : UInt8)).map V8) 76, .own (some b3) 0 0 ((([] : List Cav)).flatMap cavE) 78 2]) := H
  refine l_op (o_val (r_fa rfl fo76_5) ?_)
  refine l_op (o_val (r_ld (v := t.cs.v) H (i := 0) rfl rfl ct74 rfl) ?_)
  refine l_op (o_appG (enc := cavE) (s := t.cs) (l' := t.cs.l) (len' := t.cs.len) rfl (Nat.zero_add _) H (i := 2) rfl sl74 Try.underlying74 rfl rfl (hc.up H) (by decide) (fun _ _ => rfl) (by omega) (by decide) (fun a4 c5 w H => ?_))
  replace H : Hp w0 w [] ([.blk b1 ([V64 t.serial, .string ⟨(t.tenant).toArray⟩, V8 t.rights, VI t.from_, VI t.until_, t.cs.v] ++ (t.tag).map V8) 76, .blk b2 ([V64 (0 : UInt64), .string ⟨(([] : List UInt8)).toArray⟩, V8 (0 : UInt8), VI 0, VI 0, .slice none 0 0] ++ (List.replicate 32 (0 : UInt8)).map V8) 76, .own a4 t.cs.len c5 ((t.cs.l).flatMap cavE) 78 2]) := H
  refine l_op (o_val (r_mv) ?_)
  refine l_op (o_appG (enc := cavE) (s := x) (l' := t.cs.l ++ x.l) (len' := t.cs.len + x.len) rfl rfl H (i := 2) rfl sl74 Try.underlying74 rfl rfl (hx.up H) (by decide) (fun _ _ => rfl) (by omega) (by decide) (fun a6 c7 w H => ?_))
  replace H : Hp w0 w [] ([.blk b1 ([V64 t.serial, .string ⟨(t.tenant).toArray⟩, V8 t.rights, VI t.from_, VI t.until_, t.cs.v] ++ (t.tag).map V8) 76, .blk b2 ([V64 (0 : UInt64), .string ⟨(([] : List UInt8)).toArray⟩, V8 (0 : UInt8), VI 0, VI 0, .slice none 0 0] ++ (List.replicate 32 (0 : UInt8)).map V8) 76, .own a6 (t.cs.len + x.len) c7 ((t.cs.l ++ x.l).flatMap cavE) 78 2]) := H
  refine l_op (o_val (r_fa rfl fo76_5) ?_)
  refine l_op (o_st (v := .slice (hd a6) (t.cs.len + x.len) c7) H (i := 0) rfl rfl rfl cs74 rfl (by simp only [List.length_append, List.length_cons, List.length_nil]; omega) (fun w H => ?_))
  replace H : Hp w0 w [] ([.blk b1 ([V64 t.serial, .string ⟨(t.tenant).toArray⟩, V8 t.rights, VI t.from_, VI t.until_, .slice (hd a6) (t.cs.len + x.len) c7] ++ (t.tag).map V8) 76, .blk b2 ([V64 (0 : UInt64), .string ⟨(([] : List UInt8)).toArray⟩, V8 (0 : UInt8), VI 0, VI 0, .slice none 0 0] ++ (List.replicate 32 (0 : UInt8)).map V8) 76, .own a6 (t.cs.len + x.len) c7 ((t.cs.l ++ x.l).flatMap cavE) 78 2]) := H
  first | refine l_end ?_ | refine l_nil ?_
  repeat refine c_seq ?_
  refine c_region ?_
  refine l_op (o_val (r_ldA (C := [V64 t.serial, .string ⟨(t.tenant).toArray⟩, V8 t.rights, VI t.from_, VI t.until_, .slice (hd a6) (t.cs.len + x.len) c7] ++ (t.tag).map V8) H (i := 0) rfl rfl rt76 (by rw [List.length_append, List.length_map, (show (t.tag).length = 32 from htag)]; rfl)) ?_)
  refine l_op (o_stW (C' := [V64 t.serial, .string ⟨(t.tenant).toArray⟩, V8 t.rights, VI t.from_, VI t.until_, .slice (hd a6) (t.cs.len + x.len) c7] ++ (t.tag).map V8) H (i := 1) rfl rfl rfl cs76 (by simp [Value.oneCell', Sl.v, Gl.v]) (by rw [List.length_append, List.length_map, (show (List.replicate 32 (0 : UInt8)).length = 32 from (List.length_replicate ..))]; rfl) (by rw [List.length_append, List.length_map, (show (t.tag).length = 32 from htag)]; rfl) (fun w H => ?_))
  replace H : Hp w0 w [] ([.blk b1 ([V64 t.serial, .string ⟨(t.tenant).toArray⟩, V8 t.rights, VI t.from_, VI t.until_, .slice (hd a6) (t.cs.len + x.len) c7] ++ (t.tag).map V8) 76, .blk b2 ([V64 t.serial, .string ⟨(t.tenant).toArray⟩, V8 t.rights, VI t.from_, VI t.until_, .slice (hd a6) (t.cs.len + x.len) c7] ++ (t.tag).map V8) 76, .own a6 (t.cs.len + x.len) c7 ((t.cs.l ++ x.l).flatMap cavE) 78 2]) := H
  first | refine l_end ?_ | refine l_nil ?_
  refine c_ret ?_
  try dsimp only [Exit.then, Exit.inBlock]
  refine e_retc Try.results119 H (i := 1) rfl rfl rt76 (by rw [List.length_append, List.length_map, (show (t.tag).length = 32 from htag)]; rfl) ?_
  refine ⟨_, rfl, ?_⟩
  exact ⟨_, _, rfl, H.sub (.cons _ (.cons _ (.cons_cons _ (List.nil_sublist _))))⟩
theorem effect_ret (w0 : World) (t : Tok) (hc : t.cs.ok cavE 2 w0) (htag : t.tag.length = 32) :
    Ret Try.prog 72 [.agg ([V64 t.serial, .string ⟨(t.tenant).toArray⟩, V8 t.rights, VI t.from_, VI t.until_, t.cs.v] ++ (t.tag).map V8).toArray] w0 fun v w' => v = .tuple #[V8 (effF t.rights t.until_ t.cs.l).1, VI (effF t.rights t.until_ t.cs.l).2] ∧ Hp w0 w' [] [] := by
  refine ret_mk Try.func72 rfl Try.ntmps72 (by simp) ?_
  have H := Hp.refl w0 []
  have hxl := hc.le
  have hxm := hc.mx
  have hmL : maxLen = 9223372036854775807 := rfl
  repeat refine c_seq ?_
  refine c_region ?_
  refine l_op (o_box (v := .agg ([V64 t.serial, .string ⟨(t.tenant).toArray⟩, V8 t.rights, VI t.from_, VI t.until_, t.cs.v] ++ (t.tag).map V8).toArray) H rfl (fun b1 w H hb1 => ?_))
  replace H : Hp w0 w [] ([.blk b1 ([V64 t.serial, .string ⟨(t.tenant).toArray⟩, V8 t.rights, VI t.from_, VI t.until_, t.cs.v] ++ (t.tag).map V8) 76]) := H
  refine l_op (o_val (r_asV (c8 0 (by decide))) ?_)
  refine l_op (o_val (r_as) ?_)
  first | refine l_end ?_ | refine l_nil ?_
  repeat refine c_seq ?_
  refine c_still mixed (by kernel_rfl) ?_
  replace H := H.drew
  refine s_op (r_fa rfl fo76_2) ?_
  refine s_op (r_ld (v := V8 t.rights) H (i := 0) rfl rfl ct73 rfl) ?_
  refine s_op (r_fa rfl fo76_4) ?_
  refine s_op (r_ld (v := VI t.until_) H (i := 0) rfl rfl ct2 rfl) ?_
  refine s_op (r_as) ?_
  refine s_op (r_as) ?_
  refine s_nil ?_
  repeat refine c_seq ?_
  refine c_region ?_
  refine l_op (o_val (r_fa rfl fo76_5) ?_)
  refine l_op (o_val (r_ld (v := t.cs.v) H (i := 0) rfl rfl ct74 rfl) ?_)
  refine l_op (o_val (r_lens el74 rfl) ?_)
  refine l_op (o_val (r_mv) ?_)
  first | refine l_end ?_ | refine l_nil ?_
  repeat refine c_seq ?_
  refine c_block ?_
  repeat refine c_seq ?_
  refine c_loop (fun (i : Nat) => [(4, V8 ((effF t.rights t.until_ (t.cs.l.take i)).1)), (5, VI ((effF t.rights t.until_ (t.cs.l.take i)).2)), (13, t.cs.v), (14, VI (t.cs.len : Int)), (15, VI (i : Int))])
    (fun (i : Nat) w => (i ≤ t.cs.len) ∧ Hp w0 w [] ([.blk b1 ([V64 t.serial, .string ⟨(t.tenant).toArray⟩, V8 t.rights, VI t.from_, VI t.until_, t.cs.v] ++ (t.tag).map V8) 76]))
    (fun (i : Nat) => t.cs.len - i) 0 ⟨rfl, rfl, rfl, rfl, rfl, trivial⟩ ⟨Nat.zero_le _, H⟩ ?_
  clear H
  rintro i τ w ⟨hi, H⟩
  repeat refine c_seq ?_
  refine c_region ?_
  refine l_op (o_val (r_bin (a := (i : Int)) (b := (t.cs.len : Int)) rfl rfl (fun _ => b_lss)) ?_)
  first | refine l_end ?_ | refine l_nil ?_
  by_cases hc2 : (i : Int) < (t.cs.len : Int)
  · skip
    repeat refine c_seq ?_
    refine c_yes (by exact congrArg Value.bool (decide_eq_true hc2)) ?_
    refine c_skip ?_
    repeat refine c_seq ?_
    refine c_block ?_
    repeat refine c_seq ?_
    refine c_region ?_
    have ah5 := ((hc.up H)).addr (by decide) (by omega)
    obtain ⟨ab3, ao4, ah5⟩ := ah5
    refine l_op (o_val (r_isN i rfl rfl el74 ah5 (by omega) (by (try simp only [Sl.cut]); omega)) ?_)
    have he7 : ∃ c, t.cs.l[i]? = some c := ⟨_, List.getElem?_eq_getElem (by have := ((hc.up H)).ln; omega)⟩
    obtain ⟨e6, he7⟩ := he7
    have hez8 := ((hc.up H)).sz e6 (List.mem_of_getElem? he7)
    refine l_op (o_val (r_ldRow (s := t.cs) (k := i) (hc.up H) ah5 rfl rt78 (by decide) he7) ?_)
    refine l_op (o_alloc H zc78 (fun b9 w H hb9 => ?_))
    replace H : Hp w0 w [] ([.blk b1 ([V64 t.serial, .string ⟨(t.tenant).toArray⟩, V8 t.rights, VI t.from_, VI t.until_, t.cs.v] ++ (t.tag).map V8) 76, .blk b9 ([V8 (0 : UInt8), VI 0]) 78]) := H
    refine l_op (o_stW (C' := [V8 e6.1, VI e6.2]) H (i := 1) rfl rfl rfl cs78 (by simp [Value.oneCell', Sl.v, Gl.v]) (by rfl) (by rfl) (fun w H => ?_))
    replace H : Hp w0 w [] ([.blk b1 ([V64 t.serial, .string ⟨(t.tenant).toArray⟩, V8 t.rights, VI t.from_, VI t.until_, t.cs.v] ++ (t.tag).map V8) 76, .blk b9 ([V8 e6.1, VI e6.2]) 78]) := H
    first | refine l_end ?_ | refine l_nil ?_
    repeat refine c_seq ?_
    refine c_still mixed (by kernel_rfl) ?_
    replace H := H.drew
    refine s_op (r_mv) ?_
    refine s_op (r_fa rfl fo78_0) ?_
    refine s_op (r_ld (v := V8 e6.1) H (i := 1) rfl rfl ct73 rfl) ?_
    refine s_call Try.func121 rfl rfl rfl (rmeet_ret _ ((effF t.rights t.until_ (t.cs.l.take i)).1) (e6.1)) ?_
    refine s_op (r_mv) ?_
    refine s_op (r_fa rfl fo78_1) ?_
    refine s_op (r_ld (v := VI e6.2) H (i := 1) rfl rfl ct2 rfl) ?_
    refine s_op (r_min rfl rfl) ?_
    refine s_op (r_as) ?_
    refine s_op (r_as) ?_
    refine s_nil ?_
    repeat refine c_seq ?_
    refine c_region ?_
    refine l_op (o_val (r_bin (a := (i : Int)) (b := 1) rfl rfl (fun _ => b_add (by omega) (by omega))) ?_)
    refine l_op (o_val (r_mv) ?_)
    first | refine l_end ?_ | refine l_nil ?_
    have es := effF_succ t.rights t.until_ t.cs.l i e6 he7
    refine round_end (i + 1) ?_ ?_ ?_
    · exact ⟨show V8 (((effF t.rights t.until_ (t.cs.l.take i)).1) &&& e6.1) = V8 ((effF t.rights t.until_ (t.cs.l.take (i + 1 : Nat))).1) from congrArg V8 (by rw [es]), show VI (if e6.2 < (effF t.rights t.until_ (t.cs.l.take i)).2 then e6.2 else (effF t.rights t.until_ (t.cs.l.take i)).2) = VI ((effF t.rights t.until_ (t.cs.l.take (i + 1 : Nat))).2) from congrArg VI (by rw [es]), rfl, rfl, show VI ((i : Int) + 1) = VI ((i + 1 : Nat) : Int) from congrArg VI (by omega), trivial⟩
    · refine ⟨?_, ?_⟩
      · try dsimp only
        exact by omega
      · exact H.sub (.cons_cons _ (List.nil_sublist _))
    · show t.cs.len - (i + 1 : Nat) < t.cs.len - i; omega
  · skip
    repeat refine c_seq ?_
    refine c_no (by exact congrArg Value.bool (decide_eq_false hc2)) ?_
    refine c_exit ?_
    repeat refine c_seq ?_
    refine c_region ?_
    refine l_op (o_val (r_mv) ?_)
    refine l_op (o_val (r_mv) ?_)
    refine l_op (o_val (r_as) ?_)
    refine l_op (o_val (r_as) ?_)
    first | refine l_end ?_ | refine l_nil ?_
    refine c_ret ?_
    try dsimp only [Exit.then, Exit.inBlock]
    refine e_retN (vs := [V8 ((effF t.rights t.until_ (t.cs.l.take i)).1), VI ((effF t.rights t.until_ (t.cs.l.take i)).2)]) _ Try.results72 rfl (resT (v := V8 ((effF t.rights t.until_ (t.cs.l.take i)).1)) rfl (resT (v := VI ((effF t.rights t.until_ (t.cs.l.take i)).2)) rfl (resZ))) ?_
    refine ⟨_, rfl, ?_⟩
    rw [List.take_of_length_le (by have := hc.ln; omega)]
    exact ⟨rfl, H.sub (List.nil_sublist _)⟩
end Go.Proofs.Ytjmbbhnpfmblpaa
