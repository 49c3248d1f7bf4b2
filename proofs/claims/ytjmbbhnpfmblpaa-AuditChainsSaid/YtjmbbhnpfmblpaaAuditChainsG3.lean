/- Lemmas for the statement AuditChains, part 3: rules of operations, walks through functions, plain laws. -/
import Derived.Test.YtjmbbhnpfmblpaaAuditChainsG2
namespace Go.Proofs.Ytjmbbhnpfmblpaa
open Go
set_option maxRecDepth 100000
/-- an entry, as a world has it. -/
structure Ent where
  seq : Int
  tick : Int
  serial : UInt64
  tenant : List UInt8
  do_ : Int
  status : Int
  of_ : List UInt8
deriving DecidableEq
def entE (e : Ent) : List Value := [VI e.seq, VI e.tick, V64 e.serial, .string ⟨e.tenant.toArray⟩, VI e.do_, VI e.status] ++ e.of_.map V8
theorem entE_len (e : Ent) : (entE e).length = 38 ↔ e.of_.length = 32 := by simp [entE]
theorem ent_of {e : Ent} (h : (entE e).length = 38) : e.of_.length = 32 := (entE_len e).1 h
theorem ent_len {e : Ent} (h : e.of_.length = 32) : (entE e).length = 38 := (entE_len e).2 h
theorem ent_all (e : Ent) : (entE e).all (·.oneCell') = true := all_tail rfl
/-- numbers are such as int64 has. -/
def Ent.bd (e : Ent) : Prop := e.seq ≤ 9223372036854775807 ∧ e.tick ≤ 9223372036854775807
def mayE (e : Ent) : Bool := decide (0 ≤ e.seq ∧ 0 ≤ e.tick ∧ 0 ≤ e.do_ ∧ e.do_ ≤ 255 ∧ 0 ≤ e.status ∧ e.status ≤ 999 ∧ e.tenant.length ≤ 16)
theorem mayE_iff (e : Ent) : mayE e = true ↔ 0 ≤ e.seq ∧ 0 ≤ e.tick ∧ 0 ≤ e.do_ ∧ e.do_ ≤ 255 ∧ 0 ≤ e.status ∧ e.status ≤ 999 ∧ e.tenant.length ≤ 16 := by simp [mayE]
def entB (e : Ent) : List UInt8 := be e.seq.toNat 8 ++ be e.tick.toNat 8 ++ be e.serial.toNat 8 ++ [UInt8.ofNat e.tenant.length] ++ e.tenant ++ be e.do_.toNat 1 ++ be e.status.toNat 2 ++ e.of_
theorem entB_len (e : Ent) (h : e.of_.length = 32) : (entB e).length = 60 + e.tenant.length := by simp [entB, be_len, h]; omega
theorem au_cnt (n : Nat) (h : n ≤ 127) : cnt n = [UInt8.ofNat n] := by rw [cnt, if_neg (by omega)]
theorem au_be1 (n : Nat) (h : n ≤ 255) : be n 1 = [UInt8.ofNat n] := by simp [be]
theorem au_be2 (n : Nat) : be n 2 = [UInt8.ofNat (n / 256), UInt8.ofNat (n % 256)] := by
  have : UInt8.ofNat n = UInt8.ofNat (n % 256) := by apply UInt8.toNat_inj.1; rw [UInt8.toNat_ofNat', UInt8.toNat_ofNat']; omega
  have e : be n 2 = [UInt8.ofNat (n / 256 ^ 1), UInt8.ofNat (n / 256 ^ 0)] := rfl
  rw [e, Nat.pow_one, Nat.pow_zero, Nat.div_one, ← this]
def Z32a : List UInt8 := List.replicate 32 0
def linkF (h : List UInt8) (e : Ent) : List UInt8 := sha256 (h ++ entB e)
theorem linkF_len (h : List UInt8) (e : Ent) : (linkF h e).length = 32 := sha256_len _
theorem aMay_ret (w0 : World) (e : Ent) (_he : e.of_.length = 32) :
    Ret Try.prog 89 [.agg ([VI e.seq, VI e.tick, V64 e.serial, .string ⟨(e.tenant).toArray⟩, VI e.do_, VI e.status] ++ (e.of_).map V8).toArray] w0 fun v w' => v = .bool (mayE e) ∧ Hp w0 w' [] [] := by
  refine ret_mk Try.func89 rfl Try.ntmps89 (by simp) ?_
  have H := Hp.refl w0 []
  repeat refine c_seq ?_
  refine c_region ?_
  refine l_op (o_box (v := .agg ([VI e.seq, VI e.tick, V64 e.serial, .string ⟨(e.tenant).toArray⟩, VI e.do_, VI e.status] ++ (e.of_).map V8).toArray) H rfl (fun b1 w H hb1 => ?_))
  replace H : Hp _ w _ ([.blk b1 ([VI e.seq, VI e.tick, V64 e.serial, .string ⟨(e.tenant).toArray⟩, VI e.do_, VI e.status] ++ (e.of_).map V8) 95]) := H
  refine l_op (o_val (r_as) ?_)
  first | refine l_end ?_ | refine l_nil ?_
  repeat refine c_seq ?_
  refine c_region ?_
  refine l_op (o_val (r_fa rfl fo95_0) ?_)
  refine l_op (o_val (r_ld (v := VI e.seq) H (i := 0) rfl rfl ct2 rfl) ?_)
  refine l_op (o_val (r_bin (a := e.seq) (b := 0) rfl rfl (fun _ => b_geq)) ?_)
  refine l_op (o_val (r_mv) ?_)
  by_cases hc2 : 0 ≤ e.seq
  ·
   refine l_yes rfl rfl (by exact congrArg Value.bool (decide_eq_true hc2)) (o_val (r_fa rfl fo95_1) ?_)
   refine l_yes rfl rfl (by exact congrArg Value.bool (decide_eq_true hc2)) (o_val (r_ld (v := VI e.tick) H (i := 0) rfl rfl ct2 rfl) ?_)
   refine l_yes rfl rfl (by exact congrArg Value.bool (decide_eq_true hc2)) (o_val (r_bin (a := e.tick) (b := 0) rfl rfl (fun _ => b_geq)) ?_)
   refine l_op (o_val (r_pick (b := true) (congrArg Value.bool (decide_eq_true hc2))) ?_)
   refine l_op (o_val (r_mv) ?_)
   by_cases hc3 : 0 ≤ e.tick
   ·
    refine l_yes rfl rfl (by exact congrArg Value.bool (decide_eq_true hc3)) (o_val (r_fa rfl fo95_4) ?_)
    refine l_yes rfl rfl (by exact congrArg Value.bool (decide_eq_true hc3)) (o_val (r_ld (v := VI e.do_) H (i := 0) rfl rfl ct3 rfl) ?_)
    refine l_yes rfl rfl (by exact congrArg Value.bool (decide_eq_true hc3)) (o_val (r_bin (a := e.do_) (b := 0) rfl rfl (fun _ => b_geq)) ?_)
    refine l_op (o_val (r_pick (b := true) (congrArg Value.bool (decide_eq_true hc3))) ?_)
    refine l_op (o_val (r_mv) ?_)
    by_cases hc4 : 0 ≤ e.do_
    ·
     refine l_yes rfl rfl (by exact congrArg Value.bool (decide_eq_true hc4)) (o_val (r_fa rfl fo95_4) ?_)
     refine l_yes rfl rfl (by exact congrArg Value.bool (decide_eq_true hc4)) (o_val (r_ld (v := VI e.do_) H (i := 0) rfl rfl ct3 rfl) ?_)
     refine l_yes rfl rfl (by exact congrArg Value.bool (decide_eq_true hc4)) (o_val (r_bin (a := e.do_) (b := 255) rfl rfl (fun _ => b_leq)) ?_)
     refine l_op (o_val (r_pick (b := true) (congrArg Value.bool (decide_eq_true hc4))) ?_)
     refine l_op (o_val (r_mv) ?_)
     by_cases hc5 : e.do_ ≤ 255
     ·
      refine l_yes rfl rfl (by exact congrArg Value.bool (decide_eq_true hc5)) (o_val (r_fa rfl fo95_5) ?_)
      refine l_yes rfl rfl (by exact congrArg Value.bool (decide_eq_true hc5)) (o_val (r_ld (v := VI e.status) H (i := 0) rfl rfl ct3 rfl) ?_)
      refine l_yes rfl rfl (by exact congrArg Value.bool (decide_eq_true hc5)) (o_val (r_bin (a := e.status) (b := 0) rfl rfl (fun _ => b_geq)) ?_)
      refine l_op (o_val (r_pick (b := true) (congrArg Value.bool (decide_eq_true hc5))) ?_)
      refine l_op (o_val (r_mv) ?_)
      by_cases hc6 : 0 ≤ e.status
      ·
       refine l_yes rfl rfl (by exact congrArg Value.bool (decide_eq_true hc6)) (o_val (r_fa rfl fo95_5) ?_)
       refine l_yes rfl rfl (by exact congrArg Value.bool (decide_eq_true hc6)) (o_val (r_ld (v := VI e.status) H (i := 0) rfl rfl ct3 rfl) ?_)
       refine l_yes rfl rfl (by exact congrArg Value.bool (decide_eq_true hc6)) (o_val (r_bin (a := e.status) (b := 999) rfl rfl (fun _ => b_leq)) ?_)
       refine l_op (o_val (r_pick (b := true) (congrArg Value.bool (decide_eq_true hc6))) ?_)
       refine l_op (o_val (r_mv) ?_)
       by_cases hc7 : e.status ≤ 999
       ·
        refine l_yes rfl rfl (by exact congrArg Value.bool (decide_eq_true hc7)) (o_val (r_fa rfl fo95_3) ?_)
        refine l_yes rfl rfl (by exact congrArg Value.bool (decide_eq_true hc7)) (o_val (r_ld (v := .string ⟨(e.tenant).toArray⟩) H (i := 0) rfl rfl ct9 rfl) ?_)
        refine l_yes rfl rfl (by exact congrArg Value.bool (decide_eq_true hc7)) (o_val (r_lenstr (s := ⟨(e.tenant).toArray⟩) Try.underlying9 rfl) ?_)
        refine l_yes rfl rfl (by exact congrArg Value.bool (decide_eq_true hc7)) (o_val (r_bin (a := ((e.tenant).length : Int)) (b := 16) rfl rfl (fun _ => b_leq)) ?_)
        refine l_op (o_val (r_pick (b := true) (congrArg Value.bool (decide_eq_true hc7))) ?_)
        refine l_op (o_val (r_as) ?_)
        first | refine l_end ?_ | refine l_nil ?_
        refine c_ret ?_
        try dsimp only [Exit.then, Exit.inBlock]
        refine e_ret1 (v := .bool (decide (((e.tenant).length : Int) ≤ 16))) Try.results89 rfl ?_
        refine ⟨_, rfl, ?_⟩
        refine ⟨?_, H.sub (List.nil_sublist _)⟩
        congr 1
        exact decide_eq_decide.2 (by omega)
       ·
        refine l_no rfl rfl (by exact congrArg Value.bool (decide_eq_false hc7)) rfl ?_
        refine l_no rfl rfl (by exact congrArg Value.bool (decide_eq_false hc7)) rfl ?_
        refine l_no rfl rfl (by exact congrArg Value.bool (decide_eq_false hc7)) rfl ?_
        refine l_no rfl rfl (by exact congrArg Value.bool (decide_eq_false hc7)) rfl ?_
        refine l_op (o_val (r_pick (b := false) (congrArg Value.bool (decide_eq_false hc7))) ?_)
        refine l_op (o_val (r_as) ?_)
        first | refine l_end ?_ | refine l_nil ?_
        refine c_ret ?_
        try dsimp only [Exit.then, Exit.inBlock]
        refine e_ret1 (v := .bool false) Try.results89 rfl ?_
        refine ⟨_, rfl, ?_⟩
        refine ⟨?_, H.sub (List.nil_sublist _)⟩
        have e1 : mayE e = false := decide_eq_false (by omega)
        rw [e1]
      ·
       refine l_no rfl rfl (by exact congrArg Value.bool (decide_eq_false hc6)) rfl ?_
       refine l_no rfl rfl (by exact congrArg Value.bool (decide_eq_false hc6)) rfl ?_
       refine l_no rfl rfl (by exact congrArg Value.bool (decide_eq_false hc6)) rfl ?_
       refine l_op (o_val (r_pick (b := false) (congrArg Value.bool (decide_eq_false hc6))) ?_)
       refine l_op (o_val (r_mv) ?_)
       refine l_no rfl rfl rfl rfl ?_
       refine l_no rfl rfl rfl rfl ?_
       refine l_no rfl rfl rfl rfl ?_
       refine l_no rfl rfl rfl rfl ?_
       refine l_op (o_val (r_pick rfl) ?_)
       refine l_op (o_val (r_as) ?_)
       first | refine l_end ?_ | refine l_nil ?_
       refine c_ret ?_
       try dsimp only [Exit.then, Exit.inBlock]
       refine e_ret1 (v := .bool false) Try.results89 rfl ?_
       refine ⟨_, rfl, ?_⟩
       refine ⟨?_, H.sub (List.nil_sublist _)⟩
       have e1 : mayE e = false := decide_eq_false (by omega)
       rw [e1]
     ·
      refine l_no rfl rfl (by exact congrArg Value.bool (decide_eq_false hc5)) rfl ?_
      refine l_no rfl rfl (by exact congrArg Value.bool (decide_eq_false hc5)) rfl ?_
      refine l_no rfl rfl (by exact congrArg Value.bool (decide_eq_false hc5)) rfl ?_
      refine l_op (o_val (r_pick (b := false) (congrArg Value.bool (decide_eq_false hc5))) ?_)
      refine l_op (o_val (r_mv) ?_)
      refine l_no rfl rfl rfl rfl ?_
      refine l_no rfl rfl rfl rfl ?_
      refine l_no rfl rfl rfl rfl ?_
      refine l_op (o_val (r_pick rfl) ?_)
      refine l_op (o_val (r_mv) ?_)
      refine l_no rfl rfl rfl rfl ?_
      refine l_no rfl rfl rfl rfl ?_
      refine l_no rfl rfl rfl rfl ?_
      refine l_no rfl rfl rfl rfl ?_
      refine l_op (o_val (r_pick rfl) ?_)
      refine l_op (o_val (r_as) ?_)
      first | refine l_end ?_ | refine l_nil ?_
      refine c_ret ?_
      try dsimp only [Exit.then, Exit.inBlock]
      refine e_ret1 (v := .bool false) Try.results89 rfl ?_
      refine ⟨_, rfl, ?_⟩
      refine ⟨?_, H.sub (List.nil_sublist _)⟩
      have e1 : mayE e = false := decide_eq_false (by omega)
      rw [e1]
    ·
     refine l_no rfl rfl (by exact congrArg Value.bool (decide_eq_false hc4)) rfl ?_
     refine l_no rfl rfl (by exact congrArg Value.bool (decide_eq_false hc4)) rfl ?_
     refine l_no rfl rfl (by exact congrArg Value.bool (decide_eq_false hc4)) rfl ?_
     refine l_op (o_val (r_pick (b := false) (congrArg Value.bool (decide_eq_false hc4))) ?_)
     refine l_op (o_val (r_mv) ?_)
     refine l_no rfl rfl rfl rfl ?_
     refine l_no rfl rfl rfl rfl ?_
     refine l_no rfl rfl rfl rfl ?_
     refine l_op (o_val (r_pick rfl) ?_)
     refine l_op (o_val (r_mv) ?_)
     refine l_no rfl rfl rfl rfl ?_
     refine l_no rfl rfl rfl rfl ?_
     refine l_no rfl rfl rfl rfl ?_
     refine l_op (o_val (r_pick rfl) ?_)
     refine l_op (o_val (r_mv) ?_)
     refine l_no rfl rfl rfl rfl ?_
     refine l_no rfl rfl rfl rfl ?_
     refine l_no rfl rfl rfl rfl ?_
     refine l_no rfl rfl rfl rfl ?_
     refine l_op (o_val (r_pick rfl) ?_)
     refine l_op (o_val (r_as) ?_)
     first | refine l_end ?_ | refine l_nil ?_
     refine c_ret ?_
     try dsimp only [Exit.then, Exit.inBlock]
     refine e_ret1 (v := .bool false) Try.results89 rfl ?_
     refine ⟨_, rfl, ?_⟩
     refine ⟨?_, H.sub (List.nil_sublist _)⟩
     have e1 : mayE e = false := decide_eq_false (by omega)
     rw [e1]
   ·
    refine l_no rfl rfl (by exact congrArg Value.bool (decide_eq_false hc3)) rfl ?_
    refine l_no rfl rfl (by exact congrArg Value.bool (decide_eq_false hc3)) rfl ?_
    refine l_no rfl rfl (by exact congrArg Value.bool (decide_eq_false hc3)) rfl ?_
    refine l_op (o_val (r_pick (b := false) (congrArg Value.bool (decide_eq_false hc3))) ?_)
    refine l_op (o_val (r_mv) ?_)
    refine l_no rfl rfl rfl rfl ?_
    refine l_no rfl rfl rfl rfl ?_
    refine l_no rfl rfl rfl rfl ?_
    refine l_op (o_val (r_pick rfl) ?_)
    refine l_op (o_val (r_mv) ?_)
    refine l_no rfl rfl rfl rfl ?_
    refine l_no rfl rfl rfl rfl ?_
    refine l_no rfl rfl rfl rfl ?_
    refine l_op (o_val (r_pick rfl) ?_)
    refine l_op (o_val (r_mv) ?_)
    refine l_no rfl rfl rfl rfl ?_
    refine l_no rfl rfl rfl rfl ?_
    refine l_no rfl rfl rfl rfl ?_
    refine l_op (o_val (r_pick rfl) ?_)
    refine l_op (o_val (r_mv) ?_)
    refine l_no rfl rfl rfl rfl ?_
    refine l_no rfl rfl rfl rfl ?_
    refine l_no rfl rfl rfl rfl ?_
    refine l_no rfl rfl rfl rfl ?_
    refine l_op (o_val (r_pick rfl) ?_)
    refine l_op (o_val (r_as) ?_)
    first | refine l_end ?_ | refine l_nil ?_
    refine c_ret ?_
    try dsimp only [Exit.then, Exit.inBlock]
    refine e_ret1 (v := .bool false) Try.results89 rfl ?_
    refine ⟨_, rfl, ?_⟩
    refine ⟨?_, H.sub (List.nil_sublist _)⟩
    have e1 : mayE e = false := decide_eq_false (by omega)
    rw [e1]
  ·
   refine l_no rfl rfl (by exact congrArg Value.bool (decide_eq_false hc2)) rfl ?_
   refine l_no rfl rfl (by exact congrArg Value.bool (decide_eq_false hc2)) rfl ?_
   refine l_no rfl rfl (by exact congrArg Value.bool (decide_eq_false hc2)) rfl ?_
   refine l_op (o_val (r_pick (b := false) (congrArg Value.bool (decide_eq_false hc2))) ?_)
   refine l_op (o_val (r_mv) ?_)
   refine l_no rfl rfl rfl rfl ?_
   refine l_no rfl rfl rfl rfl ?_
   refine l_no rfl rfl rfl rfl ?_
   refine l_op (o_val (r_pick rfl) ?_)
   refine l_op (o_val (r_mv) ?_)
   refine l_no rfl rfl rfl rfl ?_
   refine l_no rfl rfl rfl rfl ?_
   refine l_no rfl rfl rfl rfl ?_
   refine l_op (o_val (r_pick rfl) ?_)
   refine l_op (o_val (r_mv) ?_)
   refine l_no rfl rfl rfl rfl ?_
   refine l_no rfl rfl rfl rfl ?_
   refine l_no rfl rfl rfl rfl ?_
   refine l_op (o_val (r_pick rfl) ?_)
   refine l_op (o_val (r_mv) ?_)
   refine l_no rfl rfl rfl rfl ?_
   refine l_no rfl rfl rfl rfl ?_
   refine l_no rfl rfl rfl rfl ?_
   refine l_op (o_val (r_pick rfl) ?_)
   refine l_op (o_val (r_mv) ?_)
   refine l_no rfl rfl rfl rfl ?_
   refine l_no rfl rfl rfl rfl ?_
   refine l_no rfl rfl rfl rfl ?_
   refine l_no rfl rfl rfl rfl ?_
   refine l_op (o_val (r_pick rfl) ?_)
   refine l_op (o_val (r_as) ?_)
   first | refine l_end ?_ | refine l_nil ?_
   refine c_ret ?_
   try dsimp only [Exit.then, Exit.inBlock]
   refine e_ret1 (v := .bool false) Try.results89 rfl ?_
   refine ⟨_, rfl, ?_⟩
   refine ⟨?_, H.sub (List.nil_sublist _)⟩
   have e1 : mayE e = false := decide_eq_false (by omega)
   rw [e1]
theorem aMayr_ret (w0 : World) (e : Ent) (_he : e.of_.length = 32) :
    Ret Try.prog 90 [.agg ([VI e.seq, VI e.tick, V64 e.serial, .string ⟨(e.tenant).toArray⟩, VI e.do_, VI e.status] ++ (e.of_).map V8).toArray] w0 fun v w' => v = .bool (mayE e) ∧ Hp w0 w' [] [] := by
  refine ret_mk Try.func90 rfl Try.ntmps90 (by simp) ?_
  have H := Hp.refl w0 []
  repeat refine c_seq ?_
  refine c_region ?_
  refine l_op (o_box (v := .agg ([VI e.seq, VI e.tick, V64 e.serial, .string ⟨(e.tenant).toArray⟩, VI e.do_, VI e.status] ++ (e.of_).map V8).toArray) H rfl (fun b1 w H hb1 => ?_))
  replace H : Hp _ w _ ([.blk b1 ([VI e.seq, VI e.tick, V64 e.serial, .string ⟨(e.tenant).toArray⟩, VI e.do_, VI e.status] ++ (e.of_).map V8) 95]) := H
  refine l_op (o_val (r_as) ?_)
  first | refine l_end ?_ | refine l_nil ?_
  repeat refine c_seq ?_
  refine c_region ?_
  refine l_op (o_val (r_fa rfl fo95_0) ?_)
  refine l_op (o_val (r_ld (v := VI e.seq) H (i := 0) rfl rfl ct2 rfl) ?_)
  refine l_op (o_val (r_bin (a := e.seq) (b := 0) rfl rfl (fun _ => b_geq)) ?_)
  refine l_op (o_val (r_mv) ?_)
  by_cases hc2 : 0 ≤ e.seq
  ·
   refine l_yes rfl rfl (by exact congrArg Value.bool (decide_eq_true hc2)) (o_val (r_fa rfl fo95_1) ?_)
   refine l_yes rfl rfl (by exact congrArg Value.bool (decide_eq_true hc2)) (o_val (r_ld (v := VI e.tick) H (i := 0) rfl rfl ct2 rfl) ?_)
   refine l_yes rfl rfl (by exact congrArg Value.bool (decide_eq_true hc2)) (o_val (r_bin (a := e.tick) (b := 0) rfl rfl (fun _ => b_geq)) ?_)
   refine l_op (o_val (r_pick (b := true) (congrArg Value.bool (decide_eq_true hc2))) ?_)
   refine l_op (o_val (r_mv) ?_)
   by_cases hc3 : 0 ≤ e.tick
   ·
    refine l_yes rfl rfl (by exact congrArg Value.bool (decide_eq_true hc3)) (o_val (r_fa rfl fo95_4) ?_)
    refine l_yes rfl rfl (by exact congrArg Value.bool (decide_eq_true hc3)) (o_val (r_ld (v := VI e.do_) H (i := 0) rfl rfl ct3 rfl) ?_)
    refine l_yes rfl rfl (by exact congrArg Value.bool (decide_eq_true hc3)) (o_val (r_bin (a := e.do_) (b := 0) rfl rfl (fun _ => b_geq)) ?_)
    refine l_op (o_val (r_pick (b := true) (congrArg Value.bool (decide_eq_true hc3))) ?_)
    refine l_op (o_val (r_mv) ?_)
    by_cases hc4 : 0 ≤ e.do_
    ·
     refine l_yes rfl rfl (by exact congrArg Value.bool (decide_eq_true hc4)) (o_val (r_fa rfl fo95_4) ?_)
     refine l_yes rfl rfl (by exact congrArg Value.bool (decide_eq_true hc4)) (o_val (r_ld (v := VI e.do_) H (i := 0) rfl rfl ct3 rfl) ?_)
     refine l_yes rfl rfl (by exact congrArg Value.bool (decide_eq_true hc4)) (o_val (r_bin (a := e.do_) (b := 255) rfl rfl (fun _ => b_leq)) ?_)
     refine l_op (o_val (r_pick (b := true) (congrArg Value.bool (decide_eq_true hc4))) ?_)
     refine l_op (o_val (r_mv) ?_)
     by_cases hc5 : e.do_ ≤ 255
     ·
      refine l_yes rfl rfl (by exact congrArg Value.bool (decide_eq_true hc5)) (o_val (r_fa rfl fo95_5) ?_)
      refine l_yes rfl rfl (by exact congrArg Value.bool (decide_eq_true hc5)) (o_val (r_ld (v := VI e.status) H (i := 0) rfl rfl ct3 rfl) ?_)
      refine l_yes rfl rfl (by exact congrArg Value.bool (decide_eq_true hc5)) (o_val (r_bin (a := e.status) (b := 0) rfl rfl (fun _ => b_geq)) ?_)
      refine l_op (o_val (r_pick (b := true) (congrArg Value.bool (decide_eq_true hc5))) ?_)
      refine l_op (o_val (r_mv) ?_)
      by_cases hc6 : 0 ≤ e.status
      ·
       refine l_yes rfl rfl (by exact congrArg Value.bool (decide_eq_true hc6)) (o_val (r_fa rfl fo95_5) ?_)
       refine l_yes rfl rfl (by exact congrArg Value.bool (decide_eq_true hc6)) (o_val (r_ld (v := VI e.status) H (i := 0) rfl rfl ct3 rfl) ?_)
       refine l_yes rfl rfl (by exact congrArg Value.bool (decide_eq_true hc6)) (o_val (r_bin (a := e.status) (b := 999) rfl rfl (fun _ => b_leq)) ?_)
       refine l_op (o_val (r_pick (b := true) (congrArg Value.bool (decide_eq_true hc6))) ?_)
       refine l_op (o_val (r_mv) ?_)
       by_cases hc7 : e.status ≤ 999
       ·
        refine l_yes rfl rfl (by exact congrArg Value.bool (decide_eq_true hc7)) (o_val (r_fa rfl fo95_3) ?_)
        refine l_yes rfl rfl (by exact congrArg Value.bool (decide_eq_true hc7)) (o_val (r_ld (v := .string ⟨(e.tenant).toArray⟩) H (i := 0) rfl rfl ct9 rfl) ?_)
        refine l_yes rfl rfl (by exact congrArg Value.bool (decide_eq_true hc7)) (o_val (r_lenstr (s := ⟨(e.tenant).toArray⟩) Try.underlying9 rfl) ?_)
        refine l_yes rfl rfl (by exact congrArg Value.bool (decide_eq_true hc7)) (o_val (r_bin (a := ((e.tenant).length : Int)) (b := 16) rfl rfl (fun _ => b_leq)) ?_)
        refine l_op (o_val (r_pick (b := true) (congrArg Value.bool (decide_eq_true hc7))) ?_)
        refine l_op (o_val (r_as) ?_)
        first | refine l_end ?_ | refine l_nil ?_
        refine c_ret ?_
        try dsimp only [Exit.then, Exit.inBlock]
        refine e_ret1 (v := .bool (decide (((e.tenant).length : Int) ≤ 16))) Try.results90 rfl ?_
        refine ⟨_, rfl, ?_⟩
        refine ⟨?_, H.sub (List.nil_sublist _)⟩
        congr 1
        exact decide_eq_decide.2 (by omega)
       ·
        refine l_no rfl rfl (by exact congrArg Value.bool (decide_eq_false hc7)) rfl ?_
        refine l_no rfl rfl (by exact congrArg Value.bool (decide_eq_false hc7)) rfl ?_
        refine l_no rfl rfl (by exact congrArg Value.bool (decide_eq_false hc7)) rfl ?_
        refine l_no rfl rfl (by exact congrArg Value.bool (decide_eq_false hc7)) rfl ?_
        refine l_op (o_val (r_pick (b := false) (congrArg Value.bool (decide_eq_false hc7))) ?_)
        refine l_op (o_val (r_as) ?_)
        first | refine l_end ?_ | refine l_nil ?_
        refine c_ret ?_
        try dsimp only [Exit.then, Exit.inBlock]
        refine e_ret1 (v := .bool false) Try.results90 rfl ?_
        refine ⟨_, rfl, ?_⟩
        refine ⟨?_, H.sub (List.nil_sublist _)⟩
        have e1 : mayE e = false := decide_eq_false (by omega)
        rw [e1]
      ·
       refine l_no rfl rfl (by exact congrArg Value.bool (decide_eq_false hc6)) rfl ?_
       refine l_no rfl rfl (by exact congrArg Value.bool (decide_eq_false hc6)) rfl ?_
       refine l_no rfl rfl (by exact congrArg Value.bool (decide_eq_false hc6)) rfl ?_
       refine l_op (o_val (r_pick (b := false) (congrArg Value.bool (decide_eq_false hc6))) ?_)
       refine l_op (o_val (r_mv) ?_)
       refine l_no rfl rfl rfl rfl ?_
       refine l_no rfl rfl rfl rfl ?_
       refine l_no rfl rfl rfl rfl ?_
       refine l_no rfl rfl rfl rfl ?_
       refine l_op (o_val (r_pick rfl) ?_)
       refine l_op (o_val (r_as) ?_)
       first | refine l_end ?_ | refine l_nil ?_
       refine c_ret ?_
       try dsimp only [Exit.then, Exit.inBlock]
       refine e_ret1 (v := .bool false) Try.results90 rfl ?_
       refine ⟨_, rfl, ?_⟩
       refine ⟨?_, H.sub (List.nil_sublist _)⟩
       have e1 : mayE e = false := decide_eq_false (by omega)
       rw [e1]
     ·
      refine l_no rfl rfl (by exact congrArg Value.bool (decide_eq_false hc5)) rfl ?_
      refine l_no rfl rfl (by exact congrArg Value.bool (decide_eq_false hc5)) rfl ?_
      refine l_no rfl rfl (by exact congrArg Value.bool (decide_eq_false hc5)) rfl ?_
      refine l_op (o_val (r_pick (b := false) (congrArg Value.bool (decide_eq_false hc5))) ?_)
      refine l_op (o_val (r_mv) ?_)
      refine l_no rfl rfl rfl rfl ?_
      refine l_no rfl rfl rfl rfl ?_
      refine l_no rfl rfl rfl rfl ?_
      refine l_op (o_val (r_pick rfl) ?_)
      refine l_op (o_val (r_mv) ?_)
      refine l_no rfl rfl rfl rfl ?_
      refine l_no rfl rfl rfl rfl ?_
      refine l_no rfl rfl rfl rfl ?_
      refine l_no rfl rfl rfl rfl ?_
      refine l_op (o_val (r_pick rfl) ?_)
      refine l_op (o_val (r_as) ?_)
      first | refine l_end ?_ | refine l_nil ?_
      refine c_ret ?_
      try dsimp only [Exit.then, Exit.inBlock]
      refine e_ret1 (v := .bool false) Try.results90 rfl ?_
      refine ⟨_, rfl, ?_⟩
      refine ⟨?_, H.sub (List.nil_sublist _)⟩
      have e1 : mayE e = false := decide_eq_false (by omega)
      rw [e1]
    ·
     refine l_no rfl rfl (by exact congrArg Value.bool (decide_eq_false hc4)) rfl ?_
     refine l_no rfl rfl (by exact congrArg Value.bool (decide_eq_false hc4)) rfl ?_
     refine l_no rfl rfl (by exact congrArg Value.bool (decide_eq_false hc4)) rfl ?_
     refine l_op (o_val (r_pick (b := false) (congrArg Value.bool (decide_eq_false hc4))) ?_)
     refine l_op (o_val (r_mv) ?_)
     refine l_no rfl rfl rfl rfl ?_
     refine l_no rfl rfl rfl rfl ?_
     refine l_no rfl rfl rfl rfl ?_
     refine l_op (o_val (r_pick rfl) ?_)
     refine l_op (o_val (r_mv) ?_)
     refine l_no rfl rfl rfl rfl ?_
     refine l_no rfl rfl rfl rfl ?_
     refine l_no rfl rfl rfl rfl ?_
     refine l_op (o_val (r_pick rfl) ?_)
     refine l_op (o_val (r_mv) ?_)
     refine l_no rfl rfl rfl rfl ?_
     refine l_no rfl rfl rfl rfl ?_
     refine l_no rfl rfl rfl rfl ?_
     refine l_no rfl rfl rfl rfl ?_
     refine l_op (o_val (r_pick rfl) ?_)
     refine l_op (o_val (r_as) ?_)
     first | refine l_end ?_ | refine l_nil ?_
     refine c_ret ?_
     try dsimp only [Exit.then, Exit.inBlock]
     refine e_ret1 (v := .bool false) Try.results90 rfl ?_
     refine ⟨_, rfl, ?_⟩
     refine ⟨?_, H.sub (List.nil_sublist _)⟩
     have e1 : mayE e = false := decide_eq_false (by omega)
     rw [e1]
   ·
    refine l_no rfl rfl (by exact congrArg Value.bool (decide_eq_false hc3)) rfl ?_
    refine l_no rfl rfl (by exact congrArg Value.bool (decide_eq_false hc3)) rfl ?_
    refine l_no rfl rfl (by exact congrArg Value.bool (decide_eq_false hc3)) rfl ?_
    refine l_op (o_val (r_pick (b := false) (congrArg Value.bool (decide_eq_false hc3))) ?_)
    refine l_op (o_val (r_mv) ?_)
    refine l_no rfl rfl rfl rfl ?_
    refine l_no rfl rfl rfl rfl ?_
    refine l_no rfl rfl rfl rfl ?_
    refine l_op (o_val (r_pick rfl) ?_)
    refine l_op (o_val (r_mv) ?_)
    refine l_no rfl rfl rfl rfl ?_
    refine l_no rfl rfl rfl rfl ?_
    refine l_no rfl rfl rfl rfl ?_
    refine l_op (o_val (r_pick rfl) ?_)
    refine l_op (o_val (r_mv) ?_)
    refine l_no rfl rfl rfl rfl ?_
    refine l_no rfl rfl rfl rfl ?_
    refine l_no rfl rfl rfl rfl ?_
    refine l_op (o_val (r_pick rfl) ?_)
    refine l_op (o_val (r_mv) ?_)
    refine l_no rfl rfl rfl rfl ?_
    refine l_no rfl rfl rfl rfl ?_
    refine l_no rfl rfl rfl rfl ?_
    refine l_no rfl rfl rfl rfl ?_
    refine l_op (o_val (r_pick rfl) ?_)
    refine l_op (o_val (r_as) ?_)
    first | refine l_end ?_ | refine l_nil ?_
    refine c_ret ?_
    try dsimp only [Exit.then, Exit.inBlock]
    refine e_ret1 (v := .bool false) Try.results90 rfl ?_
    refine ⟨_, rfl, ?_⟩
    refine ⟨?_, H.sub (List.nil_sublist _)⟩
    have e1 : mayE e = false := decide_eq_false (by omega)
    rw [e1]
  ·
   refine l_no rfl rfl (by exact congrArg Value.bool (decide_eq_false hc2)) rfl ?_
   refine l_no rfl rfl (by exact congrArg Value.bool (decide_eq_false hc2)) rfl ?_
   refine l_no rfl rfl (by exact congrArg Value.bool (decide_eq_false hc2)) rfl ?_
   refine l_op (o_val (r_pick (b := false) (congrArg Value.bool (decide_eq_false hc2))) ?_)
   refine l_op (o_val (r_mv) ?_)
   refine l_no rfl rfl rfl rfl ?_
   refine l_no rfl rfl rfl rfl ?_
   refine l_no rfl rfl rfl rfl ?_
   refine l_op (o_val (r_pick rfl) ?_)
   refine l_op (o_val (r_mv) ?_)
   refine l_no rfl rfl rfl rfl ?_
   refine l_no rfl rfl rfl rfl ?_
   refine l_no rfl rfl rfl rfl ?_
   refine l_op (o_val (r_pick rfl) ?_)
   refine l_op (o_val (r_mv) ?_)
   refine l_no rfl rfl rfl rfl ?_
   refine l_no rfl rfl rfl rfl ?_
   refine l_no rfl rfl rfl rfl ?_
   refine l_op (o_val (r_pick rfl) ?_)
   refine l_op (o_val (r_mv) ?_)
   refine l_no rfl rfl rfl rfl ?_
   refine l_no rfl rfl rfl rfl ?_
   refine l_no rfl rfl rfl rfl ?_
   refine l_op (o_val (r_pick rfl) ?_)
   refine l_op (o_val (r_mv) ?_)
   refine l_no rfl rfl rfl rfl ?_
   refine l_no rfl rfl rfl rfl ?_
   refine l_no rfl rfl rfl rfl ?_
   refine l_no rfl rfl rfl rfl ?_
   refine l_op (o_val (r_pick rfl) ?_)
   refine l_op (o_val (r_as) ?_)
   first | refine l_end ?_ | refine l_nil ?_
   refine c_ret ?_
   try dsimp only [Exit.then, Exit.inBlock]
   refine e_ret1 (v := .bool false) Try.results90 rfl ?_
   refine ⟨_, rfl, ?_⟩
   refine ⟨?_, H.sub (List.nil_sublist _)⟩
   have e1 : mayE e = false := decide_eq_false (by omega)
   rw [e1]
theorem aBytes_ok (w0 : World) (e : Ent) (he : e.of_.length = 32) (hb : e.bd) (hm : mayE e = true) :
    Ret Try.prog 85 [.agg ([VI e.seq, VI e.tick, V64 e.serial, .string ⟨(e.tenant).toArray⟩, VI e.do_, VI e.status] ++ (e.of_).map V8).toArray] w0 fun v w' => ∃ a n k, v = .tuple #[.slice (hd a) n k, VI 0] ∧ (entB e).length = n ∧ Hp w0 w' [] [.own a n k ((entB e).map V8) 5 1] := by
  refine ret_mk Try.func85 rfl Try.ntmps85 (by simp) ?_
  have H := Hp.refl w0 []
  have hm2 := (mayE_iff e).1 hm
  have hb1 := hb.1
  have hb2 := hb.2
  have q1 : (UInt64.ofNat e.seq.toNat).toNat = e.seq.toNat := ofNat_nat _ (by omega)
  have q2 : (UInt64.ofNat e.tick.toNat).toNat = e.tick.toNat := ofNat_nat _ (by omega)
  have q3 : (UInt64.ofNat e.do_.toNat).toNat = e.do_.toNat := ofNat_nat _ (by omega)
  have q4 : (UInt64.ofNat e.status.toNat).toNat = e.status.toNat := ofNat_nat _ (by omega)
  repeat refine c_seq ?_
  refine c_region ?_
  refine l_op (o_box (v := .agg ([VI e.seq, VI e.tick, V64 e.serial, .string ⟨(e.tenant).toArray⟩, VI e.do_, VI e.status] ++ (e.of_).map V8).toArray) H rfl (fun b1 w H hb1 => ?_))
  replace H : Hp _ w _ ([.blk b1 ([VI e.seq, VI e.tick, V64 e.serial, .string ⟨(e.tenant).toArray⟩, VI e.do_, VI e.status] ++ (e.of_).map V8) 95]) := H
  refine l_op (o_val (r_as) ?_)
  refine l_op (o_val (r_as) ?_)
  first | refine l_end ?_ | refine l_nil ?_
  repeat refine c_seq ?_
  refine c_region ?_
  refine l_op (o_val (r_ldA (C := [VI e.seq, VI e.tick, V64 e.serial, .string ⟨(e.tenant).toArray⟩, VI e.do_, VI e.status] ++ (e.of_).map V8) H (i := 0) rfl rfl rt95 (by rw [List.length_append, List.length_map, (show (e.of_).length = 32 from he)]; rfl)) ?_)
  refine l_op (o_callR Try.func89 rfl rfl rfl (aMay_ret _ e (show (e.of_).length = 32 from he)) ?_)
  rintro _ w ⟨rfl, Hc⟩
  replace H : Hp _ w _ ([_]) := H.call Hc
  clear Hc
  have hk2 : (mayE e) = true := hm
  refine l_op (o_val (r_not rfl) ?_)
  first | refine l_end ?_ | refine l_nil ?_
  repeat refine c_seq ?_
  refine c_no (by exact congrArg Value.bool (congrArg not hk2)) ?_
  refine c_skip ?_
  repeat refine c_seq ?_
  refine c_region ?_
  refine l_op (o_val (r_fa rfl fo95_0) ?_)
  refine l_op (o_val (r_ld (v := VI e.seq) H (i := 0) rfl rfl ct2 rfl) ?_)
  refine l_op (o_val (r_conv (v := ((UInt64.ofNat (e.seq).toNat).toNat : Int)) Try.underlying2 Try.underlying35 rfl (w_u64_N (e.seq).toNat (by omega))) ?_)
  refine l_op (o_callR Try.func109 rfl rfl rfl (put0_ret _ (UInt64.ofNat (e.seq).toNat) 8 (by omega) (by omega) (.inl rfl)) ?_)
  rintro _ w ⟨a3, c4, rfl, Hc⟩
  replace H : Hp _ w _ ([_, .own a3 8 c4 ((be (UInt64.ofNat (e.seq).toNat).toNat 8).map V8) 5 1]) := H.call Hc
  clear Hc
  refine l_op (o_val (r_mv) ?_)
  refine l_op (o_val (r_ext rfl rfl) ?_)
  refine l_op (o_val (r_ext rfl rfl) ?_)
  refine l_op (o_val (r_as) ?_)
  refine l_op (o_val (r_as) ?_)
  first | refine l_end ?_ | refine l_nil ?_
  repeat refine c_seq ?_
  refine c_region ?_
  refine l_op (o_val (r_mv) ?_)
  refine l_op (o_val (r_fa rfl fo95_1) ?_)
  refine l_op (o_val (r_ld (v := VI e.tick) H (i := 0) rfl rfl ct2 rfl) ?_)
  refine l_op (o_val (r_conv (v := ((UInt64.ofNat (e.tick).toNat).toNat : Int)) Try.underlying2 Try.underlying35 rfl (w_u64_N (e.tick).toNat (by omega))) ?_)
  refine l_op (o_callR Try.func109 rfl rfl rfl (put_ret _ ⟨hd a3, 8, c4, be (UInt64.ofNat (e.seq).toNat).toNat 8⟩ (H.slOwn (i := 1) rfl) (UInt64.ofNat (e.tick).toNat) 8 (by omega) (by omega) (.inl rfl) (by (try dsimp only); omega)) ?_)
  rintro _ w ⟨a5, c6, rfl, Hc⟩
  replace H : Hp _ w _ ([_, _, .own a5 (8 + 8) c6 ((be (UInt64.ofNat (e.seq).toNat).toNat 8 ++ be (UInt64.ofNat (e.tick).toNat).toNat 8).map V8) 5 1]) := H.call Hc
  clear Hc
  refine l_op (o_val (r_mv) ?_)
  refine l_op (o_val (r_ext rfl rfl) ?_)
  refine l_op (o_val (r_ext rfl rfl) ?_)
  refine l_op (o_val (r_as) ?_)
  first | refine l_end ?_ | refine l_nil ?_
  repeat refine c_seq ?_
  refine c_region ?_
  refine l_op (o_val (r_mv) ?_)
  refine l_op (o_val (r_fa rfl fo95_2) ?_)
  refine l_op (o_val (r_ld (v := V64 e.serial) H (i := 0) rfl rfl ct35 rfl) ?_)
  refine l_op (o_callR Try.func109 rfl rfl rfl (put_ret _ ⟨hd a5, 8 + 8, c6, be (UInt64.ofNat (e.seq).toNat).toNat 8 ++ be (UInt64.ofNat (e.tick).toNat).toNat 8⟩ (H.slOwn (i := 2) rfl) (e.serial) 8 (by omega) (by omega) (.inl rfl) (by (try dsimp only); omega)) ?_)
  rintro _ w ⟨a7, c8, rfl, Hc⟩
  replace H : Hp _ w _ ([_, _, _, .own a7 (8 + 8 + 8) c8 ((be (UInt64.ofNat (e.seq).toNat).toNat 8 ++ be (UInt64.ofNat (e.tick).toNat).toNat 8 ++ be (e.serial).toNat 8).map V8) 5 1]) := H.call Hc
  clear Hc
  refine l_op (o_val (r_mv) ?_)
  refine l_op (o_val (r_ext rfl rfl) ?_)
  refine l_op (o_val (r_ext rfl rfl) ?_)
  refine l_op (o_val (r_as) ?_)
  first | refine l_end ?_ | refine l_nil ?_
  repeat refine c_seq ?_
  refine c_region ?_
  refine l_op (o_val (r_mv) ?_)
  refine l_op (o_val (r_fa rfl fo95_3) ?_)
  refine l_op (o_val (r_ld (v := .string ⟨(e.tenant).toArray⟩) H (i := 0) rfl rfl ct9 rfl) ?_)
  refine l_op (o_s2B (l := e.tenant) H Try.underlying9 Try.underlying29 Try.underlying5 rfl (by omega) (fun b9 c10 ob11 w H hb9 hr12 => ?_))
  replace H : Hp _ w _ ([_, _, _, _, .obj b9 ob11]) := H
  refine l_op (o_callR Try.func127 rfl rfl rfl (text_ret _ ⟨hd a7, 8 + 8 + 8, c8, be (UInt64.ofNat (e.seq).toNat).toNat 8 ++ be (UInt64.ofNat (e.tick).toNat).toNat 8 ++ be (e.serial).toNat 8⟩ (⟨some ⟨b9, 0, none⟩, (e.tenant).length, c10, e.tenant⟩ : Sl) (H.slOwn (i := 3) rfl) (hr12 _ (H.has (.obj b9 ob11) (by simp))) (by (try simp only []); omega) (by (try simp only []); omega)) ?_)
  rintro _ w ⟨a13, n14, c15, rfl, hn16, Hc⟩
  replace H : Hp _ w _ ([_, _, _, _, _, .own a13 n14 c15 ((be (UInt64.ofNat (e.seq).toNat).toNat 8 ++ be (UInt64.ofNat (e.tick).toNat).toNat 8 ++ be (e.serial).toNat 8 ++ cnt ((e.tenant).length) ++ e.tenant).map V8) 5 1]) := H.call Hc
  clear Hc
  try dsimp only at hn16
  refine l_op (o_val (r_mv) ?_)
  refine l_op (o_val (r_ext rfl rfl) ?_)
  refine l_op (o_val (r_ext rfl rfl) ?_)
  refine l_op (o_val (r_as) ?_)
  first | refine l_end ?_ | refine l_nil ?_
  repeat refine c_seq ?_
  refine c_region ?_
  refine l_op (o_val (r_mv) ?_)
  refine l_op (o_val (r_fa rfl fo95_4) ?_)
  refine l_op (o_val (r_ld (v := VI e.do_) H (i := 0) rfl rfl ct3 rfl) ?_)
  refine l_op (o_val (r_conv (v := ((UInt64.ofNat (e.do_).toNat).toNat : Int)) Try.underlying3 Try.underlying35 rfl (w_u64_N (e.do_).toNat (by omega))) ?_)
  refine l_op (o_callR Try.func109 rfl rfl rfl (put_ret _ ⟨hd a13, n14, c15, be (UInt64.ofNat (e.seq).toNat).toNat 8 ++ be (UInt64.ofNat (e.tick).toNat).toNat 8 ++ be (e.serial).toNat 8 ++ cnt ((e.tenant).length) ++ e.tenant⟩ (H.slOwn (i := 5) rfl) (UInt64.ofNat (e.do_).toNat) 1 (by omega) (by omega) (.inr (by rw [ofNat_nat _ (by omega)]; first | exact Nat.lt_of_le_of_lt (m := 255) (by omega) (by decide) | exact Nat.lt_of_le_of_lt (m := 999) (by omega) (by decide))) (by (try dsimp only); omega)) ?_)
  rintro _ w ⟨a17, c18, rfl, Hc⟩
  replace H : Hp _ w _ ([_, _, _, _, _, _, .own a17 (n14 + 1) c18 ((be (UInt64.ofNat (e.seq).toNat).toNat 8 ++ be (UInt64.ofNat (e.tick).toNat).toNat 8 ++ be (e.serial).toNat 8 ++ cnt ((e.tenant).length) ++ e.tenant ++ be (UInt64.ofNat (e.do_).toNat).toNat 1).map V8) 5 1]) := H.call Hc
  clear Hc
  refine l_op (o_val (r_mv) ?_)
  refine l_op (o_val (r_ext rfl rfl) ?_)
  refine l_op (o_val (r_ext rfl rfl) ?_)
  refine l_op (o_val (r_as) ?_)
  first | refine l_end ?_ | refine l_nil ?_
  repeat refine c_seq ?_
  refine c_region ?_
  refine l_op (o_val (r_mv) ?_)
  refine l_op (o_val (r_fa rfl fo95_5) ?_)
  refine l_op (o_val (r_ld (v := VI e.status) H (i := 0) rfl rfl ct3 rfl) ?_)
  refine l_op (o_val (r_conv (v := ((UInt64.ofNat (e.status).toNat).toNat : Int)) Try.underlying3 Try.underlying35 rfl (w_u64_N (e.status).toNat (by omega))) ?_)
  refine l_op (o_callR Try.func109 rfl rfl rfl (put_ret _ ⟨hd a17, n14 + 1, c18, be (UInt64.ofNat (e.seq).toNat).toNat 8 ++ be (UInt64.ofNat (e.tick).toNat).toNat 8 ++ be (e.serial).toNat 8 ++ cnt ((e.tenant).length) ++ e.tenant ++ be (UInt64.ofNat (e.do_).toNat).toNat 1⟩ (H.slOwn (i := 6) rfl) (UInt64.ofNat (e.status).toNat) 2 (by omega) (by omega) (.inr (by rw [ofNat_nat _ (by omega)]; first | exact Nat.lt_of_le_of_lt (m := 255) (by omega) (by decide) | exact Nat.lt_of_le_of_lt (m := 999) (by omega) (by decide))) (by (try dsimp only); omega)) ?_)
  rintro _ w ⟨a19, c20, rfl, Hc⟩
  replace H : Hp _ w _ ([_, _, _, _, _, _, _, .own a19 (n14 + 1 + 2) c20 ((be (UInt64.ofNat (e.seq).toNat).toNat 8 ++ be (UInt64.ofNat (e.tick).toNat).toNat 8 ++ be (e.serial).toNat 8 ++ cnt ((e.tenant).length) ++ e.tenant ++ be (UInt64.ofNat (e.do_).toNat).toNat 1 ++ be (UInt64.ofNat (e.status).toNat).toNat 2).map V8) 5 1]) := H.call Hc
  clear Hc
  refine l_op (o_val (r_mv) ?_)
  refine l_op (o_val (r_ext rfl rfl) ?_)
  refine l_op (o_val (r_ext rfl rfl) ?_)
  refine l_op (o_val (r_as) ?_)
  first | refine l_end ?_ | refine l_nil ?_
  repeat refine c_seq ?_
  refine c_region ?_
  refine l_op (o_val (r_mv) ?_)
  refine l_op (o_val (r_fa rfl fo95_6) ?_)
  refine l_op (o_val (r_slAo (o := 6) (h := 32) (m := 32) (lv := none) (hv := none) (mv := none) rfl ar31 rfl rfl rfl (fun w => sbn w)) ?_)
  refine l_op (o_appB (s := (⟨some ⟨b1, 6, none⟩, 32, 32, e.of_⟩ : Sl)) (l' := be (UInt64.ofNat (e.seq).toNat).toNat 8 ++ be (UInt64.ofNat (e.tick).toNat).toNat 8 ++ be (e.serial).toNat 8 ++ cnt ((e.tenant).length) ++ e.tenant ++ be (UInt64.ofNat (e.do_).toNat).toNat 1 ++ be (UInt64.ofNat (e.status).toNat).toNat 2 ++ e.of_) (len' := n14 + 1 + 2 + 32) rfl rfl H (i := 7) rfl sl29 Try.underlying29 rfl rfl (H.slTail (i := 0) (o := 6) (pre := [VI e.seq, VI e.tick, V64 e.serial, .string ⟨(e.tenant).toArray⟩, VI e.do_, VI e.status]) rfl rfl (show (e.of_).length = 32 from he) (by decide)) (by omega) (fun a21 c22 w H => ?_))
  replace H : Hp _ w _ ([_, _, _, _, _, _, _, .own a21 (n14 + 1 + 2 + 32) c22 ((be (UInt64.ofNat (e.seq).toNat).toNat 8 ++ be (UInt64.ofNat (e.tick).toNat).toNat 8 ++ be (e.serial).toNat 8 ++ cnt ((e.tenant).length) ++ e.tenant ++ be (UInt64.ofNat (e.do_).toNat).toNat 1 ++ be (UInt64.ofNat (e.status).toNat).toNat 2 ++ e.of_).map V8) 5 1]) := H
  refine l_op (o_val (r_as) ?_)
  refine l_op (o_val (r_as) ?_)
  first | refine l_end ?_ | refine l_nil ?_
  refine c_ret ?_
  try dsimp only [Exit.then, Exit.inBlock]
  refine e_retN (vs := [.slice (hd a21) (n14 + 1 + 2 + 32) c22, VI 0]) _ Try.results85 rfl (resT (v := .slice (hd a21) (n14 + 1 + 2 + 32) c22) rfl (resT (v := VI 0) rfl (resZ))) ?_
  refine ⟨_, rfl, ?_⟩
  have e1 : be (UInt64.ofNat (e.seq).toNat).toNat 8 ++ be (UInt64.ofNat (e.tick).toNat).toNat 8 ++ be (e.serial).toNat 8 ++ cnt ((e.tenant).length) ++ e.tenant ++ be (UInt64.ofNat (e.do_).toNat).toNat 1 ++ be (UInt64.ofNat (e.status).toNat).toNat 2 ++ e.of_ = entB e := by
    rw [q1, q2, q3, q4, au_cnt _ (show e.tenant.length ≤ 127 by omega), entB] <;> simp
  rw [e1] at H
  have hh := (H.ownLen (i := 7) rfl).1
  exact ⟨_, _, _, rfl, by simpa using hh, H.sub (.cons _ (.cons _ (.cons _ (.cons _ (.cons _ (.cons _ (.cons _ (.cons_cons _ (List.nil_sublist _)))))))))⟩
theorem aBytesr_ok (w0 : World) (e : Ent) (he : e.of_.length = 32) (hb : e.bd) (hm : mayE e = true) :
    Ret Try.prog 86 [.agg ([VI e.seq, VI e.tick, V64 e.serial, .string ⟨(e.tenant).toArray⟩, VI e.do_, VI e.status] ++ (e.of_).map V8).toArray] w0 fun v w' => ∃ a n k, v = .tuple #[.slice (hd a) n k, VI 0] ∧ (entB e).length = n ∧ Hp w0 w' [] [.own a n k ((entB e).map V8) 5 1] := by
  refine ret_mk Try.func86 rfl Try.ntmps86 (by simp) ?_
  have H := Hp.refl w0 []
  have hm2 := (mayE_iff e).1 hm
  have hb1 := hb.1
  have hb2 := hb.2
  have q1 : (UInt64.ofNat e.seq.toNat).toNat = e.seq.toNat := ofNat_nat _ (by omega)
  have q2 : (UInt64.ofNat e.tick.toNat).toNat = e.tick.toNat := ofNat_nat _ (by omega)
  have q3 : (UInt64.ofNat e.do_.toNat).toNat = e.do_.toNat := ofNat_nat _ (by omega)
  have q4 : (UInt64.ofNat e.status.toNat).toNat = e.status.toNat := ofNat_nat _ (by omega)
  repeat refine c_seq ?_
  refine c_region ?_
  refine l_op (o_box (v := .agg ([VI e.seq, VI e.tick, V64 e.serial, .string ⟨(e.tenant).toArray⟩, VI e.do_, VI e.status] ++ (e.of_).map V8).toArray) H rfl (fun b1 w H hb1 => ?_))
  replace H : Hp _ w _ ([.blk b1 ([VI e.seq, VI e.tick, V64 e.serial, .string ⟨(e.tenant).toArray⟩, VI e.do_, VI e.status] ++ (e.of_).map V8) 95]) := H
  refine l_op (o_val (r_as) ?_)
  refine l_op (o_val (r_as) ?_)
  first | refine l_end ?_ | refine l_nil ?_
  repeat refine c_seq ?_
  refine c_region ?_
  refine l_op (o_val (r_ldA (C := [VI e.seq, VI e.tick, V64 e.serial, .string ⟨(e.tenant).toArray⟩, VI e.do_, VI e.status] ++ (e.of_).map V8) H (i := 0) rfl rfl rt95 (by rw [List.length_append, List.length_map, (show (e.of_).length = 32 from he)]; rfl)) ?_)
  refine l_op (o_callR Try.func90 rfl rfl rfl (aMayr_ret _ e (show (e.of_).length = 32 from he)) ?_)
  rintro _ w ⟨rfl, Hc⟩
  replace H : Hp _ w _ ([_]) := H.call Hc
  clear Hc
  have hk2 : (mayE e) = true := hm
  refine l_op (o_val (r_not rfl) ?_)
  first | refine l_end ?_ | refine l_nil ?_
  repeat refine c_seq ?_
  refine c_no (by exact congrArg Value.bool (congrArg not hk2)) ?_
  refine c_skip ?_
  repeat refine c_seq ?_
  refine wp_held (fun w => Hp w0 w [] [.blk b1 ([VI e.seq, VI e.tick, V64 e.serial, .string ⟨(e.tenant).toArray⟩, VI e.do_, VI e.status] ++ (e.of_).map V8) 95]) mixed ?_
  replace H := H.drew
  have HS := H
  refine t_take 0 rfl (by kernel_rfl) (by kernel_rfl) (by kernel_rfl) (fun _ _ _ h => h) (fun w HS => r_fa rfl fo95_0) HS ?_
  refine t_take 1 rfl (by kernel_rfl) (by kernel_rfl) (by kernel_rfl) (fun _ _ _ h => h) (fun w HS => r_ld (v := VI e.seq) HS (i := 0) rfl rfl ct2 rfl) HS ?_
  refine t_take 2 rfl (by kernel_rfl) (by kernel_rfl) (by kernel_rfl) (fun _ _ _ h => h) (fun w HS => r_conv (v := ((UInt64.ofNat (e.seq).toNat).toNat : Int)) Try.underlying2 Try.underlying35 rfl (w_u64_N (e.seq).toNat (by omega))) HS ?_
  refine t_take 4 rfl (by kernel_rfl) (by kernel_rfl) (by kernel_rfl) (fun _ _ _ h => h) (fun w HS => r_fa rfl fo95_1) HS ?_
  refine t_take 5 rfl (by kernel_rfl) (by kernel_rfl) (by kernel_rfl) (fun _ _ _ h => h) (fun w HS => r_ld (v := VI e.tick) HS (i := 0) rfl rfl ct2 rfl) HS ?_
  refine t_take 6 rfl (by kernel_rfl) (by kernel_rfl) (by kernel_rfl) (fun _ _ _ h => h) (fun w HS => r_conv (v := ((UInt64.ofNat (e.tick).toNat).toNat : Int)) Try.underlying2 Try.underlying35 rfl (w_u64_N (e.tick).toNat (by omega))) HS ?_
  refine t_step 3 rfl (by kernel_rfl) (o_callR Try.func55 rfl rfl rfl (eight_ret _ (UInt64.ofNat (e.seq).toNat)) ?_)
  rintro _ w ⟨a3, c4, rfl, Hc⟩
  replace H : Hp _ w _ ([_, .own a3 8 c4 ((be (UInt64.ofNat (e.seq).toNat).toNat 8).map V8) 5 1]) := H.call Hc
  clear Hc
  refine ⟨H.sub (.cons_cons _ (List.nil_sublist _)), ?_⟩
  replace HS := H.sub (.cons_cons _ (List.nil_sublist _))
  refine t_step 7 rfl (by kernel_rfl) (o_callR Try.func55 rfl rfl rfl (eight_ret _ (UInt64.ofNat (e.tick).toNat)) ?_)
  rintro _ w ⟨a5, c6, rfl, Hc⟩
  replace H : Hp _ w _ ([_, _, .own a5 8 c6 ((be (UInt64.ofNat (e.tick).toNat).toNat 8).map V8) 5 1]) := H.call Hc
  clear Hc
  refine ⟨H.sub (.cons_cons _ (List.nil_sublist _)), ?_⟩
  replace HS := H.sub (.cons_cons _ (List.nil_sublist _))
  refine t_step 8 rfl (by kernel_rfl) (o_appB (s := ⟨hd a5, 8, c6, be (UInt64.ofNat (e.tick).toNat).toNat 8⟩) (l' := be (UInt64.ofNat (e.seq).toNat).toNat 8 ++ (be (UInt64.ofNat (e.tick).toNat).toNat 8)) (len' := 16) rfl rfl H (i := 1) rfl sl29 Try.underlying29 rfl rfl (H.slOwn (i := 2) rfl) (by omega) (fun a7 c8 w H => ?_))
  replace H : Hp _ w _ ([_, .own a7 16 c8 ((be (UInt64.ofNat (e.seq).toNat).toNat 8 ++ (be (UInt64.ofNat (e.tick).toNat).toNat 8)).map V8) 5 1, _]) := H
  refine ⟨H.sub (.cons_cons _ (List.nil_sublist _)), ?_⟩
  replace HS := H.sub (.cons_cons _ (List.nil_sublist _))
  refine t_take 9 rfl (by kernel_rfl) (by kernel_rfl) (by kernel_rfl) (fun _ _ _ h => h) (fun w HS => r_as) HS ?_
  refine t_done (by kernel_rfl) ?_
  clear HS
  repeat refine c_seq ?_
  refine wp_held (fun w => Hp w0 w [] [.blk b1 ([VI e.seq, VI e.tick, V64 e.serial, .string ⟨(e.tenant).toArray⟩, VI e.do_, VI e.status] ++ (e.of_).map V8) 95, .own a5 8 c6 ((be (UInt64.ofNat (e.tick).toNat).toNat 8).map V8) 5 1]) mixed ?_
  replace H := H.drew
  have HS := H.sub (.cons_cons _ (.cons _ (.cons_cons _ (List.nil_sublist _))))
  refine t_take 0 rfl (by kernel_rfl) (by kernel_rfl) (by kernel_rfl) (fun _ _ _ h => h) (fun w HS => r_mv) HS ?_
  refine t_take 1 rfl (by kernel_rfl) (by kernel_rfl) (by kernel_rfl) (fun _ _ _ h => h) (fun w HS => r_fa rfl fo95_2) HS ?_
  refine t_take 2 rfl (by kernel_rfl) (by kernel_rfl) (by kernel_rfl) (fun _ _ _ h => h) (fun w HS => r_ld (v := V64 e.serial) HS (i := 0) rfl rfl ct35 rfl) HS ?_
  refine t_take 5 rfl (by kernel_rfl) (by kernel_rfl) (by kernel_rfl) (fun _ _ _ h => h) (fun w HS => r_fa rfl fo95_3) HS ?_
  refine t_take 6 rfl (by kernel_rfl) (by kernel_rfl) (by kernel_rfl) (fun _ _ _ h => h) (fun w HS => r_ld (v := .string ⟨(e.tenant).toArray⟩) HS (i := 0) rfl rfl ct9 rfl) HS ?_
  refine t_take 7 rfl (by kernel_rfl) (by kernel_rfl) (by kernel_rfl) (fun _ _ _ h => h) (fun w HS => r_lenstr (s := ⟨(e.tenant).toArray⟩) Try.underlying9 rfl) HS ?_
  refine t_take 8 rfl (by kernel_rfl) (by kernel_rfl) (by kernel_rfl) (fun _ _ _ h => h) (fun w HS => r_conv (a := ((e.tenant).length : Int)) (v := ((UInt8.ofNat ((e.tenant).length)).toNat : Int)) Try.underlying3 Try.underlying5 rfl (w_u8_N ((e.tenant).length) (by omega))) HS ?_
  refine t_all [3, 9] (by kernel_rfl) (by simp) (all_cons (w_op 3 rfl ?_) (all_cons (w_op 9 rfl ?_) (all_nil)))
  ·
   refine (o_callR Try.func55 rfl rfl rfl (eight_ret _ (e.serial)) ?_)
   rintro _ w ⟨a9, c10, rfl, Hc⟩
   replace H : Hp _ w _ ([_, _, _, .own a9 8 c10 ((be (e.serial).toNat 8).map V8) 5 1]) := H.call Hc
   clear Hc
   refine ⟨H.sub (.cons_cons _ (.cons _ (.cons_cons _ (List.nil_sublist _)))), ?_⟩
   replace HS := H.sub (.cons_cons _ (.cons _ (.cons_cons _ (List.nil_sublist _))))
   refine t_all [4, 9] (by kernel_rfl) (by simp) (all_cons (w_op 4 rfl ?_) (all_cons (w_op 9 rfl ?_) (all_nil)))
   ·
    refine (o_appB (s := ⟨hd a9, 8, c10, be (e.serial).toNat 8⟩) (l' := be (UInt64.ofNat (e.seq).toNat).toNat 8 ++ (be (UInt64.ofNat (e.tick).toNat).toNat 8) ++ (be (e.serial).toNat 8)) (len' := 24) rfl rfl H (i := 1) rfl sl29 Try.underlying29 rfl rfl (H.slOwn (i := 3) rfl) (by omega) (fun a11 c12 w H => ?_))
    replace H : Hp _ w _ ([_, .own a11 24 c12 ((be (UInt64.ofNat (e.seq).toNat).toNat 8 ++ (be (UInt64.ofNat (e.tick).toNat).toNat 8) ++ (be (e.serial).toNat 8)).map V8) 5 1, _, _]) := H
    refine ⟨H.sub (.cons_cons _ (.cons _ (.cons_cons _ (List.nil_sublist _)))), ?_⟩
    replace HS := H.sub (.cons_cons _ (.cons _ (.cons_cons _ (List.nil_sublist _))))
    refine t_step 9 rfl (by kernel_rfl) (o_bslB ([UInt8.ofNat ((e.tenant).length)]) H sl29 zc5 rfl rfl (by decide) (fun b13 w H hb13 => ?_))
    replace H : Hp _ w _ ([_, _, _, _, .own (some b13) 1 1 (([UInt8.ofNat ((e.tenant).length)]).map V8) 5 1]) := H
    refine ⟨H.sub (.cons_cons _ (.cons _ (.cons_cons _ (List.nil_sublist _)))), ?_⟩
    replace HS := H.sub (.cons_cons _ (.cons _ (.cons_cons _ (List.nil_sublist _))))
    refine t_step 10 rfl (by kernel_rfl) (o_appB (s := ⟨hd (some b13), 1, 1, [UInt8.ofNat ((e.tenant).length)]⟩) (l' := be (UInt64.ofNat (e.seq).toNat).toNat 8 ++ (be (UInt64.ofNat (e.tick).toNat).toNat 8) ++ (be (e.serial).toNat 8) ++ ([UInt8.ofNat ((e.tenant).length)])) (len' := 25) rfl rfl H (i := 1) rfl sl29 Try.underlying29 rfl rfl (H.slOwn (i := 4) rfl) (by omega) (fun a14 c15 w H => ?_))
    replace H : Hp _ w _ ([_, .own a14 25 c15 ((be (UInt64.ofNat (e.seq).toNat).toNat 8 ++ (be (UInt64.ofNat (e.tick).toNat).toNat 8) ++ (be (e.serial).toNat 8) ++ ([UInt8.ofNat ((e.tenant).length)])).map V8) 5 1, _, _, _]) := H
    refine ⟨H.sub (.cons_cons _ (.cons _ (.cons_cons _ (List.nil_sublist _)))), ?_⟩
    replace HS := H.sub (.cons_cons _ (.cons _ (.cons_cons _ (List.nil_sublist _))))
    refine t_take 11 rfl (by kernel_rfl) (by kernel_rfl) (by kernel_rfl) (fun _ _ _ h => h) (fun w HS => r_as) HS ?_
    refine t_done (by kernel_rfl) ?_
    clear HS
    repeat refine c_seq ?_
    refine wp_held (fun w => Hp w0 w [] [.blk b1 ([VI e.seq, VI e.tick, V64 e.serial, .string ⟨(e.tenant).toArray⟩, VI e.do_, VI e.status] ++ (e.of_).map V8) 95, .own a5 8 c6 ((be (UInt64.ofNat (e.tick).toNat).toNat 8).map V8) 5 1, .own a9 8 c10 ((be (e.serial).toNat 8).map V8) 5 1, .own (some b13) 1 1 (([UInt8.ofNat ((e.tenant).length)]).map V8) 5 1]) mixed ?_
    replace H := H.drew
    have HS := H.sub (.cons_cons _ (.cons _ (.cons_cons _ (.cons_cons _ (.cons_cons _ (List.nil_sublist _))))))
    refine t_take 0 rfl (by kernel_rfl) (by kernel_rfl) (by kernel_rfl) (fun _ _ _ h => h) (fun w HS => r_mv) HS ?_
    refine t_take 1 rfl (by kernel_rfl) (by kernel_rfl) (by kernel_rfl) (fun _ _ _ h => h) (fun w HS => r_fa rfl fo95_3) HS ?_
    refine t_take 2 rfl (by kernel_rfl) (by kernel_rfl) (by kernel_rfl) (fun _ _ _ h => h) (fun w HS => r_ld (v := .string ⟨(e.tenant).toArray⟩) HS (i := 0) rfl rfl ct9 rfl) HS ?_
    refine t_take 4 rfl (by kernel_rfl) (by kernel_rfl) (by kernel_rfl) (fun _ _ _ h => h) (fun w HS => r_fa rfl fo95_4) HS ?_
    refine t_take 5 rfl (by kernel_rfl) (by kernel_rfl) (by kernel_rfl) (fun _ _ _ h => h) (fun w HS => r_ld (v := VI e.do_) HS (i := 0) rfl rfl ct3 rfl) HS ?_
    refine t_take 6 rfl (by kernel_rfl) (by kernel_rfl) (by kernel_rfl) (fun _ _ _ h => h) (fun w HS => r_conv (a := e.do_) (v := ((UInt8.ofNat ((e.do_).toNat)).toNat : Int)) Try.underlying3 Try.underlying5 rfl (w_u8_N ((e.do_).toNat) (by omega))) HS ?_
    refine t_take 7 rfl (by kernel_rfl) (by kernel_rfl) (by kernel_rfl) (fun _ _ _ h => h) (fun w HS => r_fa rfl fo95_5) HS ?_
    refine t_take 8 rfl (by kernel_rfl) (by kernel_rfl) (by kernel_rfl) (fun _ _ _ h => h) (fun w HS => r_ld (v := VI e.status) HS (i := 0) rfl rfl ct3 rfl) HS ?_
    refine t_take 9 rfl (by kernel_rfl) (by kernel_rfl) (by kernel_rfl) (fun _ _ _ h => h) (fun w HS => r_bin (a := e.status) (b := 256) rfl rfl (fun _ => b_quo (by omega) (by omega) (by omega))) HS ?_
    refine t_take 10 rfl (by kernel_rfl) (by kernel_rfl) (by kernel_rfl) (fun _ _ _ h => h) (fun w HS => r_conv (a := e.status / 256) (v := ((UInt8.ofNat ((e.status / 256).toNat)).toNat : Int)) Try.underlying3 Try.underlying5 rfl (w_u8_N ((e.status / 256).toNat) (by omega))) HS ?_
    refine t_take 11 rfl (by kernel_rfl) (by kernel_rfl) (by kernel_rfl) (fun _ _ _ h => h) (fun w HS => r_fa rfl fo95_5) HS ?_
    refine t_take 12 rfl (by kernel_rfl) (by kernel_rfl) (by kernel_rfl) (fun _ _ _ h => h) (fun w HS => r_ld (v := VI e.status) HS (i := 0) rfl rfl ct3 rfl) HS ?_
    refine t_take 13 rfl (by kernel_rfl) (by kernel_rfl) (by kernel_rfl) (fun _ _ _ h => h) (fun w HS => r_bin (a := e.status) (b := 256) rfl rfl (fun _ => b_rem (by omega) (by omega))) HS ?_
    refine t_take 14 rfl (by kernel_rfl) (by kernel_rfl) (by kernel_rfl) (fun _ _ _ h => h) (fun w HS => r_conv (a := e.status % 256) (v := ((UInt8.ofNat ((e.status % 256).toNat)).toNat : Int)) Try.underlying3 Try.underlying5 rfl (w_u8_N ((e.status % 256).toNat) (by omega))) HS ?_
    refine t_all [3, 15] (by kernel_rfl) (by simp) (all_cons (w_op 3 rfl ?_) (all_cons (w_op 15 rfl ?_) (all_nil)))
    ·
     refine (o_appS (l' := be (UInt64.ofNat (e.seq).toNat).toNat 8 ++ (be (UInt64.ofNat (e.tick).toNat).toNat 8) ++ (be (e.serial).toNat 8) ++ ([UInt8.ofNat ((e.tenant).length)]) ++ e.tenant) (len' := 25 + ((e.tenant).length)) rfl rfl H (i := 1) rfl sl29 Try.underlying9 rfl rfl (by omega) (fun a16 c17 w H => ?_))
     replace H : Hp _ w _ ([_, .own a16 (25 + ((e.tenant).length)) c17 ((be (UInt64.ofNat (e.seq).toNat).toNat 8 ++ (be (UInt64.ofNat (e.tick).toNat).toNat 8) ++ (be (e.serial).toNat 8) ++ ([UInt8.ofNat ((e.tenant).length)]) ++ e.tenant).map V8) 5 1, _, _, _]) := H
     refine ⟨H.sub (.cons_cons _ (.cons _ (.cons_cons _ (.cons_cons _ (.cons_cons _ (List.nil_sublist _)))))), ?_⟩
     replace HS := H.sub (.cons_cons _ (.cons _ (.cons_cons _ (.cons_cons _ (.cons_cons _ (List.nil_sublist _))))))
     refine t_step 15 rfl (by kernel_rfl) (o_bslB ([UInt8.ofNat ((e.do_).toNat), UInt8.ofNat ((e.status / 256).toNat), UInt8.ofNat ((e.status % 256).toNat)]) H sl29 zc5 rfl rfl (by decide) (fun b18 w H hb18 => ?_))
     replace H : Hp _ w _ ([_, _, _, _, _, .own (some b18) 3 3 (([UInt8.ofNat ((e.do_).toNat), UInt8.ofNat ((e.status / 256).toNat), UInt8.ofNat ((e.status % 256).toNat)]).map V8) 5 1]) := H
     refine ⟨H.sub (.cons_cons _ (.cons _ (.cons_cons _ (.cons_cons _ (.cons_cons _ (List.nil_sublist _)))))), ?_⟩
     replace HS := H.sub (.cons_cons _ (.cons _ (.cons_cons _ (.cons_cons _ (.cons_cons _ (List.nil_sublist _))))))
     refine t_step 16 rfl (by kernel_rfl) (o_appB (s := ⟨hd (some b18), 3, 3, [UInt8.ofNat ((e.do_).toNat), UInt8.ofNat ((e.status / 256).toNat), UInt8.ofNat ((e.status % 256).toNat)]⟩) (l' := be (UInt64.ofNat (e.seq).toNat).toNat 8 ++ (be (UInt64.ofNat (e.tick).toNat).toNat 8) ++ (be (e.serial).toNat 8) ++ ([UInt8.ofNat ((e.tenant).length)]) ++ e.tenant ++ ([UInt8.ofNat ((e.do_).toNat), UInt8.ofNat ((e.status / 256).toNat), UInt8.ofNat ((e.status % 256).toNat)])) (len' := 25 + ((e.tenant).length) + 3) rfl rfl H (i := 1) rfl sl29 Try.underlying29 rfl rfl (H.slOwn (i := 5) rfl) (by omega) (fun a19 c20 w H => ?_))
     replace H : Hp _ w _ ([_, .own a19 (25 + ((e.tenant).length) + 3) c20 ((be (UInt64.ofNat (e.seq).toNat).toNat 8 ++ (be (UInt64.ofNat (e.tick).toNat).toNat 8) ++ (be (e.serial).toNat 8) ++ ([UInt8.ofNat ((e.tenant).length)]) ++ e.tenant ++ ([UInt8.ofNat ((e.do_).toNat), UInt8.ofNat ((e.status / 256).toNat), UInt8.ofNat ((e.status % 256).toNat)])).map V8) 5 1, _, _, _, _]) := H
     refine ⟨H.sub (.cons_cons _ (.cons _ (.cons_cons _ (.cons_cons _ (.cons_cons _ (List.nil_sublist _)))))), ?_⟩
     replace HS := H.sub (.cons_cons _ (.cons _ (.cons_cons _ (.cons_cons _ (.cons_cons _ (List.nil_sublist _))))))
     refine t_take 17 rfl (by kernel_rfl) (by kernel_rfl) (by kernel_rfl) (fun _ _ _ h => h) (fun w HS => r_as) HS ?_
     refine t_done (by kernel_rfl) ?_
     clear HS
     repeat refine c_seq ?_
     refine c_region ?_
     refine l_op (o_val (r_mv) ?_)
     refine l_op (o_val (r_fa rfl fo95_6) ?_)
     refine l_op (o_val (r_slAo (o := 6) (h := 32) (m := 32) (lv := none) (hv := none) (mv := none) rfl ar31 rfl rfl rfl (fun w => sbn w)) ?_)
     refine l_op (o_appB (s := (⟨some ⟨b1, 6, none⟩, 32, 32, e.of_⟩ : Sl)) (l' := be (UInt64.ofNat (e.seq).toNat).toNat 8 ++ (be (UInt64.ofNat (e.tick).toNat).toNat 8) ++ (be (e.serial).toNat 8) ++ ([UInt8.ofNat ((e.tenant).length)]) ++ e.tenant ++ ([UInt8.ofNat ((e.do_).toNat), UInt8.ofNat ((e.status / 256).toNat), UInt8.ofNat ((e.status % 256).toNat)]) ++ e.of_) (len' := 25 + ((e.tenant).length) + 3 + 32) rfl rfl H (i := 1) rfl sl29 Try.underlying29 rfl rfl (H.slTail (i := 0) (o := 6) (pre := [VI e.seq, VI e.tick, V64 e.serial, .string ⟨(e.tenant).toArray⟩, VI e.do_, VI e.status]) rfl rfl (show (e.of_).length = 32 from he) (by decide)) (by omega) (fun a21 c22 w H => ?_))
     replace H : Hp _ w _ ([_, .own a21 (25 + ((e.tenant).length) + 3 + 32) c22 ((be (UInt64.ofNat (e.seq).toNat).toNat 8 ++ (be (UInt64.ofNat (e.tick).toNat).toNat 8) ++ (be (e.serial).toNat 8) ++ ([UInt8.ofNat ((e.tenant).length)]) ++ e.tenant ++ ([UInt8.ofNat ((e.do_).toNat), UInt8.ofNat ((e.status / 256).toNat), UInt8.ofNat ((e.status % 256).toNat)]) ++ e.of_).map V8) 5 1, _, _, _, _]) := H
     refine l_op (o_val (r_as) ?_)
     refine l_op (o_val (r_as) ?_)
     first | refine l_end ?_ | refine l_nil ?_
     refine c_ret ?_
     try dsimp only [Exit.then, Exit.inBlock]
     refine e_retN (vs := [.slice (hd a21) (25 + ((e.tenant).length) + 3 + 32) c22, VI 0]) _ Try.results86 rfl (resT (v := .slice (hd a21) (25 + ((e.tenant).length) + 3 + 32) c22) rfl (resT (v := VI 0) rfl (resZ))) ?_
     refine ⟨_, rfl, ?_⟩
     have e1 : be (UInt64.ofNat (e.seq).toNat).toNat 8 ++ (be (UInt64.ofNat (e.tick).toNat).toNat 8) ++ (be (e.serial).toNat 8) ++ ([UInt8.ofNat ((e.tenant).length)]) ++ e.tenant ++ ([UInt8.ofNat ((e.do_).toNat), UInt8.ofNat ((e.status / 256).toNat), UInt8.ofNat ((e.status % 256).toNat)]) ++ e.of_ = entB e := by
       first | (simp only [entB, q1, q2]; simp; done) | (simp only [entB, q1, q2, au_be1 _ (show e.do_.toNat ≤ 255 by omega), au_be2, show (e.status / 256).toNat = e.status.toNat / 256 by omega, show (e.status % 256).toNat = e.status.toNat % 256 by omega]; simp; done)
     rw [e1] at H
     have hh := (H.ownLen (i := 1) rfl).1
     exact ⟨_, _, _, rfl, by simpa using hh, H.sub (.cons _ (.cons_cons _ (List.nil_sublist _)))⟩
    ·
     refine (o_bslB ([UInt8.ofNat ((e.do_).toNat), UInt8.ofNat ((e.status / 256).toNat), UInt8.ofNat ((e.status % 256).toNat)]) H sl29 zc5 rfl rfl (by decide) (fun b23 w H hb23 => ?_))
     replace H : Hp _ w _ ([_, _, _, _, _, .own (some b23) 3 3 (([UInt8.ofNat ((e.do_).toNat), UInt8.ofNat ((e.status / 256).toNat), UInt8.ofNat ((e.status % 256).toNat)]).map V8) 5 1]) := H
     refine ⟨H.sub (.cons_cons _ (.cons _ (.cons_cons _ (.cons_cons _ (.cons_cons _ (List.nil_sublist _)))))), ?_⟩
     replace HS := H.sub (.cons_cons _ (.cons _ (.cons_cons _ (.cons_cons _ (.cons_cons _ (List.nil_sublist _))))))
     refine t_step 3 rfl (by kernel_rfl) (o_appS (l' := be (UInt64.ofNat (e.seq).toNat).toNat 8 ++ (be (UInt64.ofNat (e.tick).toNat).toNat 8) ++ (be (e.serial).toNat 8) ++ ([UInt8.ofNat ((e.tenant).length)]) ++ e.tenant) (len' := 25 + ((e.tenant).length)) rfl rfl H (i := 1) rfl sl29 Try.underlying9 rfl rfl (by omega) (fun a24 c25 w H => ?_))
     replace H : Hp _ w _ ([_, .own a24 (25 + ((e.tenant).length)) c25 ((be (UInt64.ofNat (e.seq).toNat).toNat 8 ++ (be (UInt64.ofNat (e.tick).toNat).toNat 8) ++ (be (e.serial).toNat 8) ++ ([UInt8.ofNat ((e.tenant).length)]) ++ e.tenant).map V8) 5 1, _, _, _, _]) := H
     refine ⟨H.sub (.cons_cons _ (.cons _ (.cons_cons _ (.cons_cons _ (.cons_cons _ (List.nil_sublist _)))))), ?_⟩
     replace HS := H.sub (.cons_cons _ (.cons _ (.cons_cons _ (.cons_cons _ (.cons_cons _ (List.nil_sublist _))))))
     refine t_step 16 rfl (by kernel_rfl) (o_appB (s := ⟨hd (some b23), 3, 3, [UInt8.ofNat ((e.do_).toNat), UInt8.ofNat ((e.status / 256).toNat), UInt8.ofNat ((e.status % 256).toNat)]⟩) (l' := be (UInt64.ofNat (e.seq).toNat).toNat 8 ++ (be (UInt64.ofNat (e.tick).toNat).toNat 8) ++ (be (e.serial).toNat 8) ++ ([UInt8.ofNat ((e.tenant).length)]) ++ e.tenant ++ ([UInt8.ofNat ((e.do_).toNat), UInt8.ofNat ((e.status / 256).toNat), UInt8.ofNat ((e.status % 256).toNat)])) (len' := 25 + ((e.tenant).length) + 3) rfl rfl H (i := 1) rfl sl29 Try.underlying29 rfl rfl (H.slOwn (i := 5) rfl) (by omega) (fun a26 c27 w H => ?_))
     replace H : Hp _ w _ ([_, .own a26 (25 + ((e.tenant).length) + 3) c27 ((be (UInt64.ofNat (e.seq).toNat).toNat 8 ++ (be (UInt64.ofNat (e.tick).toNat).toNat 8) ++ (be (e.serial).toNat 8) ++ ([UInt8.ofNat ((e.tenant).length)]) ++ e.tenant ++ ([UInt8.ofNat ((e.do_).toNat), UInt8.ofNat ((e.status / 256).toNat), UInt8.ofNat ((e.status % 256).toNat)])).map V8) 5 1, _, _, _, _]) := H
     refine ⟨H.sub (.cons_cons _ (.cons _ (.cons_cons _ (.cons_cons _ (.cons_cons _ (List.nil_sublist _)))))), ?_⟩
     replace HS := H.sub (.cons_cons _ (.cons _ (.cons_cons _ (.cons_cons _ (.cons_cons _ (List.nil_sublist _))))))
     refine t_take 17 rfl (by kernel_rfl) (by kernel_rfl) (by kernel_rfl) (fun _ _ _ h => h) (fun w HS => r_as) HS ?_
     refine t_done (by kernel_rfl) ?_
     clear HS
     repeat refine c_seq ?_
     refine c_region ?_
     refine l_op (o_val (r_mv) ?_)
     refine l_op (o_val (r_fa rfl fo95_6) ?_)
     refine l_op (o_val (r_slAo (o := 6) (h := 32) (m := 32) (lv := none) (hv := none) (mv := none) rfl ar31 rfl rfl rfl (fun w => sbn w)) ?_)
     refine l_op (o_appB (s := (⟨some ⟨b1, 6, none⟩, 32, 32, e.of_⟩ : Sl)) (l' := be (UInt64.ofNat (e.seq).toNat).toNat 8 ++ (be (UInt64.ofNat (e.tick).toNat).toNat 8) ++ (be (e.serial).toNat 8) ++ ([UInt8.ofNat ((e.tenant).length)]) ++ e.tenant ++ ([UInt8.ofNat ((e.do_).toNat), UInt8.ofNat ((e.status / 256).toNat), UInt8.ofNat ((e.status % 256).toNat)]) ++ e.of_) (len' := 25 + ((e.tenant).length) + 3 + 32) rfl rfl H (i := 1) rfl sl29 Try.underlying29 rfl rfl (H.slTail (i := 0) (o := 6) (pre := [VI e.seq, VI e.tick, V64 e.serial, .string ⟨(e.tenant).toArray⟩, VI e.do_, VI e.status]) rfl rfl (show (e.of_).length = 32 from he) (by decide)) (by omega) (fun a28 c29 w H => ?_))
     replace H : Hp _ w _ ([_, .own a28 (25 + ((e.tenant).length) + 3 + 32) c29 ((be (UInt64.ofNat (e.seq).toNat).toNat 8 ++ (be (UInt64.ofNat (e.tick).toNat).toNat 8) ++ (be (e.serial).toNat 8) ++ ([UInt8.ofNat ((e.tenant).length)]) ++ e.tenant ++ ([UInt8.ofNat ((e.do_).toNat), UInt8.ofNat ((e.status / 256).toNat), UInt8.ofNat ((e.status % 256).toNat)]) ++ e.of_).map V8) 5 1, _, _, _, _]) := H
     refine l_op (o_val (r_as) ?_)
     refine l_op (o_val (r_as) ?_)
     first | refine l_end ?_ | refine l_nil ?_
     refine c_ret ?_
     try dsimp only [Exit.then, Exit.inBlock]
     refine e_retN (vs := [.slice (hd a28) (25 + ((e.tenant).length) + 3 + 32) c29, VI 0]) _ Try.results86 rfl (resT (v := .slice (hd a28) (25 + ((e.tenant).length) + 3 + 32) c29) rfl (resT (v := VI 0) rfl (resZ))) ?_
     refine ⟨_, rfl, ?_⟩
     have e1 : be (UInt64.ofNat (e.seq).toNat).toNat 8 ++ (be (UInt64.ofNat (e.tick).toNat).toNat 8) ++ (be (e.serial).toNat 8) ++ ([UInt8.ofNat ((e.tenant).length)]) ++ e.tenant ++ ([UInt8.ofNat ((e.do_).toNat), UInt8.ofNat ((e.status / 256).toNat), UInt8.ofNat ((e.status % 256).toNat)]) ++ e.of_ = entB e := by
       first | (simp only [entB, q1, q2]; simp; done) | (simp only [entB, q1, q2, au_be1 _ (show e.do_.toNat ≤ 255 by omega), au_be2, show (e.status / 256).toNat = e.status.toNat / 256 by omega, show (e.status % 256).toNat = e.status.toNat % 256 by omega]; simp; done)
     rw [e1] at H
     have hh := (H.ownLen (i := 1) rfl).1
     exact ⟨_, _, _, rfl, by simpa using hh, H.sub (.cons _ (.cons_cons _ (List.nil_sublist _)))⟩
   ·
    refine (o_bslB ([UInt8.ofNat ((e.tenant).length)]) H sl29 zc5 rfl rfl (by decide) (fun b30 w H hb30 => ?_))
    replace H : Hp _ w _ ([_, _, _, _, .own (some b30) 1 1 (([UInt8.ofNat ((e.tenant).length)]).map V8) 5 1]) := H
    refine ⟨H.sub (.cons_cons _ (.cons _ (.cons_cons _ (List.nil_sublist _)))), ?_⟩
    replace HS := H.sub (.cons_cons _ (.cons _ (.cons_cons _ (List.nil_sublist _))))
    refine t_step 4 rfl (by kernel_rfl) (o_appB (s := ⟨hd a9, 8, c10, be (e.serial).toNat 8⟩) (l' := be (UInt64.ofNat (e.seq).toNat).toNat 8 ++ (be (UInt64.ofNat (e.tick).toNat).toNat 8) ++ (be (e.serial).toNat 8)) (len' := 24) rfl rfl H (i := 1) rfl sl29 Try.underlying29 rfl rfl (H.slOwn (i := 3) rfl) (by omega) (fun a31 c32 w H => ?_))
    replace H : Hp _ w _ ([_, .own a31 24 c32 ((be (UInt64.ofNat (e.seq).toNat).toNat 8 ++ (be (UInt64.ofNat (e.tick).toNat).toNat 8) ++ (be (e.serial).toNat 8)).map V8) 5 1, _, _, _]) := H
    refine ⟨H.sub (.cons_cons _ (.cons _ (.cons_cons _ (List.nil_sublist _)))), ?_⟩
    replace HS := H.sub (.cons_cons _ (.cons _ (.cons_cons _ (List.nil_sublist _))))
    refine t_step 10 rfl (by kernel_rfl) (o_appB (s := ⟨hd (some b30), 1, 1, [UInt8.ofNat ((e.tenant).length)]⟩) (l' := be (UInt64.ofNat (e.seq).toNat).toNat 8 ++ (be (UInt64.ofNat (e.tick).toNat).toNat 8) ++ (be (e.serial).toNat 8) ++ ([UInt8.ofNat ((e.tenant).length)])) (len' := 25) rfl rfl H (i := 1) rfl sl29 Try.underlying29 rfl rfl (H.slOwn (i := 4) rfl) (by omega) (fun a33 c34 w H => ?_))
    replace H : Hp _ w _ ([_, .own a33 25 c34 ((be (UInt64.ofNat (e.seq).toNat).toNat 8 ++ (be (UInt64.ofNat (e.tick).toNat).toNat 8) ++ (be (e.serial).toNat 8) ++ ([UInt8.ofNat ((e.tenant).length)])).map V8) 5 1, _, _, _]) := H
    refine ⟨H.sub (.cons_cons _ (.cons _ (.cons_cons _ (List.nil_sublist _)))), ?_⟩
    replace HS := H.sub (.cons_cons _ (.cons _ (.cons_cons _ (List.nil_sublist _))))
    refine t_take 11 rfl (by kernel_rfl) (by kernel_rfl) (by kernel_rfl) (fun _ _ _ h => h) (fun w HS => r_as) HS ?_
    refine t_done (by kernel_rfl) ?_
    clear HS
    repeat refine c_seq ?_
    refine wp_held (fun w => Hp w0 w [] [.blk b1 ([VI e.seq, VI e.tick, V64 e.serial, .string ⟨(e.tenant).toArray⟩, VI e.do_, VI e.status] ++ (e.of_).map V8) 95, .own a5 8 c6 ((be (UInt64.ofNat (e.tick).toNat).toNat 8).map V8) 5 1, .own a9 8 c10 ((be (e.serial).toNat 8).map V8) 5 1, .own (some b30) 1 1 (([UInt8.ofNat ((e.tenant).length)]).map V8) 5 1]) mixed ?_
    replace H := H.drew
    have HS := H.sub (.cons_cons _ (.cons _ (.cons_cons _ (.cons_cons _ (.cons_cons _ (List.nil_sublist _))))))
    refine t_take 0 rfl (by kernel_rfl) (by kernel_rfl) (by kernel_rfl) (fun _ _ _ h => h) (fun w HS => r_mv) HS ?_
    refine t_take 1 rfl (by kernel_rfl) (by kernel_rfl) (by kernel_rfl) (fun _ _ _ h => h) (fun w HS => r_fa rfl fo95_3) HS ?_
    refine t_take 2 rfl (by kernel_rfl) (by kernel_rfl) (by kernel_rfl) (fun _ _ _ h => h) (fun w HS => r_ld (v := .string ⟨(e.tenant).toArray⟩) HS (i := 0) rfl rfl ct9 rfl) HS ?_
    refine t_take 4 rfl (by kernel_rfl) (by kernel_rfl) (by kernel_rfl) (fun _ _ _ h => h) (fun w HS => r_fa rfl fo95_4) HS ?_
    refine t_take 5 rfl (by kernel_rfl) (by kernel_rfl) (by kernel_rfl) (fun _ _ _ h => h) (fun w HS => r_ld (v := VI e.do_) HS (i := 0) rfl rfl ct3 rfl) HS ?_
    refine t_take 6 rfl (by kernel_rfl) (by kernel_rfl) (by kernel_rfl) (fun _ _ _ h => h) (fun w HS => r_conv (a := e.do_) (v := ((UInt8.ofNat ((e.do_).toNat)).toNat : Int)) Try.underlying3 Try.underlying5 rfl (w_u8_N ((e.do_).toNat) (by omega))) HS ?_
    refine t_take 7 rfl (by kernel_rfl) (by kernel_rfl) (by kernel_rfl) (fun _ _ _ h => h) (fun w HS => r_fa rfl fo95_5) HS ?_
    refine t_take 8 rfl (by kernel_rfl) (by kernel_rfl) (by kernel_rfl) (fun _ _ _ h => h) (fun w HS => r_ld (v := VI e.status) HS (i := 0) rfl rfl ct3 rfl) HS ?_
    refine t_take 9 rfl (by kernel_rfl) (by kernel_rfl) (by kernel_rfl) (fun _ _ _ h => h) (fun w HS => r_bin (a := e.status) (b := 256) rfl rfl (fun _ => b_quo (by omega) (by omega) (by omega))) HS ?_
    refine t_take 10 rfl (by kernel_rfl) (by kernel_rfl) (by kernel_rfl) (fun _ _ _ h => h) (fun w HS => r_conv (a := e.status / 256) (v := ((UInt8.ofNat ((e.status / 256).toNat)).toNat : Int)) Try.underlying3 Try.underlying5 rfl (w_u8_N ((e.status / 256).toNat) (by omega))) HS ?_
    refine t_take 11 rfl (by kernel_rfl) (by kernel_rfl) (by kernel_rfl) (fun _ _ _ h => h) (fun w HS => r_fa rfl fo95_5) HS ?_
    refine t_take 12 rfl (by kernel_rfl) (by kernel_rfl) (by kernel_rfl) (fun _ _ _ h => h) (fun w HS => r_ld (v := VI e.status) HS (i := 0) rfl rfl ct3 rfl) HS ?_
    refine t_take 13 rfl (by kernel_rfl) (by kernel_rfl) (by kernel_rfl) (fun _ _ _ h => h) (fun w HS => r_bin (a := e.status) (b := 256) rfl rfl (fun _ => b_rem (by omega) (by omega))) HS ?_
    refine t_take 14 rfl (by kernel_rfl) (by kernel_rfl) (by kernel_rfl) (fun _ _ _ h => h) (fun w HS => r_conv (a := e.status % 256) (v := ((UInt8.ofNat ((e.status % 256).toNat)).toNat : Int)) Try.underlying3 Try.underlying5 rfl (w_u8_N ((e.status % 256).toNat) (by omega))) HS ?_
    refine t_all [3, 15] (by kernel_rfl) (by simp) (all_cons (w_op 3 rfl ?_) (all_cons (w_op 15 rfl ?_) (all_nil)))
    ·
     refine (o_appS (l' := be (UInt64.ofNat (e.seq).toNat).toNat 8 ++ (be (UInt64.ofNat (e.tick).toNat).toNat 8) ++ (be (e.serial).toNat 8) ++ ([UInt8.ofNat ((e.tenant).length)]) ++ e.tenant) (len' := 25 + ((e.tenant).length)) rfl rfl H (i := 1) rfl sl29 Try.underlying9 rfl rfl (by omega) (fun a35 c36 w H => ?_))
     replace H : Hp _ w _ ([_, .own a35 (25 + ((e.tenant).length)) c36 ((be (UInt64.ofNat (e.seq).toNat).toNat 8 ++ (be (UInt64.ofNat (e.tick).toNat).toNat 8) ++ (be (e.serial).toNat 8) ++ ([UInt8.ofNat ((e.tenant).length)]) ++ e.tenant).map V8) 5 1, _, _, _]) := H
     refine ⟨H.sub (.cons_cons _ (.cons _ (.cons_cons _ (.cons_cons _ (.cons_cons _ (List.nil_sublist _)))))), ?_⟩
     replace HS := H.sub (.cons_cons _ (.cons _ (.cons_cons _ (.cons_cons _ (.cons_cons _ (List.nil_sublist _))))))
     refine t_step 15 rfl (by kernel_rfl) (o_bslB ([UInt8.ofNat ((e.do_).toNat), UInt8.ofNat ((e.status / 256).toNat), UInt8.ofNat ((e.status % 256).toNat)]) H sl29 zc5 rfl rfl (by decide) (fun b37 w H hb37 => ?_))
     replace H : Hp _ w _ ([_, _, _, _, _, .own (some b37) 3 3 (([UInt8.ofNat ((e.do_).toNat), UInt8.ofNat ((e.status / 256).toNat), UInt8.ofNat ((e.status % 256).toNat)]).map V8) 5 1]) := H
     refine ⟨H.sub (.cons_cons _ (.cons _ (.cons_cons _ (.cons_cons _ (.cons_cons _ (List.nil_sublist _)))))), ?_⟩
     replace HS := H.sub (.cons_cons _ (.cons _ (.cons_cons _ (.cons_cons _ (.cons_cons _ (List.nil_sublist _))))))
     refine t_step 16 rfl (by kernel_rfl) (o_appB (s := ⟨hd (some b37), 3, 3, [UInt8.ofNat ((e.do_).toNat), UInt8.ofNat ((e.status / 256).toNat), UInt8.ofNat ((e.status % 256).toNat)]⟩) (l' := be (UInt64.ofNat (e.seq).toNat).toNat 8 ++ (be (UInt64.ofNat (e.tick).toNat).toNat 8) ++ (be (e.serial).toNat 8) ++ ([UInt8.ofNat ((e.tenant).length)]) ++ e.tenant ++ ([UInt8.ofNat ((e.do_).toNat), UInt8.ofNat ((e.status / 256).toNat), UInt8.ofNat ((e.status % 256).toNat)])) (len' := 25 + ((e.tenant).length) + 3) rfl rfl H (i := 1) rfl sl29 Try.underlying29 rfl rfl (H.slOwn (i := 5) rfl) (by omega) (fun a38 c39 w H => ?_))
     replace H : Hp _ w _ ([_, .own a38 (25 + ((e.tenant).length) + 3) c39 ((be (UInt64.ofNat (e.seq).toNat).toNat 8 ++ (be (UInt64.ofNat (e.tick).toNat).toNat 8) ++ (be (e.serial).toNat 8) ++ ([UInt8.ofNat ((e.tenant).length)]) ++ e.tenant ++ ([UInt8.ofNat ((e.do_).toNat), UInt8.ofNat ((e.status / 256).toNat), UInt8.ofNat ((e.status % 256).toNat)])).map V8) 5 1, _, _, _, _]) := H
     refine ⟨H.sub (.cons_cons _ (.cons _ (.cons_cons _ (.cons_cons _ (.cons_cons _ (List.nil_sublist _)))))), ?_⟩
     replace HS := H.sub (.cons_cons _ (.cons _ (.cons_cons _ (.cons_cons _ (.cons_cons _ (List.nil_sublist _))))))
     refine t_take 17 rfl (by kernel_rfl) (by kernel_rfl) (by kernel_rfl) (fun _ _ _ h => h) (fun w HS => r_as) HS ?_
     refine t_done (by kernel_rfl) ?_
     clear HS
     repeat refine c_seq ?_
     refine c_region ?_
     refine l_op (o_val (r_mv) ?_)
     refine l_op (o_val (r_fa rfl fo95_6) ?_)
     refine l_op (o_val (r_slAo (o := 6) (h := 32) (m := 32) (lv := none) (hv := none) (mv := none) rfl ar31 rfl rfl rfl (fun w => sbn w)) ?_)
     refine l_op (o_appB (s := (⟨some ⟨b1, 6, none⟩, 32, 32, e.of_⟩ : Sl)) (l' := be (UInt64.ofNat (e.seq).toNat).toNat 8 ++ (be (UInt64.ofNat (e.tick).toNat).toNat 8) ++ (be (e.serial).toNat 8) ++ ([UInt8.ofNat ((e.tenant).length)]) ++ e.tenant ++ ([UInt8.ofNat ((e.do_).toNat), UInt8.ofNat ((e.status / 256).toNat), UInt8.ofNat ((e.status % 256).toNat)]) ++ e.of_) (len' := 25 + ((e.tenant).length) + 3 + 32) rfl rfl H (i := 1) rfl sl29 Try.underlying29 rfl rfl (H.slTail (i := 0) (o := 6) (pre := [VI e.seq, VI e.tick, V64 e.serial, .string ⟨(e.tenant).toArray⟩, VI e.do_, VI e.status]) rfl rfl (show (e.of_).length = 32 from he) (by decide)) (by omega) (fun a40 c41 w H => ?_))
     replace H : Hp _ w _ ([_, .own a40 (25 + ((e.tenant).length) + 3 + 32) c41 ((be (UInt64.ofNat (e.seq).toNat).toNat 8 ++ (be (UInt64.ofNat (e.tick).toNat).toNat 8) ++ (be (e.serial).toNat 8) ++ ([UInt8.ofNat ((e.tenant).length)]) ++ e.tenant ++ ([UInt8.ofNat ((e.do_).toNat), UInt8.ofNat ((e.status / 256).toNat), UInt8.ofNat ((e.status % 256).toNat)]) ++ e.of_).map V8) 5 1, _, _, _, _]) := H
     refine l_op (o_val (r_as) ?_)
     refine l_op (o_val (r_as) ?_)
     first | refine l_end ?_ | refine l_nil ?_
     refine c_ret ?_
     try dsimp only [Exit.then, Exit.inBlock]
     refine e_retN (vs := [.slice (hd a40) (25 + ((e.tenant).length) + 3 + 32) c41, VI 0]) _ Try.results86 rfl (resT (v := .slice (hd a40) (25 + ((e.tenant).length) + 3 + 32) c41) rfl (resT (v := VI 0) rfl (resZ))) ?_
     refine ⟨_, rfl, ?_⟩
     have e1 : be (UInt64.ofNat (e.seq).toNat).toNat 8 ++ (be (UInt64.ofNat (e.tick).toNat).toNat 8) ++ (be (e.serial).toNat 8) ++ ([UInt8.ofNat ((e.tenant).length)]) ++ e.tenant ++ ([UInt8.ofNat ((e.do_).toNat), UInt8.ofNat ((e.status / 256).toNat), UInt8.ofNat ((e.status % 256).toNat)]) ++ e.of_ = entB e := by
       first | (simp only [entB, q1, q2]; simp; done) | (simp only [entB, q1, q2, au_be1 _ (show e.do_.toNat ≤ 255 by omega), au_be2, show (e.status / 256).toNat = e.status.toNat / 256 by omega, show (e.status % 256).toNat = e.status.toNat % 256 by omega]; simp; done)
     rw [e1] at H
     have hh := (H.ownLen (i := 1) rfl).1
     exact ⟨_, _, _, rfl, by simpa using hh, H.sub (.cons _ (.cons_cons _ (List.nil_sublist _)))⟩
    ·
     refine (o_bslB ([UInt8.ofNat ((e.do_).toNat), UInt8.ofNat ((e.status / 256).toNat), UInt8.ofNat ((e.status % 256).toNat)]) H sl29 zc5 rfl rfl (by decide) (fun b42 w H hb42 => ?_))
     replace H : Hp _ w _ ([_, _, _, _, _, .own (some b42) 3 3 (([UInt8.ofNat ((e.do_).toNat), UInt8.ofNat ((e.status / 256).toNat), UInt8.ofNat ((e.status % 256).toNat)]).map V8) 5 1]) := H
     refine ⟨H.sub (.cons_cons _ (.cons _ (.cons_cons _ (.cons_cons _ (.cons_cons _ (List.nil_sublist _)))))), ?_⟩
     replace HS := H.sub (.cons_cons _ (.cons _ (.cons_cons _ (.cons_cons _ (.cons_cons _ (List.nil_sublist _))))))
     refine t_step 3 rfl (by kernel_rfl) (o_appS (l' := be (UInt64.ofNat (e.seq).toNat).toNat 8 ++ (be (UInt64.ofNat (e.tick).toNat).toNat 8) ++ (be (e.serial).toNat 8) ++ ([UInt8.ofNat ((e.tenant).length)]) ++ e.tenant) (len' := 25 + ((e.tenant).length)) rfl rfl H (i := 1) rfl sl29 Try.underlying9 rfl rfl (by omega) (fun a43 c44 w H => ?_))
     replace H : Hp _ w _ ([_, .own a43 (25 + ((e.tenant).length)) c44 ((be (UInt64.ofNat (e.seq).toNat).toNat 8 ++ (be (UInt64.ofNat (e.tick).toNat).toNat 8) ++ (be (e.serial).toNat 8) ++ ([UInt8.ofNat ((e.tenant).length)]) ++ e.tenant).map V8) 5 1, _, _, _, _]) := H
     refine ⟨H.sub (.cons_cons _ (.cons _ (.cons_cons _ (.cons_cons _ (.cons_cons _ (List.nil_sublist _)))))), ?_⟩
     replace HS := H.sub (.cons_cons _ (.cons _ (.cons_cons _ (.cons_cons _ (.cons_cons _ (List.nil_sublist _))))))
     refine t_step 16 rfl (by kernel_rfl) (o_appB (s := ⟨hd (some b42), 3, 3, [UInt8.ofNat ((e.do_).toNat), UInt8.ofNat ((e.status / 256).toNat), UInt8.ofNat ((e.status % 256).toNat)]⟩) (l' := be (UInt64.ofNat (e.seq).toNat).toNat 8 ++ (be (UInt64.ofNat (e.tick).toNat).toNat 8) ++ (be (e.serial).toNat 8) ++ ([UInt8.ofNat ((e.tenant).length)]) ++ e.tenant ++ ([UInt8.ofNat ((e.do_).toNat), UInt8.ofNat ((e.status / 256).toNat), UInt8.ofNat ((e.status % 256).toNat)])) (len' := 25 + ((e.tenant).length) + 3) rfl rfl H (i := 1) rfl sl29 Try.underlying29 rfl rfl (H.slOwn (i := 5) rfl) (by omega) (fun a45 c46 w H => ?_))
     replace H : Hp _ w _ ([_, .own a45 (25 + ((e.tenant).length) + 3) c46 ((be (UInt64.ofNat (e.seq).toNat).toNat 8 ++ (be (UInt64.ofNat (e.tick).toNat).toNat 8) ++ (be (e.serial).toNat 8) ++ ([UInt8.ofNat ((e.tenant).length)]) ++ e.tenant ++ ([UInt8.ofNat ((e.do_).toNat), UInt8.ofNat ((e.status / 256).toNat), UInt8.ofNat ((e.status % 256).toNat)])).map V8) 5 1, _, _, _, _]) := H
     refine ⟨H.sub (.cons_cons _ (.cons _ (.cons_cons _ (.cons_cons _ (.cons_cons _ (List.nil_sublist _)))))), ?_⟩
     replace HS := H.sub (.cons_cons _ (.cons _ (.cons_cons _ (.cons_cons _ (.cons_cons _ (List.nil_sublist _))))))
     refine t_take 17 rfl (by kernel_rfl) (by kernel_rfl) (by kernel_rfl) (fun _ _ _ h => h) (fun w HS => r_as) HS ?_
     refine t_done (by kernel_rfl) ?_
     clear HS
     repeat refine c_seq ?_
     refine c_region ?_
     refine l_op (o_val (r_mv) ?_)
     refine l_op (o_val (r_fa rfl fo95_6) ?_)
     refine l_op (o_val (r_slAo (o := 6) (h := 32) (m := 32) (lv := none) (hv := none) (mv := none) rfl ar31 rfl rfl rfl (fun w => sbn w)) ?_)
     refine l_op (o_appB (s := (⟨some ⟨b1, 6, none⟩, 32, 32, e.of_⟩ : Sl)) (l' := be (UInt64.ofNat (e.seq).toNat).toNat 8 ++ (be (UInt64.ofNat (e.tick).toNat).toNat 8) ++ (be (e.serial).toNat 8) ++ ([UInt8.ofNat ((e.tenant).length)]) ++ e.tenant ++ ([UInt8.ofNat ((e.do_).toNat), UInt8.ofNat ((e.status / 256).toNat), UInt8.ofNat ((e.status % 256).toNat)]) ++ e.of_) (len' := 25 + ((e.tenant).length) + 3 + 32) rfl rfl H (i := 1) rfl sl29 Try.underlying29 rfl rfl (H.slTail (i := 0) (o := 6) (pre := [VI e.seq, VI e.tick, V64 e.serial, .string ⟨(e.tenant).toArray⟩, VI e.do_, VI e.status]) rfl rfl (show (e.of_).length = 32 from he) (by decide)) (by omega) (fun a47 c48 w H => ?_))
     replace H : Hp _ w _ ([_, .own a47 (25 + ((e.tenant).length) + 3 + 32) c48 ((be (UInt64.ofNat (e.seq).toNat).toNat 8 ++ (be (UInt64.ofNat (e.tick).toNat).toNat 8) ++ (be (e.serial).toNat 8) ++ ([UInt8.ofNat ((e.tenant).length)]) ++ e.tenant ++ ([UInt8.ofNat ((e.do_).toNat), UInt8.ofNat ((e.status / 256).toNat), UInt8.ofNat ((e.status % 256).toNat)]) ++ e.of_).map V8) 5 1, _, _, _, _]) := H
     refine l_op (o_val (r_as) ?_)
     refine l_op (o_val (r_as) ?_)
     first | refine l_end ?_ | refine l_nil ?_
     refine c_ret ?_
     try dsimp only [Exit.then, Exit.inBlock]
     refine e_retN (vs := [.slice (hd a47) (25 + ((e.tenant).length) + 3 + 32) c48, VI 0]) _ Try.results86 rfl (resT (v := .slice (hd a47) (25 + ((e.tenant).length) + 3 + 32) c48) rfl (resT (v := VI 0) rfl (resZ))) ?_
     refine ⟨_, rfl, ?_⟩
     have e1 : be (UInt64.ofNat (e.seq).toNat).toNat 8 ++ (be (UInt64.ofNat (e.tick).toNat).toNat 8) ++ (be (e.serial).toNat 8) ++ ([UInt8.ofNat ((e.tenant).length)]) ++ e.tenant ++ ([UInt8.ofNat ((e.do_).toNat), UInt8.ofNat ((e.status / 256).toNat), UInt8.ofNat ((e.status % 256).toNat)]) ++ e.of_ = entB e := by
       first | (simp only [entB, q1, q2]; simp; done) | (simp only [entB, q1, q2, au_be1 _ (show e.do_.toNat ≤ 255 by omega), au_be2, show (e.status / 256).toNat = e.status.toNat / 256 by omega, show (e.status % 256).toNat = e.status.toNat % 256 by omega]; simp; done)
     rw [e1] at H
     have hh := (H.ownLen (i := 1) rfl).1
     exact ⟨_, _, _, rfl, by simpa using hh, H.sub (.cons _ (.cons_cons _ (List.nil_sublist _)))⟩
  ·
   refine (o_bslB ([UInt8.ofNat ((e.tenant).length)]) H sl29 zc5 rfl rfl (by decide) (fun b49 w H hb49 => ?_))
   replace H : Hp _ w _ ([_, _, _, .own (some b49) 1 1 (([UInt8.ofNat ((e.tenant).length)]).map V8) 5 1]) := H
   refine ⟨H.sub (.cons_cons _ (.cons _ (.cons_cons _ (List.nil_sublist _)))), ?_⟩
   replace HS := H.sub (.cons_cons _ (.cons _ (.cons_cons _ (List.nil_sublist _))))
   refine t_step 3 rfl (by kernel_rfl) (o_callR Try.func55 rfl rfl rfl (eight_ret _ (e.serial)) ?_)
   rintro _ w ⟨a50, c51, rfl, Hc⟩
   replace H : Hp _ w _ ([_, _, _, _, .own a50 8 c51 ((be (e.serial).toNat 8).map V8) 5 1]) := H.call Hc
   clear Hc
   refine ⟨H.sub (.cons_cons _ (.cons _ (.cons_cons _ (List.nil_sublist _)))), ?_⟩
   replace HS := H.sub (.cons_cons _ (.cons _ (.cons_cons _ (List.nil_sublist _))))
   refine t_step 4 rfl (by kernel_rfl) (o_appB (s := ⟨hd a50, 8, c51, be (e.serial).toNat 8⟩) (l' := be (UInt64.ofNat (e.seq).toNat).toNat 8 ++ (be (UInt64.ofNat (e.tick).toNat).toNat 8) ++ (be (e.serial).toNat 8)) (len' := 24) rfl rfl H (i := 1) rfl sl29 Try.underlying29 rfl rfl (H.slOwn (i := 4) rfl) (by omega) (fun a52 c53 w H => ?_))
   replace H : Hp _ w _ ([_, .own a52 24 c53 ((be (UInt64.ofNat (e.seq).toNat).toNat 8 ++ (be (UInt64.ofNat (e.tick).toNat).toNat 8) ++ (be (e.serial).toNat 8)).map V8) 5 1, _, _, _]) := H
   refine ⟨H.sub (.cons_cons _ (.cons _ (.cons_cons _ (List.nil_sublist _)))), ?_⟩
   replace HS := H.sub (.cons_cons _ (.cons _ (.cons_cons _ (List.nil_sublist _))))
   refine t_step 10 rfl (by kernel_rfl) (o_appB (s := ⟨hd (some b49), 1, 1, [UInt8.ofNat ((e.tenant).length)]⟩) (l' := be (UInt64.ofNat (e.seq).toNat).toNat 8 ++ (be (UInt64.ofNat (e.tick).toNat).toNat 8) ++ (be (e.serial).toNat 8) ++ ([UInt8.ofNat ((e.tenant).length)])) (len' := 25) rfl rfl H (i := 1) rfl sl29 Try.underlying29 rfl rfl (H.slOwn (i := 3) rfl) (by omega) (fun a54 c55 w H => ?_))
   replace H : Hp _ w _ ([_, .own a54 25 c55 ((be (UInt64.ofNat (e.seq).toNat).toNat 8 ++ (be (UInt64.ofNat (e.tick).toNat).toNat 8) ++ (be (e.serial).toNat 8) ++ ([UInt8.ofNat ((e.tenant).length)])).map V8) 5 1, _, _, _]) := H
   refine ⟨H.sub (.cons_cons _ (.cons _ (.cons_cons _ (List.nil_sublist _)))), ?_⟩
   replace HS := H.sub (.cons_cons _ (.cons _ (.cons_cons _ (List.nil_sublist _))))
   refine t_take 11 rfl (by kernel_rfl) (by kernel_rfl) (by kernel_rfl) (fun _ _ _ h => h) (fun w HS => r_as) HS ?_
   refine t_done (by kernel_rfl) ?_
   clear HS
   repeat refine c_seq ?_
   refine wp_held (fun w => Hp w0 w [] [.blk b1 ([VI e.seq, VI e.tick, V64 e.serial, .string ⟨(e.tenant).toArray⟩, VI e.do_, VI e.status] ++ (e.of_).map V8) 95, .own a5 8 c6 ((be (UInt64.ofNat (e.tick).toNat).toNat 8).map V8) 5 1, .own (some b49) 1 1 (([UInt8.ofNat ((e.tenant).length)]).map V8) 5 1, .own a50 8 c51 ((be (e.serial).toNat 8).map V8) 5 1]) mixed ?_
   replace H := H.drew
   have HS := H.sub (.cons_cons _ (.cons _ (.cons_cons _ (.cons_cons _ (.cons_cons _ (List.nil_sublist _))))))
   refine t_take 0 rfl (by kernel_rfl) (by kernel_rfl) (by kernel_rfl) (fun _ _ _ h => h) (fun w HS => r_mv) HS ?_
   refine t_take 1 rfl (by kernel_rfl) (by kernel_rfl) (by kernel_rfl) (fun _ _ _ h => h) (fun w HS => r_fa rfl fo95_3) HS ?_
   refine t_take 2 rfl (by kernel_rfl) (by kernel_rfl) (by kernel_rfl) (fun _ _ _ h => h) (fun w HS => r_ld (v := .string ⟨(e.tenant).toArray⟩) HS (i := 0) rfl rfl ct9 rfl) HS ?_
   refine t_take 4 rfl (by kernel_rfl) (by kernel_rfl) (by kernel_rfl) (fun _ _ _ h => h) (fun w HS => r_fa rfl fo95_4) HS ?_
   refine t_take 5 rfl (by kernel_rfl) (by kernel_rfl) (by kernel_rfl) (fun _ _ _ h => h) (fun w HS => r_ld (v := VI e.do_) HS (i := 0) rfl rfl ct3 rfl) HS ?_
   refine t_take 6 rfl (by kernel_rfl) (by kernel_rfl) (by kernel_rfl) (fun _ _ _ h => h) (fun w HS => r_conv (a := e.do_) (v := ((UInt8.ofNat ((e.do_).toNat)).toNat : Int)) Try.underlying3 Try.underlying5 rfl (w_u8_N ((e.do_).toNat) (by omega))) HS ?_
   refine t_take 7 rfl (by kernel_rfl) (by kernel_rfl) (by kernel_rfl) (fun _ _ _ h => h) (fun w HS => r_fa rfl fo95_5) HS ?_
   refine t_take 8 rfl (by kernel_rfl) (by kernel_rfl) (by kernel_rfl) (fun _ _ _ h => h) (fun w HS => r_ld (v := VI e.status) HS (i := 0) rfl rfl ct3 rfl) HS ?_
   refine t_take 9 rfl (by kernel_rfl) (by kernel_rfl) (by kernel_rfl) (fun _ _ _ h => h) (fun w HS => r_bin (a := e.status) (b := 256) rfl rfl (fun _ => b_quo (by omega) (by omega) (by omega))) HS ?_
   refine t_take 10 rfl (by kernel_rfl) (by kernel_rfl) (by kernel_rfl) (fun _ _ _ h => h) (fun w HS => r_conv (a := e.status / 256) (v := ((UInt8.ofNat ((e.status / 256).toNat)).toNat : Int)) Try.underlying3 Try.underlying5 rfl (w_u8_N ((e.status / 256).toNat) (by omega))) HS ?_
   refine t_take 11 rfl (by kernel_rfl) (by kernel_rfl) (by kernel_rfl) (fun _ _ _ h => h) (fun w HS => r_fa rfl fo95_5) HS ?_
   refine t_take 12 rfl (by kernel_rfl) (by kernel_rfl) (by kernel_rfl) (fun _ _ _ h => h) (fun w HS => r_ld (v := VI e.status) HS (i := 0) rfl rfl ct3 rfl) HS ?_
   refine t_take 13 rfl (by kernel_rfl) (by kernel_rfl) (by kernel_rfl) (fun _ _ _ h => h) (fun w HS => r_bin (a := e.status) (b := 256) rfl rfl (fun _ => b_rem (by omega) (by omega))) HS ?_
   refine t_take 14 rfl (by kernel_rfl) (by kernel_rfl) (by kernel_rfl) (fun _ _ _ h => h) (fun w HS => r_conv (a := e.status % 256) (v := ((UInt8.ofNat ((e.status % 256).toNat)).toNat : Int)) Try.underlying3 Try.underlying5 rfl (w_u8_N ((e.status % 256).toNat) (by omega))) HS ?_
   refine t_all [3, 15] (by kernel_rfl) (by simp) (all_cons (w_op 3 rfl ?_) (all_cons (w_op 15 rfl ?_) (all_nil)))
   ·
    refine (o_appS (l' := be (UInt64.ofNat (e.seq).toNat).toNat 8 ++ (be (UInt64.ofNat (e.tick).toNat).toNat 8) ++ (be (e.serial).toNat 8) ++ ([UInt8.ofNat ((e.tenant).length)]) ++ e.tenant) (len' := 25 + ((e.tenant).length)) rfl rfl H (i := 1) rfl sl29 Try.underlying9 rfl rfl (by omega) (fun a56 c57 w H => ?_))
    replace H : Hp _ w _ ([_, .own a56 (25 + ((e.tenant).length)) c57 ((be (UInt64.ofNat (e.seq).toNat).toNat 8 ++ (be (UInt64.ofNat (e.tick).toNat).toNat 8) ++ (be (e.serial).toNat 8) ++ ([UInt8.ofNat ((e.tenant).length)]) ++ e.tenant).map V8) 5 1, _, _, _]) := H
    refine ⟨H.sub (.cons_cons _ (.cons _ (.cons_cons _ (.cons_cons _ (.cons_cons _ (List.nil_sublist _)))))), ?_⟩
    replace HS := H.sub (.cons_cons _ (.cons _ (.cons_cons _ (.cons_cons _ (.cons_cons _ (List.nil_sublist _))))))
    refine t_step 15 rfl (by kernel_rfl) (o_bslB ([UInt8.ofNat ((e.do_).toNat), UInt8.ofNat ((e.status / 256).toNat), UInt8.ofNat ((e.status % 256).toNat)]) H sl29 zc5 rfl rfl (by decide) (fun b58 w H hb58 => ?_))
    replace H : Hp _ w _ ([_, _, _, _, _, .own (some b58) 3 3 (([UInt8.ofNat ((e.do_).toNat), UInt8.ofNat ((e.status / 256).toNat), UInt8.ofNat ((e.status % 256).toNat)]).map V8) 5 1]) := H
    refine ⟨H.sub (.cons_cons _ (.cons _ (.cons_cons _ (.cons_cons _ (.cons_cons _ (List.nil_sublist _)))))), ?_⟩
    replace HS := H.sub (.cons_cons _ (.cons _ (.cons_cons _ (.cons_cons _ (.cons_cons _ (List.nil_sublist _))))))
    refine t_step 16 rfl (by kernel_rfl) (o_appB (s := ⟨hd (some b58), 3, 3, [UInt8.ofNat ((e.do_).toNat), UInt8.ofNat ((e.status / 256).toNat), UInt8.ofNat ((e.status % 256).toNat)]⟩) (l' := be (UInt64.ofNat (e.seq).toNat).toNat 8 ++ (be (UInt64.ofNat (e.tick).toNat).toNat 8) ++ (be (e.serial).toNat 8) ++ ([UInt8.ofNat ((e.tenant).length)]) ++ e.tenant ++ ([UInt8.ofNat ((e.do_).toNat), UInt8.ofNat ((e.status / 256).toNat), UInt8.ofNat ((e.status % 256).toNat)])) (len' := 25 + ((e.tenant).length) + 3) rfl rfl H (i := 1) rfl sl29 Try.underlying29 rfl rfl (H.slOwn (i := 5) rfl) (by omega) (fun a59 c60 w H => ?_))
    replace H : Hp _ w _ ([_, .own a59 (25 + ((e.tenant).length) + 3) c60 ((be (UInt64.ofNat (e.seq).toNat).toNat 8 ++ (be (UInt64.ofNat (e.tick).toNat).toNat 8) ++ (be (e.serial).toNat 8) ++ ([UInt8.ofNat ((e.tenant).length)]) ++ e.tenant ++ ([UInt8.ofNat ((e.do_).toNat), UInt8.ofNat ((e.status / 256).toNat), UInt8.ofNat ((e.status % 256).toNat)])).map V8) 5 1, _, _, _, _]) := H
    refine ⟨H.sub (.cons_cons _ (.cons _ (.cons_cons _ (.cons_cons _ (.cons_cons _ (List.nil_sublist _)))))), ?_⟩
    replace HS := H.sub (.cons_cons _ (.cons _ (.cons_cons _ (.cons_cons _ (.cons_cons _ (List.nil_sublist _))))))
    refine t_take 17 rfl (by kernel_rfl) (by kernel_rfl) (by kernel_rfl) (fun _ _ _ h => h) (fun w HS => r_as) HS ?_
    refine t_done (by kernel_rfl) ?_
    clear HS
    repeat refine c_seq ?_
    refine c_region ?_
    refine l_op (o_val (r_mv) ?_)
    refine l_op (o_val (r_fa rfl fo95_6) ?_)
    refine l_op (o_val (r_slAo (o := 6) (h := 32) (m := 32) (lv := none) (hv := none) (mv := none) rfl ar31 rfl rfl rfl (fun w => sbn w)) ?_)
    refine l_op (o_appB (s := (⟨some ⟨b1, 6, none⟩, 32, 32, e.of_⟩ : Sl)) (l' := be (UInt64.ofNat (e.seq).toNat).toNat 8 ++ (be (UInt64.ofNat (e.tick).toNat).toNat 8) ++ (be (e.serial).toNat 8) ++ ([UInt8.ofNat ((e.tenant).length)]) ++ e.tenant ++ ([UInt8.ofNat ((e.do_).toNat), UInt8.ofNat ((e.status / 256).toNat), UInt8.ofNat ((e.status % 256).toNat)]) ++ e.of_) (len' := 25 + ((e.tenant).length) + 3 + 32) rfl rfl H (i := 1) rfl sl29 Try.underlying29 rfl rfl (H.slTail (i := 0) (o := 6) (pre := [VI e.seq, VI e.tick, V64 e.serial, .string ⟨(e.tenant).toArray⟩, VI e.do_, VI e.status]) rfl rfl (show (e.of_).length = 32 from he) (by decide)) (by omega) (fun a61 c62 w H => ?_))
    replace H : Hp _ w _ ([_, .own a61 (25 + ((e.tenant).length) + 3 + 32) c62 ((be (UInt64.ofNat (e.seq).toNat).toNat 8 ++ (be (UInt64.ofNat (e.tick).toNat).toNat 8) ++ (be (e.serial).toNat 8) ++ ([UInt8.ofNat ((e.tenant).length)]) ++ e.tenant ++ ([UInt8.ofNat ((e.do_).toNat), UInt8.ofNat ((e.status / 256).toNat), UInt8.ofNat ((e.status % 256).toNat)]) ++ e.of_).map V8) 5 1, _, _, _, _]) := H
    refine l_op (o_val (r_as) ?_)
    refine l_op (o_val (r_as) ?_)
    first | refine l_end ?_ | refine l_nil ?_
    refine c_ret ?_
    try dsimp only [Exit.then, Exit.inBlock]
    refine e_retN (vs := [.slice (hd a61) (25 + ((e.tenant).length) + 3 + 32) c62, VI 0]) _ Try.results86 rfl (resT (v := .slice (hd a61) (25 + ((e.tenant).length) + 3 + 32) c62) rfl (resT (v := VI 0) rfl (resZ))) ?_
    refine ⟨_, rfl, ?_⟩
    have e1 : be (UInt64.ofNat (e.seq).toNat).toNat 8 ++ (be (UInt64.ofNat (e.tick).toNat).toNat 8) ++ (be (e.serial).toNat 8) ++ ([UInt8.ofNat ((e.tenant).length)]) ++ e.tenant ++ ([UInt8.ofNat ((e.do_).toNat), UInt8.ofNat ((e.status / 256).toNat), UInt8.ofNat ((e.status % 256).toNat)]) ++ e.of_ = entB e := by
      first | (simp only [entB, q1, q2]; simp; done) | (simp only [entB, q1, q2, au_be1 _ (show e.do_.toNat ≤ 255 by omega), au_be2, show (e.status / 256).toNat = e.status.toNat / 256 by omega, show (e.status % 256).toNat = e.status.toNat % 256 by omega]; simp; done)
    rw [e1] at H
    have hh := (H.ownLen (i := 1) rfl).1
    exact ⟨_, _, _, rfl, by simpa using hh, H.sub (.cons _ (.cons_cons _ (List.nil_sublist _)))⟩
   ·
    refine (o_bslB ([UInt8.ofNat ((e.do_).toNat), UInt8.ofNat ((e.status / 256).toNat), UInt8.ofNat ((e.status % 256).toNat)]) H sl29 zc5 rfl rfl (by decide) (fun b63 w H hb63 => ?_))
    replace H : Hp _ w _ ([_, _, _, _, _, .own (some b63) 3 3 (([UInt8.ofNat ((e.do_).toNat), UInt8.ofNat ((e.status / 256).toNat), UInt8.ofNat ((e.status % 256).toNat)]).map V8) 5 1]) := H
    refine ⟨H.sub (.cons_cons _ (.cons _ (.cons_cons _ (.cons_cons _ (.cons_cons _ (List.nil_sublist _)))))), ?_⟩
    replace HS := H.sub (.cons_cons _ (.cons _ (.cons_cons _ (.cons_cons _ (.cons_cons _ (List.nil_sublist _))))))
    refine t_step 3 rfl (by kernel_rfl) (o_appS (l' := be (UInt64.ofNat (e.seq).toNat).toNat 8 ++ (be (UInt64.ofNat (e.tick).toNat).toNat 8) ++ (be (e.serial).toNat 8) ++ ([UInt8.ofNat ((e.tenant).length)]) ++ e.tenant) (len' := 25 + ((e.tenant).length)) rfl rfl H (i := 1) rfl sl29 Try.underlying9 rfl rfl (by omega) (fun a64 c65 w H => ?_))
    replace H : Hp _ w _ ([_, .own a64 (25 + ((e.tenant).length)) c65 ((be (UInt64.ofNat (e.seq).toNat).toNat 8 ++ (be (UInt64.ofNat (e.tick).toNat).toNat 8) ++ (be (e.serial).toNat 8) ++ ([UInt8.ofNat ((e.tenant).length)]) ++ e.tenant).map V8) 5 1, _, _, _, _]) := H
    refine ⟨H.sub (.cons_cons _ (.cons _ (.cons_cons _ (.cons_cons _ (.cons_cons _ (List.nil_sublist _)))))), ?_⟩
    replace HS := H.sub (.cons_cons _ (.cons _ (.cons_cons _ (.cons_cons _ (.cons_cons _ (List.nil_sublist _))))))
    refine t_step 16 rfl (by kernel_rfl) (o_appB (s := ⟨hd (some b63), 3, 3, [UInt8.ofNat ((e.do_).toNat), UInt8.ofNat ((e.status / 256).toNat), UInt8.ofNat ((e.status % 256).toNat)]⟩) (l' := be (UInt64.ofNat (e.seq).toNat).toNat 8 ++ (be (UInt64.ofNat (e.tick).toNat).toNat 8) ++ (be (e.serial).toNat 8) ++ ([UInt8.ofNat ((e.tenant).length)]) ++ e.tenant ++ ([UInt8.ofNat ((e.do_).toNat), UInt8.ofNat ((e.status / 256).toNat), UInt8.ofNat ((e.status % 256).toNat)])) (len' := 25 + ((e.tenant).length) + 3) rfl rfl H (i := 1) rfl sl29 Try.underlying29 rfl rfl (H.slOwn (i := 5) rfl) (by omega) (fun a66 c67 w H => ?_))
    replace H : Hp _ w _ ([_, .own a66 (25 + ((e.tenant).length) + 3) c67 ((be (UInt64.ofNat (e.seq).toNat).toNat 8 ++ (be (UInt64.ofNat (e.tick).toNat).toNat 8) ++ (be (e.serial).toNat 8) ++ ([UInt8.ofNat ((e.tenant).length)]) ++ e.tenant ++ ([UInt8.ofNat ((e.do_).toNat), UInt8.ofNat ((e.status / 256).toNat), UInt8.ofNat ((e.status % 256).toNat)])).map V8) 5 1, _, _, _, _]) := H
    refine ⟨H.sub (.cons_cons _ (.cons _ (.cons_cons _ (.cons_cons _ (.cons_cons _ (List.nil_sublist _)))))), ?_⟩
    replace HS := H.sub (.cons_cons _ (.cons _ (.cons_cons _ (.cons_cons _ (.cons_cons _ (List.nil_sublist _))))))
    refine t_take 17 rfl (by kernel_rfl) (by kernel_rfl) (by kernel_rfl) (fun _ _ _ h => h) (fun w HS => r_as) HS ?_
    refine t_done (by kernel_rfl) ?_
    clear HS
    repeat refine c_seq ?_
    refine c_region ?_
    refine l_op (o_val (r_mv) ?_)
    refine l_op (o_val (r_fa rfl fo95_6) ?_)
    refine l_op (o_val (r_slAo (o := 6) (h := 32) (m := 32) (lv := none) (hv := none) (mv := none) rfl ar31 rfl rfl rfl (fun w => sbn w)) ?_)
    refine l_op (o_appB (s := (⟨some ⟨b1, 6, none⟩, 32, 32, e.of_⟩ : Sl)) (l' := be (UInt64.ofNat (e.seq).toNat).toNat 8 ++ (be (UInt64.ofNat (e.tick).toNat).toNat 8) ++ (be (e.serial).toNat 8) ++ ([UInt8.ofNat ((e.tenant).length)]) ++ e.tenant ++ ([UInt8.ofNat ((e.do_).toNat), UInt8.ofNat ((e.status / 256).toNat), UInt8.ofNat ((e.status % 256).toNat)]) ++ e.of_) (len' := 25 + ((e.tenant).length) + 3 + 32) rfl rfl H (i := 1) rfl sl29 Try.underlying29 rfl rfl (H.slTail (i := 0) (o := 6) (pre := [VI e.seq, VI e.tick, V64 e.serial, .string ⟨(e.tenant).toArray⟩, VI e.do_, VI e.status]) rfl rfl (show (e.of_).length = 32 from he) (by decide)) (by omega) (fun a68 c69 w H => ?_))
    replace H : Hp _ w _ ([_, .own a68 (25 + ((e.tenant).length) + 3 + 32) c69 ((be (UInt64.ofNat (e.seq).toNat).toNat 8 ++ (be (UInt64.ofNat (e.tick).toNat).toNat 8) ++ (be (e.serial).toNat 8) ++ ([UInt8.ofNat ((e.tenant).length)]) ++ e.tenant ++ ([UInt8.ofNat ((e.do_).toNat), UInt8.ofNat ((e.status / 256).toNat), UInt8.ofNat ((e.status % 256).toNat)]) ++ e.of_).map V8) 5 1, _, _, _, _]) := H
    refine l_op (o_val (r_as) ?_)
    refine l_op (o_val (r_as) ?_)
    first | refine l_end ?_ | refine l_nil ?_
    refine c_ret ?_
    try dsimp only [Exit.then, Exit.inBlock]
    refine e_retN (vs := [.slice (hd a68) (25 + ((e.tenant).length) + 3 + 32) c69, VI 0]) _ Try.results86 rfl (resT (v := .slice (hd a68) (25 + ((e.tenant).length) + 3 + 32) c69) rfl (resT (v := VI 0) rfl (resZ))) ?_
    refine ⟨_, rfl, ?_⟩
    have e1 : be (UInt64.ofNat (e.seq).toNat).toNat 8 ++ (be (UInt64.ofNat (e.tick).toNat).toNat 8) ++ (be (e.serial).toNat 8) ++ ([UInt8.ofNat ((e.tenant).length)]) ++ e.tenant ++ ([UInt8.ofNat ((e.do_).toNat), UInt8.ofNat ((e.status / 256).toNat), UInt8.ofNat ((e.status % 256).toNat)]) ++ e.of_ = entB e := by
      first | (simp only [entB, q1, q2]; simp; done) | (simp only [entB, q1, q2, au_be1 _ (show e.do_.toNat ≤ 255 by omega), au_be2, show (e.status / 256).toNat = e.status.toNat / 256 by omega, show (e.status % 256).toNat = e.status.toNat % 256 by omega]; simp; done)
    rw [e1] at H
    have hh := (H.ownLen (i := 1) rfl).1
    exact ⟨_, _, _, rfl, by simpa using hh, H.sub (.cons _ (.cons_cons _ (List.nil_sublist _)))⟩
theorem aLink_ok (w0 : World) (h : List UInt8) (hh : h.length = 32) (e : Ent) (he : e.of_.length = 32) (hb : e.bd) (hm : mayE e = true) :
    Ret Try.prog 87 [.agg ((h).map V8).toArray, .agg ([VI e.seq, VI e.tick, V64 e.serial, .string ⟨(e.tenant).toArray⟩, VI e.do_, VI e.status] ++ (e.of_).map V8).toArray] w0 fun v w' => v = .tuple #[.agg ((linkF h e).map V8).toArray, VI 0] ∧ Hp w0 w' [] [] := by
  refine ret_mk Try.func87 rfl Try.ntmps87 (by simp) ?_
  have H := Hp.refl w0 []
  have hm2 := (mayE_iff e).1 hm
  have hbl := entB_len e he
  repeat refine c_seq ?_
  refine c_region ?_
  refine l_op (o_box (v := .agg ((h).map V8).toArray) H rfl (fun b1 w H hb1 => ?_))
  replace H : Hp _ w _ ([.blk b1 ((h).map V8) 31]) := H
  refine l_op (o_box (v := .agg ([VI e.seq, VI e.tick, V64 e.serial, .string ⟨(e.tenant).toArray⟩, VI e.do_, VI e.status] ++ (e.of_).map V8).toArray) H rfl (fun b2 w H hb2 => ?_))
  replace H : Hp _ w _ ([_, .blk b2 ([VI e.seq, VI e.tick, V64 e.serial, .string ⟨(e.tenant).toArray⟩, VI e.do_, VI e.status] ++ (e.of_).map V8) 95]) := H
  refine l_op (o_alloc H zc31 (fun b3 w H hb3 => ?_))
  replace H : Hp _ w _ ([_, _, .blk b3 ((List.replicate 32 (0 : UInt8)).map V8) 31]) := H
  refine l_op (o_val (r_as) ?_)
  first | refine l_end ?_ | refine l_nil ?_
  repeat refine c_seq ?_
  refine c_region ?_
  refine l_op (o_val (r_ldA (C := [VI e.seq, VI e.tick, V64 e.serial, .string ⟨(e.tenant).toArray⟩, VI e.do_, VI e.status] ++ (e.of_).map V8) H (i := 1) rfl rfl rt95 (by rw [List.length_append, List.length_map, (show (e.of_).length = 32 from he)]; rfl)) ?_)
  have hk4 : (mayE e) = true := hm
  refine l_op (o_callR Try.func85 rfl rfl rfl (aBytes_ok _ e (show (e.of_).length = 32 from he) hb hk4) ?_)
  rintro _ w ⟨a5, n6, c7, rfl, hn8, Hc⟩
  replace H : Hp _ w _ ([_, _, _, .own a5 n6 c7 ((entB e).map V8) 5 1]) := H.call Hc
  clear Hc
  refine l_op (o_val (r_mv) ?_)
  refine l_op (o_val (r_ext rfl rfl) ?_)
  refine l_op (o_val (r_ext rfl rfl) ?_)
  refine l_op (o_val (r_as) ?_)
  refine l_op (o_val (r_as) ?_)
  first | refine l_end ?_ | refine l_nil ?_
  repeat refine c_seq ?_
  refine c_region ?_
  refine l_op (o_val (r_mv) ?_)
  refine l_op (o_val (r_bin (a := 0) (b := 0) rfl rfl (fun _ => b_neqB false (decide_eq_false (by decide)))) ?_)
  first | refine l_end ?_ | refine l_nil ?_
  repeat refine c_seq ?_
  refine c_no rfl ?_
  refine c_skip ?_
  repeat refine c_seq ?_
  refine c_region ?_
  refine l_op (o_val (r_slA (h := 32) (m := 32) (lv := none) (hv := none) (mv := none) rfl ar31 rfl rfl rfl (fun w => sbn w)) ?_)
  refine l_op (o_val (r_mv) ?_)
  refine l_op (o_bslV ([(⟨some ⟨b1, 0, none⟩, 32, 32, h⟩ : Sl).v, .slice (hd a5) n6 c7]) H sl22 zc29 rfl (by simp [Value.oneCell', Sl.v]) rfl (by decide) (fun b9 w H hb9 => ?_))
  replace H : Hp _ w _ ([_, _, _, _, .own (some b9) 2 2 ([(⟨some ⟨b1, 0, none⟩, 32, 32, h⟩ : Sl).v, .slice (hd a5) n6 c7]) 29 1]) := H
  refine l_op (o_callR Try.func37 rfl rfl rfl (sha2_ret _ _ (⟨some ⟨b1, 0, none⟩, 32, 32, h⟩ : Sl) (⟨hd a5, n6, c7, entB e⟩) (H.own (i := 4) rfl) (H.slBlkA (i := 0) rfl 32 (show (h).length = 32 from hh) (by decide)) (H.slOwn (i := 3) rfl)) ?_)
  rintro _ w ⟨rfl, Hc⟩
  replace H : Hp _ w _ ([_, _, _, _, _]) := H.call Hc
  clear Hc
  refine l_op (o_stA (l' := sha256 (h ++ (entB e))) H (i := 2) rfl rfl rfl cs31 (show (List.replicate 32 (0 : UInt8)).length = 32 from (List.length_replicate ..)) (show (sha256 (h ++ (entB e))).length = 32 from sha256_len _) (fun w H => ?_))
  replace H : Hp _ w _ ([_, _, .blk b3 ((sha256 (h ++ (entB e))).map V8) 31, _, _]) := H
  refine l_op (o_val (r_as) ?_)
  first | refine l_end ?_ | refine l_nil ?_
  refine c_ret ?_
  try dsimp only [Exit.then, Exit.inBlock]
  refine e_retN (vs := [.agg ((sha256 (h ++ (entB e))).map V8).toArray, VI 0]) _ Try.results87 rfl (H.resA (l := sha256 (h ++ (entB e))) (i := 2) rfl rfl rt31 (show (sha256 (h ++ (entB e))).length = 32 from sha256_len _) (resT (v := VI 0) rfl (resZ))) ?_
  refine ⟨_, rfl, ?_⟩
  exact ⟨rfl, H.sub (List.nil_sublist _)⟩
theorem aLinkr_ok (w0 : World) (h : List UInt8) (hh : h.length = 32) (e : Ent) (he : e.of_.length = 32) (hb : e.bd) (hm : mayE e = true) :
    Ret Try.prog 88 [.agg ((h).map V8).toArray, .agg ([VI e.seq, VI e.tick, V64 e.serial, .string ⟨(e.tenant).toArray⟩, VI e.do_, VI e.status] ++ (e.of_).map V8).toArray] w0 fun v w' => v = .tuple #[.agg ((linkF h e).map V8).toArray, VI 0] ∧ Hp w0 w' [] [] := by
  refine ret_mk Try.func88 rfl Try.ntmps88 (by simp) ?_
  have H := Hp.refl w0 []
  have hm2 := (mayE_iff e).1 hm
  have hbl := entB_len e he
  repeat refine c_seq ?_
  refine c_region ?_
  refine l_op (o_box (v := .agg ((h).map V8).toArray) H rfl (fun b1 w H hb1 => ?_))
  replace H : Hp _ w _ ([.blk b1 ((h).map V8) 31]) := H
  refine l_op (o_box (v := .agg ([VI e.seq, VI e.tick, V64 e.serial, .string ⟨(e.tenant).toArray⟩, VI e.do_, VI e.status] ++ (e.of_).map V8).toArray) H rfl (fun b2 w H hb2 => ?_))
  replace H : Hp _ w _ ([_, .blk b2 ([VI e.seq, VI e.tick, V64 e.serial, .string ⟨(e.tenant).toArray⟩, VI e.do_, VI e.status] ++ (e.of_).map V8) 95]) := H
  refine l_op (o_alloc H zc31 (fun b3 w H hb3 => ?_))
  replace H : Hp _ w _ ([_, _, .blk b3 ((List.replicate 32 (0 : UInt8)).map V8) 31]) := H
  refine l_op (o_val (r_as) ?_)
  first | refine l_end ?_ | refine l_nil ?_
  repeat refine c_seq ?_
  refine c_region ?_
  refine l_op (o_val (r_ldA (C := [VI e.seq, VI e.tick, V64 e.serial, .string ⟨(e.tenant).toArray⟩, VI e.do_, VI e.status] ++ (e.of_).map V8) H (i := 1) rfl rfl rt95 (by rw [List.length_append, List.length_map, (show (e.of_).length = 32 from he)]; rfl)) ?_)
  have hk4 : (mayE e) = true := hm
  refine l_op (o_callR Try.func86 rfl rfl rfl (aBytesr_ok _ e (show (e.of_).length = 32 from he) hb hk4) ?_)
  rintro _ w ⟨a5, n6, c7, rfl, hn8, Hc⟩
  replace H : Hp _ w _ ([_, _, _, .own a5 n6 c7 ((entB e).map V8) 5 1]) := H.call Hc
  clear Hc
  refine l_op (o_val (r_mv) ?_)
  refine l_op (o_val (r_ext rfl rfl) ?_)
  refine l_op (o_val (r_ext rfl rfl) ?_)
  refine l_op (o_val (r_as) ?_)
  refine l_op (o_val (r_as) ?_)
  first | refine l_end ?_ | refine l_nil ?_
  repeat refine c_seq ?_
  refine c_region ?_
  refine l_op (o_val (r_mv) ?_)
  refine l_op (o_val (r_bin (a := 0) (b := 0) rfl rfl (fun _ => b_neqB false (decide_eq_false (by decide)))) ?_)
  first | refine l_end ?_ | refine l_nil ?_
  repeat refine c_seq ?_
  refine c_no rfl ?_
  refine c_skip ?_
  repeat refine c_seq ?_
  refine c_region ?_
  refine l_op (o_val (r_slA (h := 32) (m := 32) (lv := none) (hv := none) (mv := none) rfl ar31 rfl rfl rfl (fun w => sbn w)) ?_)
  refine l_op (o_val (r_mv) ?_)
  refine l_op (o_bslV ([(⟨some ⟨b1, 0, none⟩, 32, 32, h⟩ : Sl).v, .slice (hd a5) n6 c7]) H sl22 zc29 rfl (by simp [Value.oneCell', Sl.v]) rfl (by decide) (fun b9 w H hb9 => ?_))
  replace H : Hp _ w _ ([_, _, _, _, .own (some b9) 2 2 ([(⟨some ⟨b1, 0, none⟩, 32, 32, h⟩ : Sl).v, .slice (hd a5) n6 c7]) 29 1]) := H
  refine l_op (o_callR Try.func36 rfl rfl rfl (of2_2_ret _ 2 (⟨some ⟨b1, 0, none⟩, 32, 32, h⟩ : Sl) (⟨hd a5, n6, c7, entB e⟩) (H.own (i := 4) rfl) (H.slBlkA (i := 0) rfl 32 (show (h).length = 32 from hh) (by decide)) (H.slOwn (i := 3) rfl) (by (try dsimp only); omega)) ?_)
  rintro _ w ⟨rfl, Hc⟩
  replace H : Hp _ w _ ([_, _, _, _, _]) := H.call Hc
  clear Hc
  refine l_op (o_stA (l' := sha256 (h ++ (entB e))) H (i := 2) rfl rfl rfl cs31 (show (List.replicate 32 (0 : UInt8)).length = 32 from (List.length_replicate ..)) (show (sha256 (h ++ (entB e))).length = 32 from sha256_len _) (fun w H => ?_))
  replace H : Hp _ w _ ([_, _, .blk b3 ((sha256 (h ++ (entB e))).map V8) 31, _, _]) := H
  refine l_op (o_val (r_as) ?_)
  first | refine l_end ?_ | refine l_nil ?_
  refine c_ret ?_
  try dsimp only [Exit.then, Exit.inBlock]
  refine e_retN (vs := [.agg ((sha256 (h ++ (entB e))).map V8).toArray, VI 0]) _ Try.results88 rfl (H.resA (l := sha256 (h ++ (entB e))) (i := 2) rfl rfl rt31 (show (sha256 (h ++ (entB e))).length = 32 from sha256_len _) (resT (v := VI 0) rfl (resZ))) ?_
  refine ⟨_, rfl, ?_⟩
  exact ⟨rfl, H.sub (List.nil_sublist _)⟩
end Go.Proofs.Ytjmbbhnpfmblpaa
namespace Go.Proofs.Ytjmbbhnpfmblpaa
open Go Go.ChangeShapes Go.WideShapes Go.ChangeAt Go.RowKit Go.Deep Go.ChangeMaps
set_option maxRecDepth 100000
section
variable {H : Type} {enc : TypeId × Value → H} {W : World} {base : Nat} {spare : Nat → Bool} {held : Bool}
instance : Inhabited Ent := ⟨⟨0, 0, 0, [], 0, 0, []⟩⟩
theorem cellsEnt : Try.prog.cellsOf 95 = 38 := by kernel_rfl
theorem trod_ent (fuel : Nat) (cs : List Value) (x : DataW H × List MemPlace) (h : DataW.trod enc Try.prog W base spare held fuel 95 cs = some x) :
    ∃ c : Ent, cs = entE c ∧ (entE c).length = 38 ∧ c.bd := by
  obtain ⟨xs, n, _, _, hl, hx, hi⟩ := DataW.trod_struct Try.underlying95 h
  have hs : ∀ i, i < 7 → ∃ y, xs[i]? = some y := fun i hi => ⟨_, List.getElem?_eq_getElem (by rw [hx]; exact hi)⟩
  obtain ⟨y0, e0⟩ := hs 0 (by decide)
  obtain ⟨y1, e1⟩ := hs 1 (by decide)
  obtain ⟨y2, e2⟩ := hs 2 (by decide)
  obtain ⟨y3, e3⟩ := hs 3 (by decide)
  obtain ⟨y4, e4⟩ := hs 4 (by decide)
  obtain ⟨y5, e5⟩ := hs 5 (by decide)
  obtain ⟨y6, e6⟩ := hs 6 (by decide)
  have h0 := (hi 0 _ rfl).trans e0
  have h1 := (hi 1 _ rfl).trans e1
  have h2 := (hi 2 _ rfl).trans e2
  have h3 := (hi 3 _ rfl).trans e3
  have h4 := (hi 4 _ rfl).trans e4
  have h5 := (hi 5 _ rfl).trans e5
  have h6 := (hi 6 _ rfl).trans e6
  obtain ⟨a0, q0, _, w0⟩ := DataW.trod_int (t := 2) (k := .i64) (by kernel_rfl) h0
  obtain ⟨a1, q1, _, w1⟩ := DataW.trod_int (t := 2) (k := .i64) (by kernel_rfl) h1
  obtain ⟨a2, q2⟩ := open_u64v (t := 35) (by kernel_rfl) h2
  obtain ⟨a3, q3, _, _⟩ := DataW.trod_string (t := 9) (by kernel_rfl) h3
  obtain ⟨a4, q4, _, _⟩ := DataW.trod_int (t := 3) (k := .i64) (by kernel_rfl) h4
  obtain ⟨a5, q5, _, _⟩ := DataW.trod_int (t := 3) (k := .i64) (by kernel_rfl) h5
  obtain ⟨a6, q6, l6⟩ := trod_id h6
  have f1 : Try.prog.cellsOf 35 = 1 := by kernel_rfl
  have f2 : Try.prog.cellsOf 9 = 1 := by kernel_rfl
  have f3 : Try.prog.cellsOf 3 = 1 := by kernel_rfl
  have f4 : Try.prog.cellsOf 2 = 1 := by kernel_rfl
  replace q0 : (cs.drop 0).take (Try.prog.cellsOf 2) = _ := q0
  rw [f4] at q0
  replace q1 : (cs.drop 1).take (Try.prog.cellsOf 2) = _ := q1
  rw [f4] at q1
  replace q2 : (cs.drop 2).take (Try.prog.cellsOf 35) = _ := q2
  rw [f1] at q2
  replace q3 : (cs.drop 3).take (Try.prog.cellsOf 9) = _ := q3
  rw [f2] at q3
  replace q4 : (cs.drop 4).take (Try.prog.cellsOf 3) = _ := q4
  rw [f3] at q4
  replace q5 : (cs.drop 5).take (Try.prog.cellsOf 3) = _ := q5
  rw [f3] at q5
  replace q6 : (cs.drop 6).take (Try.prog.cellsOf 31) = _ := q6
  rw [cellsId] at q6
  rw [cellsEnt] at hl
  have s : ∀ k v, (cs.drop k).take 1 = [v] → cs.drop k = v :: cs.drop (k + 1) := fun k v h => by
    have := List.take_append_drop 1 (cs.drop k)
    rw [h, List.drop_drop] at this
    exact this.symm
  have b0 := bounds_i64 w0
  have b1 := bounds_i64 w1
  refine ⟨⟨a0, a1, a2, a3.data.toList, a4, a5, a6⟩, ?_, ent_len l6, ⟨b0.2, b1.2⟩⟩
  have z : cs.drop 0 = [VI a0, VI a1, V64 a2, .string a3, VI a4, VI a5] ++ a6.map V8 := by
    rw [s 0 _ q0, s (0 + 1) _ q1, s (0 + 1 + 1) _ q2, s (0 + 1 + 1 + 1) _ q3, s (0 + 1 + 1 + 1 + 1) _ q4, s (0 + 1 + 1 + 1 + 1 + 1) _ q5, ← q6, List.take_of_length_le (by simp; omega)]
    rfl
  rw [List.drop_zero] at z
  exact z
theorem open_ents {base0 : Nat} {v : Value} {d : DataW H} {p : List MemPlace} (hval : Value.okWide Try.prog W .any base0 97 v) (h : DataW.Trod enc Try.prog W base spare held 97 v d p) :
    ∃ g : Gl Ent, v = g.v ∧ g.ok entE 38 W ∧ ∀ c ∈ g.l, c.bd := by
  obtain ⟨a, len, cap, rfl⟩ := okWide_slice Try.underlying97 hval
  obtain ⟨fuel, hf⟩ := h
  obtain ⟨g, hg, hok⟩ := open_rowsP Try.underlying97 cellsEnt (by decide) trod_ent hf
  refine ⟨g, ?_, hok⟩
  simpa [Value.cells] using hg
end
end Go.Proofs.Ytjmbbhnpfmblpaa
namespace Go.Proofs.Ytjmbbhnpfmblpaa
open Go
set_option maxRecDepth 100000
theorem b_shl8 {P : Program} {w : World} {yk : IntKind} {x : Nat} (h : x < 256) : (Op.shift .shl .i64 (x : Int) yk 8).run P w = .ok (VI ((x * 256 : Nat) : Int)) w := by
  have := b_shl_i64 (P := P) (w := w) (yk := yk) (a := (x : Int)) (c := 8) (by omega) (by omega) (by omega)
  rw [show (x : Int) * 2 ^ 8 = ((x * 256 : Nat) : Int) by omega] at this
  exact this
theorem au_hb : ∀ n x (b : UInt8), be (x * 256 + b.toNat) (n + 1) = be x n ++ [b] := by
  intro n
  induction n with
  | zero => intro x b; simp [be]
  | succ n ih =>
    intro x b
    rw [be, ih x b, be, List.cons_append]
    congr 2
    have := u8_lt b
    rw [Nat.pow_succ, Nat.mul_comm (256 ^ n) 256, ← Nat.div_div_eq_div_mul]
    congr 1; omega
theorem au_be_ofbe : ∀ l : List UInt8, be (ofbe l) l.length = l := by
  suffices h : ∀ n (l : List UInt8), l.length = n → be (ofbe l) n = l from fun l => h _ l rfl
  intro n
  induction n with
  | zero => intro l hl; rw [List.length_eq_zero_iff.1 hl]; rfl
  | succ n ih =>
    intro l hl
    obtain ⟨r, b, rfl⟩ : ∃ r b, l = r ++ [b] := ⟨l.dropLast, l.getLast (by intro e; subst e; simp at hl), (List.dropLast_concat_getLast _).symm⟩
    rw [ofbe_snoc, au_hb, ih r (by simpa using hl)]
theorem au_ofbe_be (v : Nat) : ∀ n, v < 256 ^ n → ofbe (be v n) = v := by
  intro n
  induction n generalizing v with
  | zero => intro h; simp at h; subst h; rfl
  | succ n ih =>
    intro h
    have e : v = v / 256 * 256 + (UInt8.ofNat v).toNat := by rw [UInt8.toNat_ofNat']; omega
    rw [e, au_hb, ofbe_snoc, ih (v / 256) (by rw [Nat.pow_succ] at h; omega)]
theorem au_num_cut (l : List UInt8) (a : Nat) (h : a + 8 ≤ l.length) : be (num l a 8).toNat 8 = (l.drop a).take 8 := by
  have hl : ((l.drop a).take 8).length = 8 := by simp; omega
  have h2 := ofbe_lt ((l.drop a).take 8)
  rw [hl] at h2
  have e := au_be_ofbe ((l.drop a).take 8)
  rw [hl] at e
  rw [num, ofNat_nat _ (by omega), e]
theorem au_getD (l : List UInt8) (a : Nat) (h : a < l.length) : l.drop a = l.getD a 0 :: l.drop (a + 1) := by
  rw [List.drop_eq_getElem_cons h, List.getD_eq_getElem?_getD, List.getElem?_eq_getElem h]; rfl
theorem au_ofbe_cons (l : List UInt8) (c : UInt8) : ofbe (c :: l) = c.toNat * 256 ^ l.length + ofbe l := by
  suffices h : ∀ n (l : List UInt8), l.length = n → ofbe (c :: l) = c.toNat * 256 ^ l.length + ofbe l from h _ l rfl
  intro n
  induction n with
  | zero => intro l hl; rw [List.length_eq_zero_iff.1 hl]; simp [ofbe]
  | succ n ih =>
    intro l hl
    obtain ⟨r, b, rfl⟩ : ∃ r b, l = r ++ [b] := ⟨l.dropLast, l.getLast (by intro e; subst e; simp at hl), (List.dropLast_concat_getLast _).symm⟩
    rw [← List.cons_append, ofbe_snoc, ih r (by simpa using hl), ofbe_snoc, List.length_append, List.length_singleton, Nat.pow_succ, Nat.add_mul, Nat.mul_assoc]
    omega
theorem small_aux (K x y : Nat) (h1 : x * K ≤ 127 * K) (h2 : y < K) (h3 : K = 72057594037927936) : x * K + y ≤ 9223372036854775807 := by
  generalize x * K = z at *
  omega
/-- a number of eight bytes whose first is below 128. -/
theorem num_small (l : List UInt8) (a : Nat) (h : a + 8 ≤ l.length) (h1 : (l.getD a 0).toNat ≤ 127) : (num l a 8).toNat ≤ 9223372036854775807 := by
  have e : (l.drop a).take 8 = l.getD a 0 :: (l.drop (a + 1)).take 7 := by rw [au_getD l a (by omega)]; rfl
  have hl : ((l.drop (a + 1)).take 7).length = 7 := by simp; omega
  have h2 := ofbe_lt ((l.drop (a + 1)).take 7)
  rw [hl] at h2
  have hm : (l.getD a 0).toNat * 256 ^ 7 ≤ 127 * 256 ^ 7 := Nat.mul_le_mul_right _ h1
  have e7 : (256 : Nat) ^ 7 = 72057594037927936 := by decide
  have hx : ofbe (l.getD a 0 :: (l.drop (a + 1)).take 7) ≤ 9223372036854775807 := by rw [au_ofbe_cons, hl]; exact small_aux _ _ _ hm h2 e7
  rw [num, e, ofNat_nat _ (by omega)]
  exact hx
def aN (b : List UInt8) : Nat := (b.getD 24 0).toNat
/-- no entry's bytes begin so. -/
def badE (b : List UInt8) : Prop := (0 < b.length ∧ 127 < (b.getD 0 0).toNat) ∨ (8 < b.length ∧ 127 < (b.getD 8 0).toNat) ∨ (24 < b.length ∧ 16 < aN b) ∨ (24 < b.length ∧ 26 + aN b < b.length ∧ 3 < (b.getD (26 + aN b) 0).toNat) ∨ (24 < b.length ∧ 27 + aN b < b.length ∧ 999 < (b.getD (26 + aN b) 0).toNat * 256 + (b.getD (27 + aN b) 0).toNat)
instance (b : List UInt8) : Decidable (badE b) := by unfold badE; infer_instance
def entAt (b : List UInt8) : Ent := ⟨((num b 0 8).toNat : Int), ((num b 8 8).toNat : Int), num b 16 8, (b.drop 25).take (aN b), ((b.getD (25 + aN b) 0).toNat : Int), (((b.getD (26 + aN b) 0).toNat * 256 + (b.getD (27 + aN b) 0).toNat : Nat) : Int), (b.drop (28 + aN b)).take 32⟩
def E0 : Ent := ⟨0, 0, 0, [], 0, 0, List.replicate 32 0⟩
def takeC (b : List UInt8) : Nat := if badE b then 4 else if b.length < 25 ∨ b.length < 60 + aN b then 3 else 0
def takeE (b : List UInt8) : Ent := if takeC b = 0 then entAt b else E0
def takeN (b : List UInt8) : Nat := if takeC b = 0 then 60 + aN b else 0
theorem takeC_ok (b : List UInt8) : takeC b = 0 ↔ ¬ badE b ∧ 25 ≤ b.length ∧ 60 + aN b ≤ b.length := by
  unfold takeC
  split
  · rename_i h; simp [h]
  · rename_i h
    split
    · rename_i h2; constructor
      · intro h3; cases h3
      · rintro ⟨_, h3, h4⟩; omega
    · rename_i h2; exact ⟨fun _ => ⟨h, by omega, by omega⟩, fun _ => rfl⟩
theorem takeE_of (b : List UInt8) : (takeE b).of_.length = 32 := by
  unfold takeE
  split
  · rename_i h
    have := (takeC_ok b).1 h
    simp only [entAt]; simp; omega
  · simp [E0]
theorem takeN_le (b : List UInt8) : takeN b ≤ b.length := by
  unfold takeN
  split
  · rename_i h; exact ((takeC_ok b).1 h).2.2
  · exact Nat.zero_le _
theorem take_ok (b : List UInt8) (h : takeC b = 0) : takeE b = entAt b ∧ takeN b = 60 + aN b ∧ mayE (entAt b) = true ∧ (entAt b).bd ∧ entB (entAt b) = b.take (60 + aN b) ∧ (entAt b).tenant.length = aN b := by
  obtain ⟨h1, h2, h3⟩ := (takeC_ok b).1 h
  unfold badE at h1
  have hten : ((b.drop 25).take (aN b)).length = aN b := by simp; omega
  have k0 := num_small b 0 (by omega) (by omega)
  have k8 := num_small b 8 (by omega) (by omega)
  have hd := u8_lt (b.getD (25 + aN b) 0)
  have hd2 := u8_lt (b.getD (27 + aN b) 0)
  refine ⟨by rw [takeE, if_pos h], by rw [takeN, if_pos h], ?_, ⟨?_, ?_⟩, ?_, hten⟩
  · rw [mayE_iff]; simp only [entAt]; rw [hten]; omega
  · simp only [entAt]; omega
  · simp only [entAt]; omega
  · simp only [entB, entAt, hten, Int.toNat_natCast]
    have ts : ∀ a n m, a + n = m → b.drop a = (b.drop a).take n ++ b.drop m := fun a n m e => by rw [← e, ← List.drop_drop, List.take_append_drop]
    have o24 : UInt8.ofNat (aN b) = b.getD 24 0 := UInt8.ofNat_toNat
    have o25 : be (b.getD (25 + aN b) 0).toNat 1 = [b.getD (25 + aN b) 0] := by rw [au_be1 _ (by omega), UInt8.ofNat_toNat]
    have o26 : be ((b.getD (26 + aN b) 0).toNat * 256 + (b.getD (27 + aN b) 0).toNat) 2 = [b.getD (26 + aN b) 0, b.getD (27 + aN b) 0] := by
      rw [au_be2, show ((b.getD (26 + aN b) 0).toNat * 256 + (b.getD (27 + aN b) 0).toNat) / 256 = (b.getD (26 + aN b) 0).toNat by omega, show ((b.getD (26 + aN b) 0).toNat * 256 + (b.getD (27 + aN b) 0).toNat) % 256 = (b.getD (27 + aN b) 0).toNat by omega, UInt8.ofNat_toNat, UInt8.ofNat_toNat]
    have e : b.take (60 + aN b) = (b.drop 0).take 8 ++ ((b.drop 8).take 8 ++ ((b.drop 16).take 8 ++ (b.getD 24 0 :: ((b.drop 25).take (aN b) ++ (b.getD (25 + aN b) 0 :: b.getD (26 + aN b) 0 :: b.getD (27 + aN b) 0 :: (b.drop (28 + aN b)).take 32))))) := by
      have s : b = (b.drop 0).take 8 ++ ((b.drop 8).take 8 ++ ((b.drop 16).take 8 ++ (b.getD 24 0 :: ((b.drop 25).take (aN b) ++ (b.getD (25 + aN b) 0 :: b.getD (26 + aN b) 0 :: b.getD (27 + aN b) 0 :: ((b.drop (28 + aN b)).take 32 ++ b.drop (60 + aN b))))))) := by
        have s0 := ts 0 8 8 rfl
        have s1 := ts 8 8 16 rfl
        have s2 := ts 16 8 24 rfl
        have s3 := au_getD b 24 (by omega)
        have s4 := ts 25 (aN b) (25 + aN b) rfl
        have s5 := au_getD b (25 + aN b) (by omega)
        have s6 := au_getD b (26 + aN b) (by omega)
        have s7 := au_getD b (27 + aN b) (by omega)
        have s8 := ts (28 + aN b) 32 (60 + aN b) (by omega)
        rw [show 25 + aN b + 1 = 26 + aN b by omega] at s5
        rw [show 26 + aN b + 1 = 27 + aN b by omega] at s6
        rw [show 27 + aN b + 1 = 28 + aN b by omega] at s7
        rw [← s8, ← s7, ← s6, ← s5, ← s4, ← s3, ← s2, ← s1, ← s0, List.drop_zero]
      refine List.append_cancel_right (bs := b.drop (60 + aN b)) ?_
      rw [List.take_append_drop]
      conv => lhs; rw [s]
      simp
    rw [au_num_cut b 0 (by omega), au_num_cut b 8 (by omega), au_num_cut b 16 (by omega), o24, o25, o26, e]
    simp
end Go.Proofs.Ytjmbbhnpfmblpaa
namespace Go.Proofs.Ytjmbbhnpfmblpaa
open Go
set_option maxRecDepth 100000
def v3 (l : List UInt8) (i : Nat) : List Value := (List.range 3).map fun j => V64 (if j < i then num l (8 * j) 8 else 0)
theorem v3_set (l : List UInt8) (i : Nat) (h : i < 3) : (v3 l i).set i (V64 (num l (8 * i) 8)) = v3 l (i + 1) := by
  apply List.ext_getElem
  · simp [v3]
  · intro j h1 h2
    simp only [v3, List.getElem_set, List.getElem_map, List.getElem_range]
    by_cases hji : i = j
    · subst hji; rw [if_pos rfl, if_pos (by omega)]
    · rw [if_neg hji]
      by_cases hlt : j < i
      · rw [if_pos hlt, if_pos (by omega)]
      · rw [if_neg hlt, if_neg (by omega)]
theorem v3_three (l : List UInt8) : v3 l 3 = [V64 (num l 0 8), V64 (num l 8 8), V64 (num l 16 8)] := by rfl
theorem begins_ret (w0 : World) (s : Sl) (hs : s.ok w0) :
    Ret Try.prog 128 [s.v] w0 fun v w' => v = .bool (decide (¬ badE s.l)) ∧ Hp w0 w' [] [] := by
  refine ret_mk Try.func128 rfl Try.ntmps128 (by simp) ?_
  have H := Hp.refl w0 []
  have hsl := hs.ln
  have hse := hs.le
  have hNlt : aN s.l < 256 := u8_lt _
  have hAN : aN s.l = (s.l.getD 24 0).toNat := rfl
  repeat refine c_seq ?_
  refine c_region ?_
  refine l_op (o_val (r_as) ?_)
  first | refine l_end ?_ | refine l_nil ?_
  repeat refine c_seq ?_
  refine c_region ?_
  refine l_op (o_val (r_bld' (cells := #[VI 0, VI 8]) (pv := [(0, VI 0), (1, VI 8)]) bd162 rfl rfl) ?_)
  refine l_op (o_val (r_mv) ?_)
  first | refine l_end ?_ | refine l_nil ?_
  repeat refine c_seq ?_
  refine c_block ?_
  repeat refine c_seq ?_
  refine c_loop (fun (i : Nat) => [(0, s.v), (6, .agg #[VI 0, VI 8]), (7, VI (i : Int))])
    (fun (i : Nat) w => (i ≤ 2 ∧ ∀ j, j < i → ¬ (8 * j < s.len ∧ 127 < (s.l.getD (8 * j) 0).toNat)) ∧ Hp w0 w [] ([]))
    (fun (i : Nat) => 2 - i) 0 ⟨rfl, rfl, rfl, trivial⟩ ⟨⟨by omega, fun j hj => absurd hj (by omega)⟩, H⟩ ?_
  clear H
  rintro i τ w ⟨⟨hi, hall⟩, H⟩
  repeat refine c_seq ?_
  refine c_region ?_
  refine l_op (o_val (r_bin (a := (i : Int)) (b := 2) rfl rfl (fun _ => b_lss)) ?_)
  first | refine l_end ?_ | refine l_nil ?_
  by_cases hc1 : (i : Int) < 2
  ·
   repeat refine c_seq ?_
   refine c_yes (by exact congrArg Value.bool (decide_eq_true hc1)) ?_
   refine c_skip ?_
   repeat refine c_seq ?_
   refine c_block ?_
   repeat refine c_seq ?_
   refine c_region ?_
   refine l_op (o_val (r_idxa (sz := 1) (v := VI (8 * (i : Int))) Try.underlying162 (by kernel_rfl) (by kernel_rfl) rfl rfl (by omega) (by omega) (by rw [Int.toNat_natCast]; rcases (show i = 0 ∨ i = 1 by omega) with rfl | rfl <;> rfl)) ?_)
   refine l_op (o_val (r_as) ?_)
   first | refine l_end ?_ | refine l_nil ?_
   repeat refine c_seq ?_
   refine c_region ?_
   refine l_op (o_val (r_mv) ?_)
   refine l_op (o_val (r_mv) ?_)
   refine l_op (o_val (r_lens el29 rfl) ?_)
   refine l_op (o_val (r_bin (a := 8 * (i : Int)) (b := (s.len : Int)) rfl rfl (fun _ => b_lss)) ?_)
   refine l_op (o_val (r_mv) ?_)
   by_cases hc2 : 8 * (i : Int) < (s.len : Int)
   ·
    refine l_yes rfl rfl (by exact congrArg Value.bool (decide_eq_true hc2)) (o_val (r_mv) ?_)
    refine l_yes rfl rfl (by exact congrArg Value.bool (decide_eq_true hc2)) (o_val (r_mv) ?_)
    have ah5 := ((hs.up H (fun _ => apart_nil _))).addr (by (try simp only [Sl.cut]); omega)
    obtain ⟨ab3, ao4, ah5⟩ := ah5
    refine l_yes rfl rfl (by exact congrArg Value.bool (decide_eq_true hc2)) (o_val (r_isN (8 * i) rfl rfl el29 ah5 (by omega) (by (try simp only [Sl.cut]); omega)) ?_)
    refine l_yes rfl rfl (by exact congrArg Value.bool (decide_eq_true hc2)) (o_val (r_ldB (s := s) (k := 8 * i) (hs.up H (fun _ => apart_nil _)) ah5 rfl ct5 (by (try simp only [Sl.cut]); omega)) ?_)
    refine l_yes rfl rfl (by exact congrArg Value.bool (decide_eq_true hc2)) (o_val (r_bin (a := (((s.l).getD (8 * i) 0).toNat : Int)) (b := 127) rfl rfl (fun _ => b_gtr)) ?_)
    refine l_op (o_val (r_pick (b := true) (congrArg Value.bool (decide_eq_true hc2))) ?_)
    first | refine l_end ?_ | refine l_nil ?_
    by_cases hc6 : 127 < (((s.l).getD (8 * i) 0).toNat : Int)
    ·
     repeat refine c_seq ?_
     refine c_yes (by exact congrArg Value.bool (decide_eq_true hc6)) ?_
     repeat refine c_seq ?_
     refine c_region ?_
     refine l_op (o_val (r_as) ?_)
     first | refine l_end ?_ | refine l_nil ?_
     refine c_ret ?_
     try dsimp only [Exit.then, Exit.inBlock]
     refine e_ret1 (v := .bool false) Try.results128 rfl ?_
     refine ⟨_, rfl, ?_⟩
     refine ⟨?_, H⟩
     have hbad : badE s.l := by
       unfold badE
       rcases (show i = 0 ∨ i = 1 by omega) with rfl | rfl
       · rw [show 8 * 0 = 0 from rfl] at *; omega
       · rw [show 8 * 1 = 8 from rfl] at *; omega
     rw [decide_eq_false (not_not_intro hbad)]
    ·
     repeat refine c_seq ?_
     refine c_no (by exact congrArg Value.bool (decide_eq_false hc6)) ?_
     refine c_skip ?_
     repeat refine c_seq ?_
     refine c_region ?_
     refine l_op (o_val (r_bin (a := (i : Int)) (b := 1) rfl rfl (fun _ => b_add (by omega) (by omega))) ?_)
     refine l_op (o_val (r_mv) ?_)
     first | refine l_end ?_ | refine l_nil ?_
     refine round_end (i + 1) ?_ ?_ ?_
     · exact ⟨rfl, rfl, show VI ((i : Int) + 1) = VI ((i + 1 : Nat) : Int) from congrArg VI (by omega), trivial⟩
     · refine ⟨?_, ?_⟩
       · try dsimp only
         exact ⟨by omega, fun j hj => by
           by_cases hji : j < i
           · exact hall j hji
           · have e : j = i := by omega
             rw [e]; omega⟩
       · exact H
     · show 2 - (i + 1 : Nat) < 2 - i; omega
   ·
    refine l_no rfl rfl (by exact congrArg Value.bool (decide_eq_false hc2)) rfl ?_
    refine l_no rfl rfl (by exact congrArg Value.bool (decide_eq_false hc2)) rfl ?_
    refine l_no rfl rfl (by exact congrArg Value.bool (decide_eq_false hc2)) rfl ?_
    refine l_no rfl rfl (by exact congrArg Value.bool (decide_eq_false hc2)) rfl ?_
    refine l_no rfl rfl (by exact congrArg Value.bool (decide_eq_false hc2)) rfl ?_
    refine l_op (o_val (r_pick (b := false) (congrArg Value.bool (decide_eq_false hc2))) ?_)
    first | refine l_end ?_ | refine l_nil ?_
    repeat refine c_seq ?_
    refine c_no rfl ?_
    refine c_skip ?_
    repeat refine c_seq ?_
    refine c_region ?_
    refine l_op (o_val (r_bin (a := (i : Int)) (b := 1) rfl rfl (fun _ => b_add (by omega) (by omega))) ?_)
    refine l_op (o_val (r_mv) ?_)
    first | refine l_end ?_ | refine l_nil ?_
    refine round_end (i + 1) ?_ ?_ ?_
    · exact ⟨rfl, rfl, show VI ((i : Int) + 1) = VI ((i + 1 : Nat) : Int) from congrArg VI (by omega), trivial⟩
    · refine ⟨?_, ?_⟩
      · try dsimp only
        exact ⟨by omega, fun j hj => by
          by_cases hji : j < i
          · exact hall j hji
          · have e : j = i := by omega
            rw [e]; omega⟩
      · exact H
    · show 2 - (i + 1 : Nat) < 2 - i; omega
  ·
   repeat refine c_seq ?_
   refine c_no (by exact congrArg Value.bool (decide_eq_false hc1)) ?_
   refine c_exit ?_
   repeat refine c_seq ?_
   refine c_region ?_
   refine l_op (o_val (r_mv) ?_)
   refine l_op (o_val (r_lens el29 rfl) ?_)
   refine l_op (o_val (r_bin (a := (s.len : Int)) (b := 24) rfl rfl (fun _ => b_leq)) ?_)
   first | refine l_end ?_ | refine l_nil ?_
   by_cases hc7 : (s.len : Int) ≤ 24
   ·
    repeat refine c_seq ?_
    refine c_yes (by exact congrArg Value.bool (decide_eq_true hc7)) ?_
    repeat refine c_seq ?_
    refine c_region ?_
    refine l_op (o_val (r_as) ?_)
    first | refine l_end ?_ | refine l_nil ?_
    refine c_ret ?_
    try dsimp only [Exit.then, Exit.inBlock]
    refine e_ret1 (v := .bool true) Try.results128 rfl ?_
    refine ⟨_, rfl, ?_⟩
    have h0 : ¬ (0 < s.len ∧ 127 < (s.l.getD 0 0).toNat) := hall 0 (by omega)
    have h8 : ¬ (8 < s.len ∧ 127 < (s.l.getD 8 0).toNat) := hall 1 (by omega)
    refine ⟨?_, H⟩
    have hbad : ¬ badE s.l := by unfold badE; omega
    rw [decide_eq_true hbad]
   ·
    repeat refine c_seq ?_
    refine c_no (by exact congrArg Value.bool (decide_eq_false hc7)) ?_
    refine c_skip ?_
    repeat refine c_seq ?_
    refine c_region ?_
    refine l_op (o_val (r_mv) ?_)
    have ah10 := ((hs.up H (fun _ => apart_nil _))).addr (by (try simp only [Sl.cut]); omega)
    obtain ⟨ab8, ao9, ah10⟩ := ah10
    refine l_op (o_val (r_isN 24 rfl rfl el29 ah10 (by omega) (by (try simp only [Sl.cut]); omega)) ?_)
    refine l_op (o_val (r_ldB (s := s) (k := 24) (hs.up H (fun _ => apart_nil _)) ah10 rfl ct5 (by (try simp only [Sl.cut]); omega)) ?_)
    refine l_op (o_val (r_bin (a := (((s.l).getD 24 0).toNat : Int)) (b := 16) rfl rfl (fun _ => b_gtr)) ?_)
    first | refine l_end ?_ | refine l_nil ?_
    by_cases hc11 : 16 < (((s.l).getD 24 0).toNat : Int)
    ·
     repeat refine c_seq ?_
     refine c_yes (by exact congrArg Value.bool (decide_eq_true hc11)) ?_
     repeat refine c_seq ?_
     refine c_region ?_
     refine l_op (o_val (r_as) ?_)
     first | refine l_end ?_ | refine l_nil ?_
     refine c_ret ?_
     try dsimp only [Exit.then, Exit.inBlock]
     refine e_ret1 (v := .bool false) Try.results128 rfl ?_
     refine ⟨_, rfl, ?_⟩
     have h0 : ¬ (0 < s.len ∧ 127 < (s.l.getD 0 0).toNat) := hall 0 (by omega)
     have h8 : ¬ (8 < s.len ∧ 127 < (s.l.getD 8 0).toNat) := hall 1 (by omega)
     refine ⟨?_, H⟩
     have hbad : badE s.l := by unfold badE; omega
     rw [decide_eq_false (not_not_intro hbad)]
    ·
     repeat refine c_seq ?_
     refine c_no (by exact congrArg Value.bool (decide_eq_false hc11)) ?_
     refine c_skip ?_
     repeat refine c_seq ?_
     refine c_region ?_
     refine l_op (o_val (r_mv) ?_)
     refine l_op (o_val (r_isN 24 rfl rfl el29 ah10 (by omega) (by (try simp only [Sl.cut]); omega)) ?_)
     refine l_op (o_val (r_ldB (s := s) (k := 24) (hs.up H (fun _ => apart_nil _)) ah10 rfl ct5 (by (try simp only [Sl.cut]); omega)) ?_)
     refine l_op (o_val (r_conv Try.underlying5 Try.underlying3 rfl (w_i64_8 _)) ?_)
     refine l_op (o_val (r_bin (a := 26) (b := (aN s.l : Int)) rfl rfl (fun _ => b_add (by omega) (by omega))) ?_)
     refine l_op (o_val (r_as) ?_)
     first | refine l_end ?_ | refine l_nil ?_
     repeat refine c_seq ?_
     refine c_block ?_
     repeat refine c_seq ?_
     refine c_region ?_
     refine l_op (o_val (r_mv) ?_)
     refine l_op (o_val (r_lens el29 rfl) ?_)
     refine l_op (o_val (r_mv) ?_)
     refine l_op (o_val (r_bin (a := 26 + (aN s.l : Int)) (b := 1) rfl rfl (fun _ => b_add (by omega) (by omega))) ?_)
     refine l_op (o_val (r_bin (a := (s.len : Int)) (b := (26 + (aN s.l : Int)) + 1) rfl rfl (fun _ => b_eql)) ?_)
     refine l_op (o_val (r_as) ?_)
     first | refine l_end ?_ | refine l_nil ?_
     by_cases hc12 : (s.len : Int) = (26 + (aN s.l : Int)) + 1
     ·
      repeat refine c_seq ?_
      refine c_yes (by exact congrArg Value.bool (decide_eq_true hc12)) ?_
      repeat refine c_seq ?_
      refine c_region ?_
      refine l_op (o_val (r_mv) ?_)
      refine l_op (o_val (r_mv) ?_)
      refine l_op (o_val (r_isN (26 + aN s.l) rfl rfl el29 ah10 (by omega) (by omega)) ?_)
      refine l_op (o_val (r_ldB (s := s) (k := 26 + aN s.l) (hs.up H (fun _ => apart_nil _)) ah10 rfl ct5 (by (try simp only [Sl.cut]); omega)) ?_)
      refine l_op (o_val (r_bin (a := (((s.l).getD (26 + aN s.l) 0).toNat : Int)) (b := 3) rfl rfl (fun _ => b_leq)) ?_)
      refine l_op (o_val (r_as) ?_)
      first | refine l_end ?_ | refine l_nil ?_
      refine c_ret ?_
      try dsimp only [Exit.then, Exit.inBlock]
      refine e_ret1 (v := .bool (decide ((((s.l).getD (26 + aN s.l) 0).toNat : Int) ≤ 3))) Try.results128 rfl ?_
      refine ⟨_, rfl, ?_⟩
      have h0 : ¬ (0 < s.len ∧ 127 < (s.l.getD 0 0).toNat) := hall 0 (by omega)
      have h8 : ¬ (8 < s.len ∧ 127 < (s.l.getD 8 0).toNat) := hall 1 (by omega)
      refine ⟨?_, H⟩
      congr 1
      rw [decide_eq_decide]
      unfold badE
      omega
     ·
      repeat refine c_seq ?_
      refine c_no (by exact congrArg Value.bool (decide_eq_false hc12)) ?_
      repeat refine c_seq ?_
      refine c_region ?_
      refine l_op (o_val (r_mv) ?_)
      refine l_op (o_val (r_lens el29 rfl) ?_)
      refine l_op (o_val (r_mv) ?_)
      refine l_op (o_val (r_bin (a := 26 + (aN s.l : Int)) (b := 1) rfl rfl (fun _ => b_add (by omega) (by omega))) ?_)
      refine l_op (o_val (r_bin (a := (s.len : Int)) (b := (26 + (aN s.l : Int)) + 1) rfl rfl (fun _ => b_gtr)) ?_)
      refine l_op (o_val (r_as) ?_)
      first | refine l_end ?_ | refine l_nil ?_
      by_cases hc13 : (26 + (aN s.l : Int)) + 1 < (s.len : Int)
      ·
       repeat refine c_seq ?_
       refine c_yes (by exact congrArg Value.bool (decide_eq_true hc13)) ?_
       repeat refine c_seq ?_
       refine c_still mixed (by kernel_rfl) ?_
       replace H := H.drew
       refine s_op (r_mv) ?_
       refine s_op (r_mv) ?_
       refine s_op (r_isN (26 + aN s.l) rfl rfl el29 ah10 (by omega) (by omega)) ?_
       refine s_op (r_ldB (s := s) (k := 26 + aN s.l) (hs.up H (fun _ => apart_nil _)) ah10 rfl ct5 (by (try simp only [Sl.cut]); omega)) ?_
       refine s_op (r_conv Try.underlying5 Try.underlying3 rfl (w_i64_8 _)) ?_
       refine s_op (r_shift (a := (((s.l).getD (26 + aN s.l) 0).toNat : Int)) rfl rfl (.inl rfl) (fun _ => b_shl8 (u8_lt _))) ?_
       refine s_op (r_mv) ?_
       refine s_op (r_mv) ?_
       refine s_op (r_bin (a := 26 + (aN s.l : Int)) (b := 1) rfl rfl (fun _ => b_add (by omega) (by omega))) ?_
       refine s_op (r_isN (27 + aN s.l) rfl rfl el29 ah10 (by omega) (by omega)) ?_
       refine s_op (r_ldB (s := s) (k := 27 + aN s.l) (hs.up H (fun _ => apart_nil _)) ah10 rfl ct5 (by (try simp only [Sl.cut]); omega)) ?_
       refine s_op (r_conv Try.underlying5 Try.underlying3 rfl (w_i64_8 _)) ?_
       refine s_op (r_bin (a := ((((s.l).getD (26 + aN s.l) 0).toNat * 256 : Nat) : Int)) (b := ((((s.l).getD (27 + aN s.l) 0).toNat : Nat) : Int)) rfl rfl (fun _ => b_or_i64 (by omega) (u8_lt _) (by have h1 := u8_lt (s.l.getD (26 + aN s.l) 0); have h2 := u8_lt (s.l.getD (27 + aN s.l) 0); omega))) ?_
       refine s_op (r_bin (a := ((((s.l).getD (26 + aN s.l) 0).toNat * 256 + ((s.l).getD (27 + aN s.l) 0).toNat : Nat) : Int)) (b := 999) rfl rfl (fun _ => b_leq)) ?_
       refine s_op (r_as) ?_
       refine s_nil ?_
       refine c_ret ?_
       try dsimp only [Exit.then, Exit.inBlock]
       refine e_ret1 (v := .bool (decide (((((s.l).getD (26 + aN s.l) 0).toNat * 256 + ((s.l).getD (27 + aN s.l) 0).toNat : Nat) : Int) ≤ 999))) Try.results128 rfl ?_
       refine ⟨_, rfl, ?_⟩
       have h0 : ¬ (0 < s.len ∧ 127 < (s.l.getD 0 0).toNat) := hall 0 (by omega)
       have h8 : ¬ (8 < s.len ∧ 127 < (s.l.getD 8 0).toNat) := hall 1 (by omega)
       refine ⟨?_, H⟩
       congr 1
       rw [decide_eq_decide]
       unfold badE
       omega
      ·
       repeat refine c_seq ?_
       refine c_no (by exact congrArg Value.bool (decide_eq_false hc13)) ?_
       refine c_skip ?_
       repeat refine c_seq ?_
       refine c_region ?_
       refine l_op (o_val (r_as) ?_)
       first | refine l_end ?_ | refine l_nil ?_
       refine c_ret ?_
       try dsimp only [Exit.then, Exit.inBlock]
       refine e_ret1 (v := .bool true) Try.results128 rfl ?_
       refine ⟨_, rfl, ?_⟩
       have h0 : ¬ (0 < s.len ∧ 127 < (s.l.getD 0 0).toNat) := hall 0 (by omega)
       have h8 : ¬ (8 < s.len ∧ 127 < (s.l.getD 8 0).toNat) := hall 1 (by omega)
       refine ⟨?_, H⟩
       have hbad : ¬ badE s.l := by unfold badE; omega
       rw [decide_eq_true hbad]
theorem aTake_ret (w0 : World) (s : Sl) (hs : s.ok w0) (hm : s.len ≤ 1048576) :
    Ret Try.prog 91 [s.v] w0 fun v w' => v = .tuple #[.agg (entE (takeE s.l)).toArray, VI ((takeN s.l : Nat) : Int), VI ((takeC s.l : Nat) : Int)] ∧ Hp w0 w' [] [] := by
  refine ret_mk Try.func91 rfl Try.ntmps91 (by simp) ?_
  have H := Hp.refl w0 []
  have hsl := hs.ln
  have hse := hs.le
  have hNlt : aN s.l < 256 := u8_lt _
  have hAN : aN s.l = (s.l.getD 24 0).toNat := rfl
  repeat refine c_seq ?_
  refine c_region ?_
  refine l_op (o_alloc H zc95 (fun b1 w H hb1 => ?_))
  replace H : Hp _ w _ ([.blk b1 ([VI 0, VI 0, V64 (0 : UInt64), .string ⟨(([] : List UInt8)).toArray⟩, VI 0, VI 0] ++ (List.replicate 32 (0 : UInt8)).map V8) 95]) := H
  refine l_op (o_val (r_as) ?_)
  refine l_op (o_val (r_as) ?_)
  first | refine l_end ?_ | refine l_nil ?_
  repeat refine c_seq ?_
  refine c_region ?_
  refine l_op (o_val (r_mv) ?_)
  refine l_op (o_callR Try.func128 rfl rfl rfl (begins_ret _ s (hs.up H (fun _ => apart_nil _))) ?_)
  rintro _ w ⟨rfl, Hc⟩
  replace H : Hp _ w _ ([_]) := H.call Hc
  clear Hc
  refine l_op (o_val (r_not rfl) ?_)
  first | refine l_end ?_ | refine l_nil ?_
  by_cases hc2 : ¬ badE s.l
  ·
   repeat refine c_seq ?_
   refine c_no (by exact congrArg Value.bool (congrArg not (decide_eq_true hc2))) ?_
   refine c_skip ?_
   repeat refine c_seq ?_
   refine c_region ?_
   refine l_op (o_val (r_mv) ?_)
   refine l_op (o_val (r_lens el29 rfl) ?_)
   refine l_op (o_val (r_bin (a := (s.len : Int)) (b := 24) rfl rfl (fun _ => b_leq)) ?_)
   first | refine l_end ?_ | refine l_nil ?_
   by_cases hc3 : (s.len : Int) ≤ 24
   ·
    repeat refine c_seq ?_
    refine c_yes (by exact congrArg Value.bool (decide_eq_true hc3)) ?_
    repeat refine c_seq ?_
    refine c_region ?_
    refine l_op (o_val (r_bld' (cells := ([VI 0, VI 0, V64 (0 : UInt64), .string ⟨(([] : List UInt8)).toArray⟩, VI 0, VI 0] ++ (List.replicate 32 (0 : UInt8)).map V8).toArray) (pv := []) bd95 rfl rfl) ?_)
    refine l_op (o_stW (C' := [VI 0, VI 0, V64 (0 : UInt64), .string ⟨(([] : List UInt8)).toArray⟩, VI 0, VI 0] ++ (List.replicate 32 (0 : UInt8)).map V8) H (i := 0) rfl rfl rfl cs95 (by simp [Value.oneCell']) (by rw [List.length_append, List.length_map, (show (List.replicate 32 (0 : UInt8)).length = 32 from (List.length_replicate ..))]; rfl) (by rw [List.length_append, List.length_map, (show (List.replicate 32 (0 : UInt8)).length = 32 from (List.length_replicate ..))]; rfl) (fun w H => ?_))
    replace H : Hp _ w _ [_] := H
    refine l_op (o_val (r_as) ?_)
    refine l_op (o_val (r_as) ?_)
    first | refine l_end ?_ | refine l_nil ?_
    refine c_ret ?_
    try dsimp only [Exit.then, Exit.inBlock]
    refine e_retN (vs := [.agg ([VI 0, VI 0, V64 (0 : UInt64), .string ⟨(([] : List UInt8)).toArray⟩, VI 0, VI 0] ++ (List.replicate 32 (0 : UInt8)).map V8).toArray, VI 0, VI 3]) _ Try.results91 rfl (H.resR (C := [VI 0, VI 0, V64 (0 : UInt64), .string ⟨(([] : List UInt8)).toArray⟩, VI 0, VI 0] ++ (List.replicate 32 (0 : UInt8)).map V8) (i := 0) rfl rfl rt95 (by rw [List.length_append, List.length_map, (show (List.replicate 32 (0 : UInt8)).length = 32 from (List.length_replicate ..))]; rfl) (resT (v := VI 0) rfl (resT (v := VI 3) rfl (resZ)))) ?_
    refine ⟨_, rfl, ?_⟩
    have hbad : ¬ badE s.l := hc2
    have hc : takeC s.l = 3 := by unfold takeC; rw [if_neg hbad, if_pos (by omega)]
    refine ⟨?_, H.sub (List.nil_sublist _)⟩
    rw [takeE, takeN, hc]
    rfl
   ·
    repeat refine c_seq ?_
    refine c_no (by exact congrArg Value.bool (decide_eq_false hc3)) ?_
    refine c_skip ?_
    repeat refine c_seq ?_
    refine c_region ?_
    refine l_op (o_val (r_mv) ?_)
    have ah6 := ((hs.up H (fun _ => apart_nil _))).addr (by (try simp only [Sl.cut]); omega)
    obtain ⟨ab4, ao5, ah6⟩ := ah6
    refine l_op (o_val (r_isN 24 rfl rfl el29 ah6 (by omega) (by (try simp only [Sl.cut]); omega)) ?_)
    refine l_op (o_val (r_ldB (s := s) (k := 24) (hs.up H (fun _ => apart_nil _)) ah6 rfl ct5 (by (try simp only [Sl.cut]); omega)) ?_)
    refine l_op (o_val (r_conv Try.underlying5 Try.underlying3 rfl (w_i64_8 _)) ?_)
    refine l_op (o_val (r_bin (a := 25) (b := (aN s.l : Int)) rfl rfl (fun _ => b_add (by omega) (by omega))) ?_)
    refine l_op (o_val (r_as) ?_)
    first | refine l_end ?_ | refine l_nil ?_
    repeat refine c_seq ?_
    refine c_region ?_
    refine l_op (o_val (r_mv) ?_)
    refine l_op (o_val (r_bin (a := 25 + (aN s.l : Int)) (b := 3) rfl rfl (fun _ => b_add (by omega) (by omega))) ?_)
    refine l_op (o_val (r_bin (a := (25 + (aN s.l : Int)) + 3) (b := 32) rfl rfl (fun _ => b_add (by omega) (by omega))) ?_)
    refine l_op (o_val (r_as) ?_)
    first | refine l_end ?_ | refine l_nil ?_
    repeat refine c_seq ?_
    refine c_region ?_
    refine l_op (o_val (r_mv) ?_)
    refine l_op (o_val (r_lens el29 rfl) ?_)
    refine l_op (o_val (r_mv) ?_)
    refine l_op (o_val (r_bin (a := (s.len : Int)) (b := ((25 + (aN s.l : Int)) + 3) + 32) rfl rfl (fun _ => b_lss)) ?_)
    first | refine l_end ?_ | refine l_nil ?_
    by_cases hc7 : (s.len : Int) < ((25 + (aN s.l : Int)) + 3) + 32
    ·
     repeat refine c_seq ?_
     refine c_yes (by exact congrArg Value.bool (decide_eq_true hc7)) ?_
     repeat refine c_seq ?_
     refine c_region ?_
     refine l_op (o_val (r_bld' (cells := ([VI 0, VI 0, V64 (0 : UInt64), .string ⟨(([] : List UInt8)).toArray⟩, VI 0, VI 0] ++ (List.replicate 32 (0 : UInt8)).map V8).toArray) (pv := []) bd95 rfl rfl) ?_)
     refine l_op (o_stW (C' := [VI 0, VI 0, V64 (0 : UInt64), .string ⟨(([] : List UInt8)).toArray⟩, VI 0, VI 0] ++ (List.replicate 32 (0 : UInt8)).map V8) H (i := 0) rfl rfl rfl cs95 (by simp [Value.oneCell']) (by rw [List.length_append, List.length_map, (show (List.replicate 32 (0 : UInt8)).length = 32 from (List.length_replicate ..))]; rfl) (by rw [List.length_append, List.length_map, (show (List.replicate 32 (0 : UInt8)).length = 32 from (List.length_replicate ..))]; rfl) (fun w H => ?_))
     replace H : Hp _ w _ [_] := H
     refine l_op (o_val (r_as) ?_)
     refine l_op (o_val (r_as) ?_)
     first | refine l_end ?_ | refine l_nil ?_
     refine c_ret ?_
     try dsimp only [Exit.then, Exit.inBlock]
     refine e_retN (vs := [.agg ([VI 0, VI 0, V64 (0 : UInt64), .string ⟨(([] : List UInt8)).toArray⟩, VI 0, VI 0] ++ (List.replicate 32 (0 : UInt8)).map V8).toArray, VI 0, VI 3]) _ Try.results91 rfl (H.resR (C := [VI 0, VI 0, V64 (0 : UInt64), .string ⟨(([] : List UInt8)).toArray⟩, VI 0, VI 0] ++ (List.replicate 32 (0 : UInt8)).map V8) (i := 0) rfl rfl rt95 (by rw [List.length_append, List.length_map, (show (List.replicate 32 (0 : UInt8)).length = 32 from (List.length_replicate ..))]; rfl) (resT (v := VI 0) rfl (resT (v := VI 3) rfl (resZ)))) ?_
     refine ⟨_, rfl, ?_⟩
     have hbad : ¬ badE s.l := hc2
     have hc : takeC s.l = 3 := by unfold takeC; rw [if_neg hbad, if_pos (by omega)]
     refine ⟨?_, H.sub (List.nil_sublist _)⟩
     rw [takeE, takeN, hc]
     rfl
    ·
     repeat refine c_seq ?_
     refine c_no (by exact congrArg Value.bool (decide_eq_false hc7)) ?_
     refine c_skip ?_
     repeat refine c_seq ?_
     refine c_region ?_
     refine l_op (o_alloc H zc137 (fun b8 w H hb8 => ?_))
     replace H : Hp _ w _ ([_, .blk b8 ((List.replicate 3 (Value.int .u64 0))) 137]) := H
     first | refine l_end ?_ | refine l_nil ?_
     repeat refine c_seq ?_
     refine c_region ?_
     refine l_op (o_val (r_mv) ?_)
     first | refine l_end ?_ | refine l_nil ?_
     repeat refine c_seq ?_
     refine c_block ?_
     repeat refine c_seq ?_
     refine c_loop (fun (i : Nat) => [(0, s.v), (2, .pointer (some ⟨b1, 0, none⟩)), (5, VI (25 + (aN s.l : Int))), (6, VI (((25 + (aN s.l : Int)) + 3) + 32)), (7, .pointer (some ⟨b8, 0, none⟩)), (31, VI (i : Int))])
       (fun (i : Nat) w => (i ≤ 3) ∧ Hp w0 w [] ([.blk b1 ([VI 0, VI 0, V64 (0 : UInt64), .string ⟨(([] : List UInt8)).toArray⟩, VI 0, VI 0] ++ (List.replicate 32 (0 : UInt8)).map V8) 95, .blk b8 (v3 s.l i) 137]))
       (fun (i : Nat) => 3 - i) 0 ⟨rfl, rfl, rfl, rfl, rfl, rfl, trivial⟩ ⟨by omega, H⟩ ?_
     clear H
     rintro i τ w ⟨hi, H⟩
     repeat refine c_seq ?_
     refine c_region ?_
     refine l_op (o_val (r_bin (a := (i : Int)) (b := 3) rfl rfl (fun _ => b_lss)) ?_)
     first | refine l_end ?_ | refine l_nil ?_
     by_cases hc9 : (i : Int) < 3
     ·
      repeat refine c_seq ?_
      refine c_yes (by exact congrArg Value.bool (decide_eq_true hc9)) ?_
      refine c_skip ?_
      repeat refine c_seq ?_
      refine c_block ?_
      repeat refine c_seq ?_
      refine c_region ?_
      refine l_op (o_val (r_mv) ?_)
      refine l_op (o_val (r_as) ?_)
      first | refine l_end ?_ | refine l_nil ?_
      repeat refine c_seq ?_
      refine c_region ?_
      refine l_op (o_val (r_mv) ?_)
      refine l_op (o_val (r_mv) ?_)
      refine l_op (o_val (r_mv) ?_)
      refine l_op (o_val (r_bin (a := 8) (b := (i : Int)) rfl rfl (fun _ => b_mul (by omega) (by omega))) ?_)
      have hk10 : ((8 * i) + 8 ≤ s.len) := (by omega)
      refine l_op (o_callR Try.func112 rfl rfl rfl (at_ok _ s (hs.up H (fun _ => apart_nil _)) (8 * i) 8 (by omega) (by omega) (by omega) (by (try dsimp only); omega)) ?_)
      rintro _ w ⟨rfl, Hc⟩
      replace H : Hp _ w _ ([_, _]) := H.call Hc
      clear Hc
      refine l_op (o_val (r_mv) ?_)
      refine l_op (o_val (r_ext rfl rfl) ?_)
      refine l_op (o_val (r_ext rfl rfl) ?_)
      refine l_op (o_val (r_iaN (i) rfl rfl ar137 (by omega) (by omega)) ?_)
      refine l_op (o_st (v := V64 (num (s.l) (8 * i) 8)) H (i := 1) rfl rfl rfl cs35 rfl (by simp only [v3, List.length_map, List.length_range]; omega) (fun w H => ?_))
      rw [show 0 + i * 1 = i by omega, v3_set s.l i (by omega)] at H
      replace H : Hp _ w _ ([_, .blk b8 (v3 s.l (i + 1)) 137]) := H
      first | refine l_end ?_ | refine l_nil ?_
      repeat refine c_seq ?_
      refine c_region ?_
      refine l_op (o_val (r_bin (a := (i : Int)) (b := 1) rfl rfl (fun _ => b_add (by omega) (by omega))) ?_)
      refine l_op (o_val (r_mv) ?_)
      first | refine l_end ?_ | refine l_nil ?_
      refine round_end (i + 1) ?_ ?_ ?_
      · exact ⟨rfl, rfl, rfl, rfl, rfl, show VI ((i : Int) + 1) = VI ((i + 1 : Nat) : Int) from congrArg VI (by omega), trivial⟩
      · refine ⟨?_, ?_⟩
        · try dsimp only
          exact by omega
        · exact H
      · show 3 - (i + 1 : Nat) < 3 - i; omega
     ·
      repeat refine c_seq ?_
      refine c_no (by exact congrArg Value.bool (decide_eq_false hc9)) ?_
      refine c_exit ?_
      have hi3 : i = 3 := by omega
      subst hi3
      rw [v3_three] at H
      replace H : Hp _ w _ ([_, .blk b8 ([V64 (num s.l 0 8), V64 (num s.l 8 8), V64 (num s.l 16 8)]) 137]) := H
      have hbd := hc2
      unfold badE at hbd
      have k0 := num_small s.l 0 (by omega) (by omega)
      have k8 := num_small s.l 8 (by omega) (by omega)
      repeat refine c_seq ?_
      refine wp_held (fun w => Hp w0 w [] [.blk b1 ([VI 0, VI 0, V64 (0 : UInt64), .string ⟨(([] : List UInt8)).toArray⟩, VI 0, VI 0] ++ (List.replicate 32 (0 : UInt8)).map V8) 95, .blk b8 ([V64 (num s.l 0 8), V64 (num s.l 8 8), V64 (num s.l 16 8)]) 137]) mixed ?_
      replace H := H.drew
      have HS := H
      refine t_take 0 rfl (by kernel_rfl) (by kernel_rfl) (by kernel_rfl) (fun _ _ _ h => h) (fun w HS => r_iaN (0) rfl rfl ar137 (by omega) (by omega)) HS ?_
      refine t_take 1 rfl (by kernel_rfl) (by kernel_rfl) (by kernel_rfl) (fun _ _ _ h => h) (fun w HS => r_ld (v := V64 (num s.l 0 8)) HS (i := 1) rfl rfl ct35 rfl) HS ?_
      refine t_take 2 rfl (by kernel_rfl) (by kernel_rfl) (by kernel_rfl) (fun _ _ _ h => h) (fun w HS => r_conv Try.underlying35 Try.underlying2 rfl (w_i64_64 (by omega))) HS ?_
      refine t_take 3 rfl (by kernel_rfl) (by kernel_rfl) (by kernel_rfl) (fun _ _ _ h => h) (fun w HS => r_iaN (1) rfl rfl ar137 (by omega) (by omega)) HS ?_
      refine t_take 4 rfl (by kernel_rfl) (by kernel_rfl) (by kernel_rfl) (fun _ _ _ h => h) (fun w HS => r_ld (v := V64 (num s.l 8 8)) HS (i := 1) rfl rfl ct35 rfl) HS ?_
      refine t_take 5 rfl (by kernel_rfl) (by kernel_rfl) (by kernel_rfl) (fun _ _ _ h => h) (fun w HS => r_conv Try.underlying35 Try.underlying2 rfl (w_i64_64 (by omega))) HS ?_
      refine t_take 6 rfl (by kernel_rfl) (by kernel_rfl) (by kernel_rfl) (fun _ _ _ h => h) (fun w HS => r_iaN (2) rfl rfl ar137 (by omega) (by omega)) HS ?_
      refine t_take 7 rfl (by kernel_rfl) (by kernel_rfl) (by kernel_rfl) (fun _ _ _ h => h) (fun w HS => r_ld (v := V64 (num s.l 16 8)) HS (i := 1) rfl rfl ct35 rfl) HS ?_
      refine t_take 8 rfl (by kernel_rfl) (by kernel_rfl) (by kernel_rfl) (fun _ _ _ h => h) (fun w HS => r_mv) HS ?_
      refine t_take 9 rfl (by kernel_rfl) (by kernel_rfl) (by kernel_rfl) (fun _ _ _ h => h) (fun w HS => r_mv) HS ?_
      refine t_take 10 rfl (by kernel_rfl) (by kernel_rfl) (by kernel_rfl) (fun _ _ _ h => h) (fun w HS => r_slS (s := s) 25 (25 + aN s.l) s.cap (lv := some (VI 25)) (hv := some (VI (25 + (aN s.l : Int)))) (mv := none) rfl el29 rfl rfl rfl (fun w => by exact sblh 25 (25 + aN s.l) (by omega) (by omega) (by omega) (by omega) w)) HS ?_
      refine t_take 11 rfl (by kernel_rfl) (by kernel_rfl) (by kernel_rfl) (fun _ _ _ h => h) (fun w HS => r_b2S (s := (Sl.cut s 25 (25 + aN s.l) s.cap)) Try.underlying29 Try.underlying5 Try.underlying9 rfl ((hs.up HS (fun _ => apart_nil _)).cut (l := 25) (h := 25 + aN s.l) (m := s.cap) (by omega) (by omega) (by omega) (by omega))) HS ?_
      refine t_take 12 rfl (by kernel_rfl) (by kernel_rfl) (by kernel_rfl) (fun _ _ _ h => h) (fun w HS => r_bld' (cells := ([VI ((num s.l 0 8).toNat : Int), VI ((num s.l 8 8).toNat : Int), V64 (num s.l 16 8), .string ⟨((s.l.drop 25).take (25 + aN s.l - 25)).toArray⟩, VI 0, VI 0] ++ (List.replicate 32 (0 : UInt8)).map V8).toArray) (pv := [(0, VI ((num s.l 0 8).toNat : Int)), (1, VI ((num s.l 8 8).toNat : Int)), (2, V64 (num s.l 16 8)), (3, .string ⟨((s.l.drop 25).take (25 + aN s.l - 25)).toArray⟩)]) bd95 rfl rfl) HS ?_
      refine t_step 13 rfl (by kernel_rfl) (o_alloc H zc95 (fun b11 w H hb11 => ?_))
      replace H : Hp _ w _ ([_, _, .blk b11 ([VI 0, VI 0, V64 (0 : UInt64), .string ⟨(([] : List UInt8)).toArray⟩, VI 0, VI 0] ++ (List.replicate 32 (0 : UInt8)).map V8) 95]) := H
      refine ⟨H.sub (.cons_cons _ (.cons_cons _ (List.nil_sublist _))), ?_⟩
      replace HS := H.sub (.cons_cons _ (.cons_cons _ (List.nil_sublist _)))
      refine t_step 14 rfl (by kernel_rfl) (o_stW (C' := [VI ((num s.l 0 8).toNat : Int), VI ((num s.l 8 8).toNat : Int), V64 (num s.l 16 8), .string ⟨((s.l.drop 25).take (25 + aN s.l - 25)).toArray⟩, VI 0, VI 0] ++ (List.replicate 32 (0 : UInt8)).map V8) H (i := 2) rfl rfl rfl cs95 (by simp [Value.oneCell']) (by rw [List.length_append, List.length_map, (show (List.replicate 32 (0 : UInt8)).length = 32 from (List.length_replicate ..))]; rfl) (by rw [List.length_append, List.length_map, (show (List.replicate 32 (0 : UInt8)).length = 32 from (List.length_replicate ..))]; rfl) (fun w H => ?_))
      replace H : Hp _ w _ ([_, _, .blk b11 ([VI ((num s.l 0 8).toNat : Int), VI ((num s.l 8 8).toNat : Int), V64 (num s.l 16 8), .string ⟨((s.l.drop 25).take (25 + aN s.l - 25)).toArray⟩, VI 0, VI 0] ++ (List.replicate 32 (0 : UInt8)).map V8) 95]) := H
      refine ⟨H.sub (.cons_cons _ (.cons_cons _ (List.nil_sublist _))), ?_⟩
      replace HS := H.sub (.cons_cons _ (.cons_cons _ (List.nil_sublist _)))
      refine t_done (by kernel_rfl) ?_
      clear HS
      repeat refine c_seq ?_
      refine wp_held (fun w => Hp w0 w [] [.blk b1 ([VI 0, VI 0, V64 (0 : UInt64), .string ⟨(([] : List UInt8)).toArray⟩, VI 0, VI 0] ++ (List.replicate 32 (0 : UInt8)).map V8) 95, .blk b8 ([V64 (num s.l 0 8), V64 (num s.l 8 8), V64 (num s.l 16 8)]) 137]) mixed ?_
      replace H := H.drew
      have HS := H.sub (.cons_cons _ (.cons_cons _ (List.nil_sublist _)))
      refine t_take 0 rfl (by kernel_rfl) (by kernel_rfl) (by kernel_rfl) (fun _ _ _ h => h) (fun w HS => r_mv) HS ?_
      refine t_take 1 rfl (by kernel_rfl) (by kernel_rfl) (by kernel_rfl) (fun _ _ _ h => h) (fun w HS => r_mv) HS ?_
      refine t_take 2 rfl (by kernel_rfl) (by kernel_rfl) (by kernel_rfl) (fun _ _ _ h => h) (fun w HS => r_isN (25 + aN s.l) rfl rfl el29 ah6 (by omega) (by omega)) HS ?_
      refine t_take 3 rfl (by kernel_rfl) (by kernel_rfl) (by kernel_rfl) (fun _ _ _ h => h) (fun w HS => r_ldB (s := s) (k := 25 + aN s.l) (hs.up HS (fun _ => apart_nil _)) ah6 rfl ct5 (by (try simp only [Sl.cut]); omega)) HS ?_
      refine t_take 4 rfl (by kernel_rfl) (by kernel_rfl) (by kernel_rfl) (fun _ _ _ h => h) (fun w HS => r_conv Try.underlying5 Try.underlying3 rfl (w_i64_8 _)) HS ?_
      refine t_take 5 rfl (by kernel_rfl) (by kernel_rfl) (by kernel_rfl) (fun _ _ _ h => h) (fun w HS => r_mv) HS ?_
      refine t_take 6 rfl (by kernel_rfl) (by kernel_rfl) (by kernel_rfl) (fun _ _ _ h => h) (fun w HS => r_mv) HS ?_
      refine t_take 7 rfl (by kernel_rfl) (by kernel_rfl) (by kernel_rfl) (fun _ _ _ h => h) (fun w HS => r_bin (a := 25 + (aN s.l : Int)) (b := 1) rfl rfl (fun _ => b_add (by omega) (by omega))) HS ?_
      refine t_take 8 rfl (by kernel_rfl) (by kernel_rfl) (by kernel_rfl) (fun _ _ _ h => h) (fun w HS => r_isN (26 + aN s.l) rfl rfl el29 ah6 (by omega) (by omega)) HS ?_
      refine t_take 9 rfl (by kernel_rfl) (by kernel_rfl) (by kernel_rfl) (fun _ _ _ h => h) (fun w HS => r_ldB (s := s) (k := 26 + aN s.l) (hs.up HS (fun _ => apart_nil _)) ah6 rfl ct5 (by (try simp only [Sl.cut]); omega)) HS ?_
      refine t_take 10 rfl (by kernel_rfl) (by kernel_rfl) (by kernel_rfl) (fun _ _ _ h => h) (fun w HS => r_conv Try.underlying5 Try.underlying3 rfl (w_i64_8 _)) HS ?_
      refine t_take 11 rfl (by kernel_rfl) (by kernel_rfl) (by kernel_rfl) (fun _ _ _ h => h) (fun w HS => r_shift (a := (((s.l).getD (26 + aN s.l) 0).toNat : Int)) rfl rfl (.inl rfl) (fun _ => b_shl8 (u8_lt _))) HS ?_
      refine t_take 12 rfl (by kernel_rfl) (by kernel_rfl) (by kernel_rfl) (fun _ _ _ h => h) (fun w HS => r_mv) HS ?_
      refine t_take 13 rfl (by kernel_rfl) (by kernel_rfl) (by kernel_rfl) (fun _ _ _ h => h) (fun w HS => r_mv) HS ?_
      refine t_take 14 rfl (by kernel_rfl) (by kernel_rfl) (by kernel_rfl) (fun _ _ _ h => h) (fun w HS => r_bin (a := 25 + (aN s.l : Int)) (b := 2) rfl rfl (fun _ => b_add (by omega) (by omega))) HS ?_
      refine t_take 15 rfl (by kernel_rfl) (by kernel_rfl) (by kernel_rfl) (fun _ _ _ h => h) (fun w HS => r_isN (27 + aN s.l) rfl rfl el29 ah6 (by omega) (by omega)) HS ?_
      refine t_take 16 rfl (by kernel_rfl) (by kernel_rfl) (by kernel_rfl) (fun _ _ _ h => h) (fun w HS => r_ldB (s := s) (k := 27 + aN s.l) (hs.up HS (fun _ => apart_nil _)) ah6 rfl ct5 (by (try simp only [Sl.cut]); omega)) HS ?_
      refine t_take 17 rfl (by kernel_rfl) (by kernel_rfl) (by kernel_rfl) (fun _ _ _ h => h) (fun w HS => r_conv Try.underlying5 Try.underlying3 rfl (w_i64_8 _)) HS ?_
      refine t_take 18 rfl (by kernel_rfl) (by kernel_rfl) (by kernel_rfl) (fun _ _ _ h => h) (fun w HS => r_bin (a := ((((s.l).getD (26 + aN s.l) 0).toNat * 256 : Nat) : Int)) (b := ((((s.l).getD (27 + aN s.l) 0).toNat : Nat) : Int)) rfl rfl (fun _ => b_or_i64 (by omega) (u8_lt _) (by have h1 := u8_lt (s.l.getD (26 + aN s.l) 0); have h2 := u8_lt (s.l.getD (27 + aN s.l) 0); omega))) HS ?_
      refine t_take 19 rfl (by kernel_rfl) (by kernel_rfl) (by kernel_rfl) (fun _ _ _ h => h) (fun w HS => r_fa rfl fo95_4) HS ?_
      refine t_step 20 rfl (by kernel_rfl) (o_st (v := VI (((s.l).getD (25 + aN s.l) 0).toNat : Int)) H (i := 2) rfl rfl rfl cs3 rfl (by simp only [List.length_append, List.length_cons, List.length_nil]; omega) (fun w H => ?_))
      replace H : Hp _ w _ ([_, _, .blk b11 ([VI ((num s.l 0 8).toNat : Int), VI ((num s.l 8 8).toNat : Int), V64 (num s.l 16 8), .string ⟨((s.l.drop 25).take (25 + aN s.l - 25)).toArray⟩, VI (((s.l).getD (25 + aN s.l) 0).toNat : Int), VI 0] ++ (List.replicate 32 (0 : UInt8)).map V8) 95]) := H
      refine ⟨H.sub (.cons_cons _ (.cons_cons _ (List.nil_sublist _))), ?_⟩
      replace HS := H.sub (.cons_cons _ (.cons_cons _ (List.nil_sublist _)))
      refine t_take 21 rfl (by kernel_rfl) (by kernel_rfl) (by kernel_rfl) (fun _ _ _ h => h) (fun w HS => r_fa rfl fo95_5) HS ?_
      refine t_step 22 rfl (by kernel_rfl) (o_st (v := VI ((((s.l).getD (26 + aN s.l) 0).toNat * 256 + ((s.l).getD (27 + aN s.l) 0).toNat : Nat) : Int)) H (i := 2) rfl rfl rfl cs3 rfl (by simp only [List.length_append, List.length_cons, List.length_nil]; omega) (fun w H => ?_))
      replace H : Hp _ w _ ([_, _, .blk b11 ([VI ((num s.l 0 8).toNat : Int), VI ((num s.l 8 8).toNat : Int), V64 (num s.l 16 8), .string ⟨((s.l.drop 25).take (25 + aN s.l - 25)).toArray⟩, VI (((s.l).getD (25 + aN s.l) 0).toNat : Int), VI ((((s.l).getD (26 + aN s.l) 0).toNat * 256 + ((s.l).getD (27 + aN s.l) 0).toNat : Nat) : Int)] ++ (List.replicate 32 (0 : UInt8)).map V8) 95]) := H
      refine ⟨H.sub (.cons_cons _ (.cons_cons _ (List.nil_sublist _))), ?_⟩
      replace HS := H.sub (.cons_cons _ (.cons_cons _ (List.nil_sublist _)))
      refine t_done (by kernel_rfl) ?_
      clear HS
      repeat refine c_seq ?_
      refine c_region ?_
      refine l_op (o_val (r_mv) ?_)
      refine l_op (o_val (r_mv) ?_)
      refine l_op (o_val (r_bin (a := 25 + (aN s.l : Int)) (b := 3) rfl rfl (fun _ => b_add (by omega) (by omega))) ?_)
      refine l_op (o_val (r_mv) ?_)
      refine l_op (o_val (r_slS (s := s) (28 + aN s.l) (60 + aN s.l) s.cap (lv := some (VI ((25 + (aN s.l : Int)) + 3))) (hv := some (VI (((25 + (aN s.l : Int)) + 3) + 32))) (mv := none) rfl el29 rfl rfl rfl (fun w => by exact sblh (28 + aN s.l) (60 + aN s.l) (by omega) (by omega) (by omega) (by omega) w)) ?_)
      refine l_op (o_val (r_sap Try.underlying31 rfl (by (try simp only [Sl.cut]); omega)) ?_)
      have ah14 := (((hs.up H (fun _ => apart_nil _)).cut (l := 28 + aN s.l) (h := 60 + aN s.l) (m := s.cap) (by omega) (by omega) (by omega) (by omega))).addr (by (try simp only [Sl.cut]); omega)
      obtain ⟨ab12, ao13, ah14⟩ := ah14
      refine l_op (o_val (r_ldSE (s := Sl.cut s (28 + aN s.l) (60 + aN s.l) s.cap) (k := 32) ((hs.up H (fun _ => apart_nil _)).cut (l := 28 + aN s.l) (h := 60 + aN s.l) (m := s.cap) (by omega) (by omega) (by omega) (by omega)) ah14 rfl rt31 (by decide) (by show 60 + aN s.l - (28 + aN s.l) = 32; omega)) ?_)
      refine l_op (o_val (r_fa rfl fo95_6) ?_)
      refine l_op (o_stT (pre := [VI ((num s.l 0 8).toNat : Int), VI ((num s.l 8 8).toNat : Int), V64 (num s.l 16 8), .string ⟨((s.l.drop 25).take (25 + aN s.l - 25)).toArray⟩, VI (((s.l).getD (25 + aN s.l) 0).toNat : Int), VI ((((s.l).getD (26 + aN s.l) 0).toNat * 256 + ((s.l).getD (27 + aN s.l) 0).toNat : Nat) : Int)]) (l := List.replicate 32 (0 : UInt8)) (l' := (s.l.drop (28 + aN s.l)).take (60 + aN s.l - (28 + aN s.l))) H (i := 2) rfl rfl rfl cs31 rfl (show (List.replicate 32 (0 : UInt8)).length = 32 from (List.length_replicate ..)) (show ((s.l.drop (28 + aN s.l)).take (60 + aN s.l - (28 + aN s.l))).length = 32 from (by rw [List.length_take, List.length_drop]; omega)) (fun w H => ?_))
      replace H : Hp _ w _ ([_, _, .blk b11 ([VI ((num s.l 0 8).toNat : Int), VI ((num s.l 8 8).toNat : Int), V64 (num s.l 16 8), .string ⟨((s.l.drop 25).take (25 + aN s.l - 25)).toArray⟩, VI (((s.l).getD (25 + aN s.l) 0).toNat : Int), VI ((((s.l).getD (26 + aN s.l) 0).toNat * 256 + ((s.l).getD (27 + aN s.l) 0).toNat : Nat) : Int)] ++ ((s.l.drop (28 + aN s.l)).take (60 + aN s.l - (28 + aN s.l))).map V8) 95]) := H
      first | refine l_end ?_ | refine l_nil ?_
      repeat refine c_seq ?_
      refine c_region ?_
      refine l_op (o_val (r_ldA (C := [VI ((num s.l 0 8).toNat : Int), VI ((num s.l 8 8).toNat : Int), V64 (num s.l 16 8), .string ⟨((s.l.drop 25).take (25 + aN s.l - 25)).toArray⟩, VI (((s.l).getD (25 + aN s.l) 0).toNat : Int), VI ((((s.l).getD (26 + aN s.l) 0).toNat * 256 + ((s.l).getD (27 + aN s.l) 0).toNat : Nat) : Int)] ++ ((s.l.drop (28 + aN s.l)).take (60 + aN s.l - (28 + aN s.l))).map V8) H (i := 2) rfl rfl rt95 (by rw [List.length_append, List.length_map, (show ((s.l.drop (28 + aN s.l)).take (60 + aN s.l - (28 + aN s.l))).length = 32 from (by rw [List.length_take, List.length_drop]; omega))]; rfl)) ?_)
      refine l_op (o_val (r_mv) ?_)
      refine l_op (o_stW (C' := [VI ((num s.l 0 8).toNat : Int), VI ((num s.l 8 8).toNat : Int), V64 (num s.l 16 8), .string ⟨((s.l.drop 25).take (25 + aN s.l - 25)).toArray⟩, VI (((s.l).getD (25 + aN s.l) 0).toNat : Int), VI ((((s.l).getD (26 + aN s.l) 0).toNat * 256 + ((s.l).getD (27 + aN s.l) 0).toNat : Nat) : Int)] ++ ((s.l.drop (28 + aN s.l)).take (60 + aN s.l - (28 + aN s.l))).map V8) H (i := 0) rfl rfl rfl cs95 (all_tail (by simp [Value.oneCell'])) (by rw [List.length_append, List.length_map, (show (List.replicate 32 (0 : UInt8)).length = 32 from (List.length_replicate ..))]; rfl) (by rw [List.length_append, List.length_map, (show ((s.l.drop (28 + aN s.l)).take (60 + aN s.l - (28 + aN s.l))).length = 32 from (by rw [List.length_take, List.length_drop]; omega))]; rfl) (fun w H => ?_))
      replace H : Hp _ w _ ([.blk b1 ([VI ((num s.l 0 8).toNat : Int), VI ((num s.l 8 8).toNat : Int), V64 (num s.l 16 8), .string ⟨((s.l.drop 25).take (25 + aN s.l - 25)).toArray⟩, VI (((s.l).getD (25 + aN s.l) 0).toNat : Int), VI ((((s.l).getD (26 + aN s.l) 0).toNat * 256 + ((s.l).getD (27 + aN s.l) 0).toNat : Nat) : Int)] ++ ((s.l.drop (28 + aN s.l)).take (60 + aN s.l - (28 + aN s.l))).map V8) 95, _, _]) := H
      refine l_op (o_val (r_as) ?_)
      refine l_op (o_val (r_as) ?_)
      first | refine l_end ?_ | refine l_nil ?_
      refine c_ret ?_
      try dsimp only [Exit.then, Exit.inBlock]
      refine e_retN (vs := [.agg ([VI ((num s.l 0 8).toNat : Int), VI ((num s.l 8 8).toNat : Int), V64 (num s.l 16 8), .string ⟨((s.l.drop 25).take (25 + aN s.l - 25)).toArray⟩, VI (((s.l).getD (25 + aN s.l) 0).toNat : Int), VI ((((s.l).getD (26 + aN s.l) 0).toNat * 256 + ((s.l).getD (27 + aN s.l) 0).toNat : Nat) : Int)] ++ ((s.l.drop (28 + aN s.l)).take (60 + aN s.l - (28 + aN s.l))).map V8).toArray, VI (((25 + (aN s.l : Int)) + 3) + 32), VI 0]) _ Try.results91 rfl (H.resR (C := [VI ((num s.l 0 8).toNat : Int), VI ((num s.l 8 8).toNat : Int), V64 (num s.l 16 8), .string ⟨((s.l.drop 25).take (25 + aN s.l - 25)).toArray⟩, VI (((s.l).getD (25 + aN s.l) 0).toNat : Int), VI ((((s.l).getD (26 + aN s.l) 0).toNat * 256 + ((s.l).getD (27 + aN s.l) 0).toNat : Nat) : Int)] ++ ((s.l.drop (28 + aN s.l)).take (60 + aN s.l - (28 + aN s.l))).map V8) (i := 0) rfl rfl rt95 (by rw [List.length_append, List.length_map, (show ((s.l.drop (28 + aN s.l)).take (60 + aN s.l - (28 + aN s.l))).length = 32 from (by rw [List.length_take, List.length_drop]; omega))]; rfl) (resT (v := VI (((25 + (aN s.l : Int)) + 3) + 32)) rfl (resT (v := VI 0) rfl (resZ)))) ?_
      refine ⟨_, rfl, ?_⟩
      have hbad : ¬ badE s.l := hc2
      have hc : takeC s.l = 0 := (takeC_ok _).2 ⟨hbad, by omega, by omega⟩
      refine ⟨?_, H.sub (List.nil_sublist _)⟩
      rw [takeE, takeN, hc, if_pos rfl, if_pos rfl]
      have e1 : (⟨((num s.l 0 8).toNat : Int), ((num s.l 8 8).toNat : Int), num s.l 16 8, (s.l.drop 25).take (25 + aN s.l - 25), (((s.l).getD (25 + aN s.l) 0).toNat : Int), ((((s.l).getD (26 + aN s.l) 0).toNat * 256 + ((s.l).getD (27 + aN s.l) 0).toNat : Nat) : Int), (s.l.drop (28 + aN s.l)).take (60 + aN s.l - (28 + aN s.l))⟩ : Ent) = entAt s.l := by
        rw [entAt]
        first | rfl | (congr 1 <;> first | rfl | omega | (congr 1; omega) | (congr 1 <;> congr 1 <;> omega))
      have e2 : (((25 + (aN s.l : Int)) + 3) + 32 : Int) = ((60 + aN s.l : Nat) : Int) := by omega
      rw [← e1, e2]
      rfl
  ·
   repeat refine c_seq ?_
   refine c_yes (by exact congrArg Value.bool (congrArg not (decide_eq_false hc2))) ?_
   repeat refine c_seq ?_
   refine c_region ?_
   refine l_op (o_val (r_bld' (cells := ([VI 0, VI 0, V64 (0 : UInt64), .string ⟨(([] : List UInt8)).toArray⟩, VI 0, VI 0] ++ (List.replicate 32 (0 : UInt8)).map V8).toArray) (pv := []) bd95 rfl rfl) ?_)
   refine l_op (o_stW (C' := [VI 0, VI 0, V64 (0 : UInt64), .string ⟨(([] : List UInt8)).toArray⟩, VI 0, VI 0] ++ (List.replicate 32 (0 : UInt8)).map V8) H (i := 0) rfl rfl rfl cs95 (by simp [Value.oneCell']) (by rw [List.length_append, List.length_map, (show (List.replicate 32 (0 : UInt8)).length = 32 from (List.length_replicate ..))]; rfl) (by rw [List.length_append, List.length_map, (show (List.replicate 32 (0 : UInt8)).length = 32 from (List.length_replicate ..))]; rfl) (fun w H => ?_))
   replace H : Hp _ w _ [_] := H
   refine l_op (o_val (r_as) ?_)
   refine l_op (o_val (r_as) ?_)
   first | refine l_end ?_ | refine l_nil ?_
   refine c_ret ?_
   try dsimp only [Exit.then, Exit.inBlock]
   refine e_retN (vs := [.agg ([VI 0, VI 0, V64 (0 : UInt64), .string ⟨(([] : List UInt8)).toArray⟩, VI 0, VI 0] ++ (List.replicate 32 (0 : UInt8)).map V8).toArray, VI 0, VI 4]) _ Try.results91 rfl (H.resR (C := [VI 0, VI 0, V64 (0 : UInt64), .string ⟨(([] : List UInt8)).toArray⟩, VI 0, VI 0] ++ (List.replicate 32 (0 : UInt8)).map V8) (i := 0) rfl rfl rt95 (by rw [List.length_append, List.length_map, (show (List.replicate 32 (0 : UInt8)).length = 32 from (List.length_replicate ..))]; rfl) (resT (v := VI 0) rfl (resT (v := VI 4) rfl (resZ)))) ?_
   refine ⟨_, rfl, ?_⟩
   have hbad : badE s.l := Classical.not_not.1 hc2
   have hc : takeC s.l = 4 := by unfold takeC; rw [if_pos hbad]
   refine ⟨?_, H.sub (List.nil_sublist _)⟩
   rw [takeE, takeN, hc]
   rfl
end Go.Proofs.Ytjmbbhnpfmblpaa
