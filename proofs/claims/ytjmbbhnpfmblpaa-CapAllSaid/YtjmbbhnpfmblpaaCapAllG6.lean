/- Lemmas for the statement CapAll, part 6: rules of operations, walks through functions, plain laws. -/
import Derived.Test.YtjmbbhnpfmblpaaCapAllG5
namespace Go.Proofs.Ytjmbbhnpfmblpaa
open Go
set_option maxRecDepth 100000
theorem light14c_ret (w0 : World) (t : Tok) (_hc : t.cs.ok cavE 2 w0) (_htag : t.tag.length = 32) :
    Ret Try.prog 66 [.agg ([V64 t.serial, .string ⟨(t.tenant).toArray⟩, V8 t.rights, VI t.from_, VI t.until_, t.cs.v] ++ (t.tag).map V8).toArray] w0 fun v w' => v = .bool (decide (t.tenant.length ≤ 1024 ∧ t.cs.len ≤ 64)) ∧ Hp w0 w' [] [] := by
  refine ret_mk Try.func66 rfl Try.ntmps66 (by simp) ?_
  have H := Hp.refl w0 []
  repeat refine c_seq ?_
  refine c_region ?_
  refine l_op (o_box (v := .agg ([V64 t.serial, .string ⟨(t.tenant).toArray⟩, V8 t.rights, VI t.from_, VI t.until_, t.cs.v] ++ (t.tag).map V8).toArray) H rfl (fun b1 w H hb1 => ?_))
  replace H : Hp _ w _ ([.blk b1 ([V64 t.serial, .string ⟨(t.tenant).toArray⟩, V8 t.rights, VI t.from_, VI t.until_, t.cs.v] ++ (t.tag).map V8) 76]) := H
  refine l_op (o_val (r_as) ?_)
  first | refine l_end ?_ | refine l_nil ?_
  repeat refine c_seq ?_
  refine c_region ?_
  refine l_op (o_val (r_fa rfl fo76_1) ?_)
  refine l_op (o_val (r_ld (v := .string ⟨(t.tenant).toArray⟩) H (i := 0) rfl rfl ct9 rfl) ?_)
  refine l_op (o_val (r_lenstr (s := ⟨(t.tenant).toArray⟩) Try.underlying9 rfl) ?_)
  refine l_op (o_val (r_bin (a := ((t.tenant).length : Int)) (b := 1024) rfl rfl (fun _ => b_leq)) ?_)
  refine l_op (o_val (r_mv) ?_)
  by_cases hc2 : ((t.tenant).length : Int) ≤ 1024
  ·
   refine l_yes rfl rfl (by exact congrArg Value.bool (decide_eq_true hc2)) (o_val (r_fa rfl fo76_5) ?_)
   refine l_yes rfl rfl (by exact congrArg Value.bool (decide_eq_true hc2)) (o_val (r_ld (v := t.cs.v) H (i := 0) rfl rfl ct74 rfl) ?_)
   refine l_yes rfl rfl (by exact congrArg Value.bool (decide_eq_true hc2)) (o_val (r_lens el74 rfl) ?_)
   refine l_yes rfl rfl (by exact congrArg Value.bool (decide_eq_true hc2)) (o_val (r_bin (a := (t.cs.len : Int)) (b := 64) rfl rfl (fun _ => b_leq)) ?_)
   refine l_op (o_val (r_pick (b := true) (congrArg Value.bool (decide_eq_true hc2))) ?_)
   refine l_op (o_val (r_as) ?_)
   first | refine l_end ?_ | refine l_nil ?_
   refine c_ret ?_
   try dsimp only [Exit.then, Exit.inBlock]
   refine e_ret1 (v := .bool (decide ((t.cs.len : Int) ≤ 64))) Try.results66 rfl ?_
   refine ⟨_, rfl, ?_⟩
   refine ⟨?_, H.sub (List.nil_sublist _)⟩
   congr 1
   rw [decide_eq_decide]
   omega
  ·
   refine l_no rfl rfl (by exact congrArg Value.bool (decide_eq_false hc2)) rfl ?_
   refine l_no rfl rfl (by exact congrArg Value.bool (decide_eq_false hc2)) rfl ?_
   refine l_no rfl rfl (by exact congrArg Value.bool (decide_eq_false hc2)) rfl ?_
   refine l_no rfl rfl (by exact congrArg Value.bool (decide_eq_false hc2)) rfl ?_
   refine l_op (o_val (r_pick (b := false) (congrArg Value.bool (decide_eq_false hc2))) ?_)
   refine l_op (o_val (r_as) ?_)
   first | refine l_end ?_ | refine l_nil ?_
   refine c_ret ?_
   try dsimp only [Exit.then, Exit.inBlock]
   refine e_ret1 (v := .bool false) Try.results66 rfl ?_
   refine ⟨_, rfl, ?_⟩
   refine ⟨?_, H.sub (List.nil_sublist _)⟩
   first | rw [decide_eq_true (by omega : t.tenant.length ≤ 1024 ∧ t.cs.len ≤ 64)] | rw [decide_eq_false (by omega : ¬ (t.tenant.length ≤ 1024 ∧ t.cs.len ≤ 64))]
set_option maxHeartbeats 4000000 in
theorem capAll_ret (w0 : World) (key : List UInt8) (t : Tok) (c : Cav) (now : Int) (hk : key.length = 32) (hc : t.cs.ok cavE 2 w0) (htag : t.tag.length = 32) (hb : t.bd) (hcb : i64in c.2) :
    Ret Try.prog 18 [.agg ((key).map V8).toArray, .agg ([V64 t.serial, .string ⟨(t.tenant).toArray⟩, V8 t.rights, VI t.from_, VI t.until_, t.cs.v] ++ (t.tag).map V8).toArray, .agg ([V8 c.1, VI c.2]).toArray, VI now] w0 fun v w' => v = .bool true ∧ Hp w0 w' [] [] := by
  refine ret_mk Try.func18 rfl Try.ntmps18 (by simp) ?_
  have H := Hp.refl w0 []
  have hcl := hc.ln
  have hmL : maxLen = 9223372036854775807 := rfl
  have hcs0 : t.cs.len = 0 → t.cs.l = [] := fun h => List.length_eq_zero_iff.1 (by rw [hcl]; exact h)
  repeat refine c_seq ?_
  refine c_region ?_
  refine l_op (o_box (v := .agg ((key).map V8).toArray) H rfl (fun b1 w H hb1 => ?_))
  replace H : Hp _ w _ ([.blk b1 ((key).map V8) 31]) := H
  refine l_op (o_box (v := .agg ([V64 t.serial, .string ⟨(t.tenant).toArray⟩, V8 t.rights, VI t.from_, VI t.until_, t.cs.v] ++ (t.tag).map V8).toArray) H rfl (fun b2 w H hb2 => ?_))
  replace H : Hp _ w _ ([_, .blk b2 ([V64 t.serial, .string ⟨(t.tenant).toArray⟩, V8 t.rights, VI t.from_, VI t.until_, t.cs.v] ++ (t.tag).map V8) 76]) := H
  refine l_op (o_box (v := .agg ([V8 c.1, VI c.2]).toArray) H rfl (fun b3 w H hb3 => ?_))
  replace H : Hp _ w _ ([_, _, .blk b3 ([V8 c.1, VI c.2]) 78]) := H
  refine l_op (o_val (r_as) ?_)
  first | refine l_end ?_ | refine l_nil ?_
  repeat refine c_seq ?_
  refine c_region ?_
  refine l_op (o_callR Try.func65 rfl rfl rfl (begun14_ret _) ?_)
  rintro _ w ⟨rfl, Hc⟩
  replace H : Hp _ w _ ([_, _, _]) := H.call Hc
  clear Hc
  refine l_op (o_val (r_not rfl) ?_)
  first | refine l_end ?_ | refine l_nil ?_
  repeat refine c_seq ?_
  refine c_no rfl ?_
  refine c_skip ?_
  repeat refine c_seq ?_
  refine c_region ?_
  refine l_op (o_val (r_ldA (C := [V64 t.serial, .string ⟨(t.tenant).toArray⟩, V8 t.rights, VI t.from_, VI t.until_, t.cs.v] ++ (t.tag).map V8) H (i := 1) rfl rfl rt76 (by rw [List.length_append, List.length_map, (show (t.tag).length = 32 from htag)]; rfl)) ?_)
  refine l_op (o_callR Try.func66 rfl rfl rfl (light14c_ret _ t (hc.up H) (show (t.tag).length = 32 from htag)) ?_)
  rintro _ w ⟨rfl, Hc⟩
  replace H : Hp _ w _ ([_, _, _]) := H.call Hc
  clear Hc
  refine l_op (o_val (r_not rfl) ?_)
  first | refine l_end ?_ | refine l_nil ?_
  by_cases hc4 : t.tenant.length ≤ 1024 ∧ t.cs.len ≤ 64
  ·
   repeat refine c_seq ?_
   refine c_no (by exact congrArg Value.bool (congrArg not (decide_eq_true hc4))) ?_
   refine c_skip ?_
   repeat refine c_seq ?_
   refine c_region ?_
   refine l_op (o_val (r_ldA (C := [V64 t.serial, .string ⟨(t.tenant).toArray⟩, V8 t.rights, VI t.from_, VI t.until_, t.cs.v] ++ (t.tag).map V8) H (i := 1) rfl rfl rt76 (by rw [List.length_append, List.length_map, (show (t.tag).length = 32 from htag)]; rfl)) ?_)
   refine l_op (o_callR Try.func67 rfl rfl rfl (twin14_ret _ t (hc.up H) (show (t.tag).length = 32 from htag) (by omega)) ?_)
   rintro _ w ⟨b5, rfl, Hc⟩
   replace H : Hp _ w _ ([_, _, _, .blk b5 (((t.cs.l ++ [((0 : UInt8), (0 : Int))]) ++ [((0 : UInt8), (0 : Int))]).flatMap cavE) 78]) := H.call Hc
   clear Hc
   refine l_op (o_alloc H zc76 (fun b6 w H hb6 => ?_))
   replace H : Hp _ w _ ([_, _, _, _, .blk b6 ([V64 (0 : UInt64), .string ⟨(([] : List UInt8)).toArray⟩, V8 (0 : UInt8), VI 0, VI 0, .slice none 0 0] ++ (List.replicate 32 (0 : UInt8)).map V8) 76]) := H
   refine l_op (o_stW (C' := [V64 t.serial, .string ⟨(t.tenant).toArray⟩, V8 t.rights, VI t.from_, VI t.until_, (⟨some ⟨b5, 0, none⟩, t.cs.len, t.cs.len + 2, t.cs.l⟩ : Gl Cav).v] ++ (t.tag).map V8) H (i := 4) rfl rfl rfl cs76 (by simp [Value.oneCell', Gl.v]) (by rw [List.length_append, List.length_map, (show (List.replicate 32 (0 : UInt8)).length = 32 from (List.length_replicate ..))]; rfl) (by rw [List.length_append, List.length_map, (show (t.tag).length = 32 from htag)]; rfl) (fun w H => ?_))
   replace H : Hp _ w _ ([_, _, _, _, .blk b6 ([V64 t.serial, .string ⟨(t.tenant).toArray⟩, V8 t.rights, VI t.from_, VI t.until_, (⟨some ⟨b5, 0, none⟩, t.cs.len, t.cs.len + 2, t.cs.l⟩ : Gl Cav).v] ++ (t.tag).map V8) 76]) := H
   first | refine l_end ?_ | refine l_nil ?_
   repeat refine c_seq ?_
   refine c_region ?_
   refine l_op (o_val (r_as) ?_)
   first | refine l_end ?_ | refine l_nil ?_
   repeat refine c_seq ?_
   refine c_block ?_
   repeat refine c_seq ?_
   refine c_loop (fun (i : Nat) => [(3, VI now), (4, .pointer (some ⟨b1, 0, none⟩)), (5, .pointer (some ⟨b2, 0, none⟩)), (6, .pointer (some ⟨b3, 0, none⟩)), (9, .pointer (some ⟨b6, 0, none⟩)), (10, VI (i : Int))])
     (fun (i : Nat) w => (i ≤ 2) ∧ Hp w0 w [] ([.blk b1 ((key).map V8) 31, .blk b2 ([V64 t.serial, .string ⟨(t.tenant).toArray⟩, V8 t.rights, VI t.from_, VI t.until_, t.cs.v] ++ (t.tag).map V8) 76, .blk b3 ([V8 c.1, VI c.2]) 78, .blk b5 (((t.cs.l ++ [((0 : UInt8), (0 : Int))]) ++ [((0 : UInt8), (0 : Int))]).flatMap cavE) 78, .blk b6 ([V64 t.serial, .string ⟨(t.tenant).toArray⟩, V8 t.rights, VI t.from_, VI t.until_, (⟨some ⟨b5, 0, none⟩, t.cs.len, t.cs.len + 2, t.cs.l⟩ : Gl Cav).v] ++ (t.tag).map V8) 76]))
     (fun (i : Nat) => 2 - i) 0 ⟨rfl, rfl, rfl, rfl, rfl, rfl, trivial⟩ ⟨by omega, H⟩ ?_
   clear H
   rintro i τ w ⟨hi, H⟩
   repeat refine c_seq ?_
   refine c_region ?_
   refine l_op (o_val (r_mv) ?_)
   refine l_op (o_val (r_bin (a := (i : Int)) (b := 2) rfl rfl (fun _ => b_lss)) ?_)
   first | refine l_end ?_ | refine l_nil ?_
   by_cases hc7 : (i : Int) < 2
   ·
    repeat refine c_seq ?_
    refine c_yes (by exact congrArg Value.bool (decide_eq_true hc7)) ?_
    refine c_skip ?_
    repeat refine c_seq ?_
    refine c_block ?_
    repeat refine c_seq ?_
    refine c_region ?_
    refine l_op (o_val (r_ldAA (l := key) H (i := 0) rfl rfl rt31 (show (key).length = 32 from hk)) ?_)
    refine l_op (o_val (r_ldA (C := [V64 t.serial, .string ⟨(t.tenant).toArray⟩, V8 t.rights, VI t.from_, VI t.until_, (⟨some ⟨b5, 0, none⟩, t.cs.len, t.cs.len + 2, t.cs.l⟩ : Gl Cav).v] ++ (t.tag).map V8) H (i := 4) rfl rfl rt76 (by rw [List.length_append, List.length_map, (show (t.tag).length = 32 from htag)]; rfl)) ?_)
    rcases Bool.eq_false_or_eq_true (mayT t) with hc8 | hc8
    ·
     by_cases hc9 : t.cs.len = 0
     ·
      refine l_op (o_callR Try.func68 rfl rfl rfl (issue_ok _ (key) (show (key).length = 32 from hk) (⟨t.serial, t.tenant, t.rights, t.from_, t.until_, (⟨some ⟨b5, 0, none⟩, t.cs.len, t.cs.len + 2, t.cs.l⟩ : Gl Cav), t.tag⟩ : Tok) (show Gl.ok cavE 2 (⟨some ⟨b5, 0, none⟩, t.cs.len, t.cs.len + 2, t.cs.l⟩ : Gl Cav) _ from glBlk ([((0 : UInt8), (0 : Int)), ((0 : UInt8), (0 : Int))]) (H.has (.blk b5 (((t.cs.l ++ [((0 : UInt8), (0 : Int))]) ++ [((0 : UInt8), (0 : Int))]).flatMap cavE) 78) (by simp)) (by simp) (fun _ _ => rfl) hcl (by omega) (by omega)) (show (t.tag).length = 32 from htag) (by first | omega | (dsimp only; omega) | simp) hc8 (by (try dsimp only); omega)) ?_)
      rintro _ w ⟨rfl, Hc⟩
      replace H : Hp _ w _ ([_, _, _, _, _]) := H.call Hc
      clear Hc
      refine l_op (o_val (r_mv) ?_)
      refine l_op (o_val (r_ext rfl rfl) ?_)
      refine l_op (o_val (r_ext rfl rfl) ?_)
      refine l_op (o_alloc H zc76 (fun b10 w H hb10 => ?_))
      replace H : Hp _ w _ ([_, _, _, _, _, .blk b10 ([V64 (0 : UInt64), .string ⟨(([] : List UInt8)).toArray⟩, V8 (0 : UInt8), VI 0, VI 0, .slice none 0 0] ++ (List.replicate 32 (0 : UInt8)).map V8) 76]) := H
      refine l_op (o_stW (C' := [V64 t.serial, .string ⟨(t.tenant).toArray⟩, V8 t.rights, VI t.from_, VI t.until_, .slice none 0 0] ++ (hmac (key) (framed [headB (t.serial) (t.tenant) (t.rights) (t.from_) (t.until_)])).map V8) H (i := 5) rfl rfl rfl cs76 (by simp [Value.oneCell']) (by rw [List.length_append, List.length_map, (show (List.replicate 32 (0 : UInt8)).length = 32 from (List.length_replicate ..))]; rfl) (by rw [List.length_append, List.length_map, (show (hmac (key) (framed [headB (t.serial) (t.tenant) (t.rights) (t.from_) (t.until_)])).length = 32 from hmac_len _ _)]; rfl) (fun w H => ?_))
      replace H : Hp _ w _ ([_, _, _, _, _, .blk b10 ([V64 t.serial, .string ⟨(t.tenant).toArray⟩, V8 t.rights, VI t.from_, VI t.until_, .slice none 0 0] ++ (hmac (key) (framed [headB (t.serial) (t.tenant) (t.rights) (t.from_) (t.until_)])).map V8) 76]) := H
      refine l_op (o_val (r_as) ?_)
      first | refine l_end ?_ | refine l_nil ?_
      repeat refine c_seq ?_
      refine c_region ?_
      refine l_op (o_val (r_ldAA (l := key) H (i := 0) rfl rfl rt31 (show (key).length = 32 from hk)) ?_)
      refine l_op (o_val (r_ldA (C := [V64 t.serial, .string ⟨(t.tenant).toArray⟩, V8 t.rights, VI t.from_, VI t.until_, t.cs.v] ++ (t.tag).map V8) H (i := 1) rfl rfl rt76 (by rw [List.length_append, List.length_map, (show (t.tag).length = 32 from htag)]; rfl)) ?_)
      refine l_op (o_callR Try.func69 rfl rfl rfl (issuer_ok _ (key) (show (key).length = 32 from hk) t (hc.up H) (show (t.tag).length = 32 from htag) (by first | omega | (dsimp only; omega) | simp) hb hc8 (by (try dsimp only); omega)) ?_)
      rintro _ w ⟨rfl, Hc⟩
      replace H : Hp _ w _ ([_, _, _, _, _, _]) := H.call Hc
      clear Hc
      refine l_op (o_val (r_mv) ?_)
      refine l_op (o_val (r_ext rfl rfl) ?_)
      refine l_op (o_val (r_ext rfl rfl) ?_)
      refine l_op (o_alloc H zc76 (fun b11 w H hb11 => ?_))
      replace H : Hp _ w _ ([_, _, _, _, _, _, .blk b11 ([V64 (0 : UInt64), .string ⟨(([] : List UInt8)).toArray⟩, V8 (0 : UInt8), VI 0, VI 0, .slice none 0 0] ++ (List.replicate 32 (0 : UInt8)).map V8) 76]) := H
      refine l_op (o_stW (C' := [V64 t.serial, .string ⟨(t.tenant).toArray⟩, V8 t.rights, VI t.from_, VI t.until_, t.cs.v] ++ (hmac (key) (framed [t.head])).map V8) H (i := 6) rfl rfl rfl cs76 (by simp [Value.oneCell', Gl.v]) (by rw [List.length_append, List.length_map, (show (List.replicate 32 (0 : UInt8)).length = 32 from (List.length_replicate ..))]; rfl) (by rw [List.length_append, List.length_map, (show (hmac (key) (framed [t.head])).length = 32 from hmac_len _ _)]; rfl) (fun w H => ?_))
      replace H : Hp _ w _ ([_, _, _, _, _, _, .blk b11 ([V64 t.serial, .string ⟨(t.tenant).toArray⟩, V8 t.rights, VI t.from_, VI t.until_, t.cs.v] ++ (hmac (key) (framed [t.head])).map V8) 76]) := H
      refine l_op (o_val (r_as) ?_)
      first | refine l_end ?_ | refine l_nil ?_
      repeat refine c_seq ?_
      refine c_region ?_
      refine l_op (o_val (r_ldA (C := [V64 t.serial, .string ⟨(t.tenant).toArray⟩, V8 t.rights, VI t.from_, VI t.until_, (⟨some ⟨b5, 0, none⟩, t.cs.len, t.cs.len + 2, t.cs.l⟩ : Gl Cav).v] ++ (t.tag).map V8) H (i := 4) rfl rfl rt76 (by rw [List.length_append, List.length_map, (show (t.tag).length = 32 from htag)]; rfl)) ?_)
      refine l_op (o_val (r_ldA (C := [V8 c.1, VI c.2]) H (i := 2) rfl rfl rt78 (by rfl)) ?_)
      rcases Bool.eq_false_or_eq_true (rMay c.1) with hc12 | hc12
      ·
       by_cases hc13 : t.cs.len < 8
       ·
        refine l_op (o_callR Try.func70 rfl rfl rfl (less_ok _ (⟨t.serial, t.tenant, t.rights, t.from_, t.until_, (⟨some ⟨b5, 0, none⟩, t.cs.len, t.cs.len + 2, t.cs.l⟩ : Gl Cav), t.tag⟩ : Tok) c (show Gl.ok cavE 2 (⟨some ⟨b5, 0, none⟩, t.cs.len, t.cs.len + 2, t.cs.l⟩ : Gl Cav) _ from glBlk ([((0 : UInt8), (0 : Int)), ((0 : UInt8), (0 : Int))]) (H.has (.blk b5 (((t.cs.l ++ [((0 : UInt8), (0 : Int))]) ++ [((0 : UInt8), (0 : Int))]).flatMap cavE) 78) (by simp)) (by simp) (fun _ _ => rfl) hcl (by omega) (by omega)) (show (t.tag).length = 32 from htag) (by first | omega | (dsimp only; omega) | simp) hc8 hc12 (by (try dsimp only); omega)) ?_)
        rintro _ w ⟨a14, c15, rfl, Hc⟩
        replace H : Hp _ w _ ([_, _, _, _, _, _, _, .own a14 (t.cs.len + 1) c15 ((t.cs.l ++ [c]).flatMap cavE) 78 2]) := H.call Hc
        clear Hc
        refine l_op (o_val (r_mv) ?_)
        refine l_op (o_val (r_ext rfl rfl) ?_)
        refine l_op (o_val (r_ext rfl rfl) ?_)
        refine l_op (o_alloc H zc76 (fun b16 w H hb16 => ?_))
        replace H : Hp _ w _ ([_, _, _, _, _, _, _, _, .blk b16 ([V64 (0 : UInt64), .string ⟨(([] : List UInt8)).toArray⟩, V8 (0 : UInt8), VI 0, VI 0, .slice none 0 0] ++ (List.replicate 32 (0 : UInt8)).map V8) 76]) := H
        refine l_op (o_stW (C' := [V64 t.serial, .string ⟨(t.tenant).toArray⟩, V8 t.rights, VI t.from_, VI t.until_, .slice (hd a14) (t.cs.len + 1) c15] ++ (onF (t.tag) [c]).map V8) H (i := 8) rfl rfl rfl cs76 (by simp [Value.oneCell']) (by rw [List.length_append, List.length_map, (show (List.replicate 32 (0 : UInt8)).length = 32 from (List.length_replicate ..))]; rfl) (by rw [List.length_append, List.length_map, (show (onF (t.tag) [c]).length = 32 from onF_len _ (show (t.tag).length = 32 from htag) _)]; rfl) (fun w H => ?_))
        replace H : Hp _ w _ ([_, _, _, _, _, _, _, _, .blk b16 ([V64 t.serial, .string ⟨(t.tenant).toArray⟩, V8 t.rights, VI t.from_, VI t.until_, .slice (hd a14) (t.cs.len + 1) c15] ++ (onF (t.tag) [c]).map V8) 76]) := H
        refine l_op (o_val (r_as) ?_)
        first | refine l_end ?_ | refine l_nil ?_
        repeat refine c_seq ?_
        refine c_region ?_
        refine l_op (o_val (r_ldA (C := [V64 t.serial, .string ⟨(t.tenant).toArray⟩, V8 t.rights, VI t.from_, VI t.until_, t.cs.v] ++ (t.tag).map V8) H (i := 1) rfl rfl rt76 (by rw [List.length_append, List.length_map, (show (t.tag).length = 32 from htag)]; rfl)) ?_)
        refine l_op (o_val (r_ldA (C := [V8 c.1, VI c.2]) H (i := 2) rfl rfl rt78 (by rfl)) ?_)
        refine l_op (o_callR Try.func71 rfl rfl rfl (lessr_ok _ t c (hc.up H) (show (t.tag).length = 32 from htag) (by first | omega | (dsimp only; omega) | simp) hb hcb hc8 hc12 (by (try dsimp only); omega)) ?_)
        rintro _ w ⟨a17, c18, rfl, Hc⟩
        replace H : Hp _ w _ ([_, _, _, _, _, _, _, _, _, .own a17 (t.cs.len + 1) c18 ((t.cs.l ++ [c]).flatMap cavE) 78 2]) := H.call Hc
        clear Hc
        refine l_op (o_val (r_mv) ?_)
        refine l_op (o_val (r_ext rfl rfl) ?_)
        refine l_op (o_val (r_ext rfl rfl) ?_)
        refine l_op (o_alloc H zc76 (fun b19 w H hb19 => ?_))
        replace H : Hp _ w _ ([_, _, _, _, _, _, _, _, _, _, .blk b19 ([V64 (0 : UInt64), .string ⟨(([] : List UInt8)).toArray⟩, V8 (0 : UInt8), VI 0, VI 0, .slice none 0 0] ++ (List.replicate 32 (0 : UInt8)).map V8) 76]) := H
        refine l_op (o_stW (C' := [V64 t.serial, .string ⟨(t.tenant).toArray⟩, V8 t.rights, VI t.from_, VI t.until_, .slice (hd a17) (t.cs.len + 1) c18] ++ (onF (t.tag) [c]).map V8) H (i := 10) rfl rfl rfl cs76 (by simp [Value.oneCell']) (by rw [List.length_append, List.length_map, (show (List.replicate 32 (0 : UInt8)).length = 32 from (List.length_replicate ..))]; rfl) (by rw [List.length_append, List.length_map, (show (onF (t.tag) [c]).length = 32 from onF_len _ (show (t.tag).length = 32 from htag) _)]; rfl) (fun w H => ?_))
        replace H : Hp _ w _ ([_, _, _, _, _, _, _, _, _, _, .blk b19 ([V64 t.serial, .string ⟨(t.tenant).toArray⟩, V8 t.rights, VI t.from_, VI t.until_, .slice (hd a17) (t.cs.len + 1) c18] ++ (onF (t.tag) [c]).map V8) 76]) := H
        refine l_op (o_val (r_as) ?_)
        first | refine l_end ?_ | refine l_nil ?_
        repeat refine c_seq ?_
        refine c_region ?_
        refine l_op (o_val (r_ldA (C := [V64 t.serial, .string ⟨(t.tenant).toArray⟩, V8 t.rights, VI t.from_, VI t.until_, (⟨some ⟨b5, 0, none⟩, t.cs.len, t.cs.len + 2, t.cs.l⟩ : Gl Cav).v] ++ (t.tag).map V8) H (i := 4) rfl rfl rt76 (by rw [List.length_append, List.length_map, (show (t.tag).length = 32 from htag)]; rfl)) ?_)
        refine l_op (o_callR Try.func72 rfl rfl rfl (effect_ret _ (⟨t.serial, t.tenant, t.rights, t.from_, t.until_, (⟨some ⟨b5, 0, none⟩, t.cs.len, t.cs.len + 2, t.cs.l⟩ : Gl Cav), t.tag⟩ : Tok) (show Gl.ok cavE 2 (⟨some ⟨b5, 0, none⟩, t.cs.len, t.cs.len + 2, t.cs.l⟩ : Gl Cav) _ from glBlk ([((0 : UInt8), (0 : Int)), ((0 : UInt8), (0 : Int))]) (H.has (.blk b5 (((t.cs.l ++ [((0 : UInt8), (0 : Int))]) ++ [((0 : UInt8), (0 : Int))]).flatMap cavE) 78) (by simp)) (by simp) (fun _ _ => rfl) hcl (by omega) (by omega)) (show (t.tag).length = 32 from htag)) ?_)
        rintro _ w ⟨rfl, Hc⟩
        replace H : Hp _ w _ ([_, _, _, _, _, _, _, _, _, _, _]) := H.call Hc
        clear Hc
        refine l_op (o_val (r_mv) ?_)
        refine l_op (o_val (r_ext rfl rfl) ?_)
        refine l_op (o_val (r_ext rfl rfl) ?_)
        refine l_op (o_val (r_as) ?_)
        refine l_op (o_val (r_as) ?_)
        first | refine l_end ?_ | refine l_nil ?_
        repeat refine c_seq ?_
        refine c_region ?_
        refine l_op (o_val (r_ldA (C := [V64 t.serial, .string ⟨(t.tenant).toArray⟩, V8 t.rights, VI t.from_, VI t.until_, t.cs.v] ++ (t.tag).map V8) H (i := 1) rfl rfl rt76 (by rw [List.length_append, List.length_map, (show (t.tag).length = 32 from htag)]; rfl)) ?_)
        refine l_op (o_callR Try.func73 rfl rfl rfl (effect14_ret _ t (hc.up H) (show (t.tag).length = 32 from htag)) ?_)
        rintro _ w ⟨rfl, Hc⟩
        replace H : Hp _ w _ ([_, _, _, _, _, _, _, _, _, _, _]) := H.call Hc
        clear Hc
        refine l_op (o_val (r_mv) ?_)
        refine l_op (o_val (r_ext rfl rfl) ?_)
        refine l_op (o_val (r_ext rfl rfl) ?_)
        refine l_op (o_val (r_as) ?_)
        refine l_op (o_val (r_as) ?_)
        first | refine l_end ?_ | refine l_nil ?_
        repeat refine c_seq ?_
        refine wp_held (fun w => Hp w0 w [] [.blk b1 ((key).map V8) 31, .blk b2 ([V64 t.serial, .string ⟨(t.tenant).toArray⟩, V8 t.rights, VI t.from_, VI t.until_, t.cs.v] ++ (t.tag).map V8) 76, .blk b3 ([V8 c.1, VI c.2]) 78, .blk b5 (((t.cs.l ++ [((0 : UInt8), (0 : Int))]) ++ [((0 : UInt8), (0 : Int))]).flatMap cavE) 78, .blk b6 ([V64 t.serial, .string ⟨(t.tenant).toArray⟩, V8 t.rights, VI t.from_, VI t.until_, (⟨some ⟨b5, 0, none⟩, t.cs.len, t.cs.len + 2, t.cs.l⟩ : Gl Cav).v] ++ (t.tag).map V8) 76, .blk b10 ([V64 t.serial, .string ⟨(t.tenant).toArray⟩, V8 t.rights, VI t.from_, VI t.until_, .slice none 0 0] ++ (hmac (key) (framed [headB (t.serial) (t.tenant) (t.rights) (t.from_) (t.until_)])).map V8) 76, .blk b11 ([V64 t.serial, .string ⟨(t.tenant).toArray⟩, V8 t.rights, VI t.from_, VI t.until_, t.cs.v] ++ (hmac (key) (framed [t.head])).map V8) 76, .own a14 (t.cs.len + 1) c15 ((t.cs.l ++ [c]).flatMap cavE) 78 2, .blk b16 ([V64 t.serial, .string ⟨(t.tenant).toArray⟩, V8 t.rights, VI t.from_, VI t.until_, .slice (hd a14) (t.cs.len + 1) c15] ++ (onF (t.tag) [c]).map V8) 76, .own a17 (t.cs.len + 1) c18 ((t.cs.l ++ [c]).flatMap cavE) 78 2, .blk b19 ([V64 t.serial, .string ⟨(t.tenant).toArray⟩, V8 t.rights, VI t.from_, VI t.until_, .slice (hd a17) (t.cs.len + 1) c18] ++ (onF (t.tag) [c]).map V8) 76]) mixed ?_
        replace H := H.drew
        have HS := H
        refine t_take 0 rfl (by kernel_rfl) (by kernel_rfl) (by kernel_rfl) (fun _ _ _ h => h) (fun w HS => r_mv) HS ?_
        refine t_take 1 rfl (by kernel_rfl) (by kernel_rfl) (by kernel_rfl) (fun _ _ _ h => h) (fun w HS => r_mv) HS ?_
        refine t_take 2 rfl (by kernel_rfl) (by kernel_rfl) (by kernel_rfl) (fun _ _ _ h => h) (fun w HS => r_bin (a := 0) (b := 0) rfl rfl (fun _ => b_neqB false (decide_eq_false (by decide)))) HS ?_
        refine t_take 3 rfl (by kernel_rfl) (by kernel_rfl) (by kernel_rfl) (fun _ _ _ h => h) (fun w HS => r_mv) HS ?_
        refine t_takeg 4 rfl (by kernel_rfl) (by kernel_rfl) (by kernel_rfl) (fun _ _ _ h => h) (yielded_mk _ _ _ rfl _ rfl rfl) (fun w HS => r_mv) HS ?_
        refine t_takeg 5 rfl (by kernel_rfl) (by kernel_rfl) (by kernel_rfl) (fun _ _ _ h => h) (yielded_mk _ _ _ rfl _ rfl rfl) (fun w HS => r_mv) HS ?_
        refine t_takeg 6 rfl (by kernel_rfl) (by kernel_rfl) (by kernel_rfl) (fun _ _ _ h => h) (yielded_mk _ _ _ rfl _ rfl rfl) (fun w HS => r_bin (a := 0) (b := 0) rfl rfl (fun _ => b_neqB false (decide_eq_false (by decide)))) HS ?_
        refine t_take 7 rfl (by kernel_rfl) (by kernel_rfl) (by kernel_rfl) (fun _ _ _ h => h) (fun w HS => r_pick rfl) HS ?_
        refine t_take 8 rfl (by kernel_rfl) (by kernel_rfl) (by kernel_rfl) (fun _ _ _ h => h) (fun w HS => r_mv) HS ?_
        refine t_takeg 9 rfl (by kernel_rfl) (by kernel_rfl) (by kernel_rfl) (fun _ _ _ h => h) (yielded_mk _ _ _ rfl _ rfl rfl) (fun w HS => r_ldA (C := [V64 t.serial, .string ⟨(t.tenant).toArray⟩, V8 t.rights, VI t.from_, VI t.until_, .slice none 0 0] ++ (hmac (key) (framed [headB (t.serial) (t.tenant) (t.rights) (t.from_) (t.until_)])).map V8) HS (i := 5) rfl rfl rt76 (by rw [List.length_append, List.length_map, (show (hmac (key) (framed [headB (t.serial) (t.tenant) (t.rights) (t.from_) (t.until_)])).length = 32 from hmac_len _ _)]; rfl)) HS ?_
        refine t_takeg 10 rfl (by kernel_rfl) (by kernel_rfl) (by kernel_rfl) (fun _ _ _ h => h) (yielded_mk _ _ _ rfl _ rfl rfl) (fun w HS => r_ldA (C := [V64 t.serial, .string ⟨(t.tenant).toArray⟩, V8 t.rights, VI t.from_, VI t.until_, t.cs.v] ++ (hmac (key) (framed [t.head])).map V8) HS (i := 6) rfl rfl rt76 (by rw [List.length_append, List.length_map, (show (hmac (key) (framed [t.head])).length = 32 from hmac_len _ _)]; rfl)) HS ?_
        refine t_stepg 11 rfl (by kernel_rfl) (yielded_mk _ _ _ rfl _ rfl rfl) (o_callR Try.func74 rfl rfl rfl (same14_ret _ (⟨t.serial, t.tenant, t.rights, t.from_, t.until_, ⟨none, 0, 0, []⟩, hmac (key) (framed [headB (t.serial) (t.tenant) (t.rights) (t.from_) (t.until_)])⟩ : Tok) (⟨t.serial, t.tenant, t.rights, t.from_, t.until_, t.cs, hmac (key) (framed [t.head])⟩ : Tok) (Gl.ok_nil _) (show (hmac (key) (framed [headB (t.serial) (t.tenant) (t.rights) (t.from_) (t.until_)])).length = 32 from hmac_len _ _) (hc.up H) (show (hmac (key) (framed [t.head])).length = 32 from hmac_len _ _)) ?_)
        rintro _ w ⟨rfl, Hc⟩
        replace H : Hp _ w _ ([_, _, _, _, _, _, _, _, _, _, _]) := H.call Hc
        clear Hc
        have hk20 : (sameT (⟨t.serial, t.tenant, t.rights, t.from_, t.until_, ⟨none, 0, 0, []⟩, hmac (key) (framed [headB (t.serial) (t.tenant) (t.rights) (t.from_) (t.until_)])⟩ : Tok) (⟨t.serial, t.tenant, t.rights, t.from_, t.until_, t.cs, hmac (key) (framed [t.head])⟩ : Tok)) = true := (decide_eq_true (by first | rfl | (have e := hcs0 (by omega); show (⟨t.serial, t.tenant, t.rights, t.from_, t.until_, [], hmac key (framed [t.head])⟩ : TV) = ⟨t.serial, t.tenant, t.rights, t.from_, t.until_, t.cs.l, hmac key (framed [t.head])⟩; rw [e])))
        refine ⟨H, ?_⟩
        replace HS := H
        refine t_takeg 12 rfl (by kernel_rfl) (by kernel_rfl) (by kernel_rfl) (fun _ _ _ h => h) (yielded_mk _ _ _ rfl _ rfl rfl) (fun w HS => r_not rfl) HS ?_
        refine t_take 13 rfl (by kernel_rfl) (by kernel_rfl) (by kernel_rfl) (fun _ _ _ h => h) (fun w HS => r_pick rfl) HS ?_
        refine t_take 14 rfl (by kernel_rfl) (by kernel_rfl) (by kernel_rfl) (fun _ _ _ h => h) (fun w HS => r_mv) HS ?_
        refine t_takeg 15 rfl (by kernel_rfl) (by kernel_rfl) (by kernel_rfl) (fun _ _ _ h => h) (yielded_mk _ _ _ rfl _ rfl (by exact congrArg Value.bool (congrArg not hk20))) (fun w HS => r_ldA (C := [V64 t.serial, .string ⟨(t.tenant).toArray⟩, V8 t.rights, VI t.from_, VI t.until_, .slice (hd a14) (t.cs.len + 1) c15] ++ (onF (t.tag) [c]).map V8) HS (i := 8) rfl rfl rt76 (by rw [List.length_append, List.length_map, (show (onF (t.tag) [c]).length = 32 from onF_len _ (show (t.tag).length = 32 from htag) _)]; rfl)) HS ?_
        refine t_takeg 16 rfl (by kernel_rfl) (by kernel_rfl) (by kernel_rfl) (fun _ _ _ h => h) (yielded_mk _ _ _ rfl _ rfl (by exact congrArg Value.bool (congrArg not hk20))) (fun w HS => r_ldA (C := [V64 t.serial, .string ⟨(t.tenant).toArray⟩, V8 t.rights, VI t.from_, VI t.until_, .slice (hd a17) (t.cs.len + 1) c18] ++ (onF (t.tag) [c]).map V8) HS (i := 10) rfl rfl rt76 (by rw [List.length_append, List.length_map, (show (onF (t.tag) [c]).length = 32 from onF_len _ (show (t.tag).length = 32 from htag) _)]; rfl)) HS ?_
        refine t_stepg 17 rfl (by kernel_rfl) (yielded_mk _ _ _ rfl _ rfl (by exact congrArg Value.bool (congrArg not hk20))) (o_callR Try.func74 rfl rfl rfl (same14_ret _ (⟨t.serial, t.tenant, t.rights, t.from_, t.until_, ⟨hd a14, t.cs.len + 1, c15, t.cs.l ++ [c]⟩, onF (t.tag) [c]⟩ : Tok) (⟨t.serial, t.tenant, t.rights, t.from_, t.until_, ⟨hd a17, t.cs.len + 1, c18, t.cs.l ++ [c]⟩, onF (t.tag) [c]⟩ : Tok) (H.glOwn (i := 7) rfl (by decide) (fun _ _ => rfl)) (show (onF (t.tag) [c]).length = 32 from onF_len _ (show (t.tag).length = 32 from htag) _) (H.glOwn (i := 9) rfl (by decide) (fun _ _ => rfl)) (show (onF (t.tag) [c]).length = 32 from onF_len _ (show (t.tag).length = 32 from htag) _)) ?_)
        rintro _ w ⟨rfl, Hc⟩
        replace H : Hp _ w _ ([_, _, _, _, _, _, _, _, _, _, _]) := H.call Hc
        clear Hc
        have hk21 : (sameT (⟨t.serial, t.tenant, t.rights, t.from_, t.until_, ⟨hd a14, t.cs.len + 1, c15, t.cs.l ++ [c]⟩, onF (t.tag) [c]⟩ : Tok) (⟨t.serial, t.tenant, t.rights, t.from_, t.until_, ⟨hd a17, t.cs.len + 1, c18, t.cs.l ++ [c]⟩, onF (t.tag) [c]⟩ : Tok)) = true := (decide_eq_true rfl)
        refine ⟨H, ?_⟩
        replace HS := H
        refine t_takeg 18 rfl (by kernel_rfl) (by kernel_rfl) (by kernel_rfl) (fun _ _ _ h => h) (yielded_mk _ _ _ rfl _ rfl (by exact congrArg Value.bool (congrArg not hk20))) (fun w HS => r_not rfl) HS ?_
        refine t_take 19 rfl (by kernel_rfl) (by kernel_rfl) (by kernel_rfl) (fun _ _ _ h => h) (fun w HS => r_pick (b := false) (congrArg Value.bool (congrArg not hk20))) HS ?_
        refine t_take 20 rfl (by kernel_rfl) (by kernel_rfl) (by kernel_rfl) (fun _ _ _ h => h) (fun w HS => r_mv) HS ?_
        refine t_takeg 21 rfl (by kernel_rfl) (by kernel_rfl) (by kernel_rfl) (fun _ _ _ h => h) (yielded_mk _ _ _ rfl _ rfl (by exact congrArg Value.bool (congrArg not hk21))) (fun w HS => r_mv) HS ?_
        refine t_takeg 22 rfl (by kernel_rfl) (by kernel_rfl) (by kernel_rfl) (fun _ _ _ h => h) (yielded_mk _ _ _ rfl _ rfl (by exact congrArg Value.bool (congrArg not hk21))) (fun w HS => r_mv) HS ?_
        refine t_takeg 23 rfl (by kernel_rfl) (by kernel_rfl) (by kernel_rfl) (fun _ _ _ h => h) (yielded_mk _ _ _ rfl _ rfl (by exact congrArg Value.bool (congrArg not hk21))) (fun w HS => r_bin (a := (((effF (t.rights) (t.until_) t.cs.l).1).toNat : Int)) (b := (((effF (t.rights) (t.until_) t.cs.l).1).toNat : Int)) rfl rfl (fun _ => b_neqB false (decide_eq_false (fun h => h rfl)))) HS ?_
        refine t_take 24 rfl (by kernel_rfl) (by kernel_rfl) (by kernel_rfl) (fun _ _ _ h => h) (fun w HS => r_pick (b := false) (congrArg Value.bool (congrArg not hk21))) HS ?_
        refine t_take 25 rfl (by kernel_rfl) (by kernel_rfl) (by kernel_rfl) (fun _ _ _ h => h) (fun w HS => r_mv) HS ?_
        refine t_takeg 26 rfl (by kernel_rfl) (by kernel_rfl) (by kernel_rfl) (fun _ _ _ h => h) (yielded_mk _ _ _ rfl _ rfl rfl) (fun w HS => r_mv) HS ?_
        refine t_takeg 27 rfl (by kernel_rfl) (by kernel_rfl) (by kernel_rfl) (fun _ _ _ h => h) (yielded_mk _ _ _ rfl _ rfl rfl) (fun w HS => r_mv) HS ?_
        refine t_takeg 28 rfl (by kernel_rfl) (by kernel_rfl) (by kernel_rfl) (fun _ _ _ h => h) (yielded_mk _ _ _ rfl _ rfl rfl) (fun w HS => r_bin (a := (effF (t.rights) (t.until_) t.cs.l).2) (b := (effF (t.rights) (t.until_) t.cs.l).2) rfl rfl (fun _ => b_neqB false (decide_eq_false (fun h => h rfl)))) HS ?_
        refine t_take 29 rfl (by kernel_rfl) (by kernel_rfl) (by kernel_rfl) (fun _ _ _ h => h) (fun w HS => r_pick rfl) HS ?_
        refine t_take 30 rfl (by kernel_rfl) (by kernel_rfl) (by kernel_rfl) (fun _ _ _ h => h) (fun w HS => r_mv) HS ?_
        refine t_takeg 31 rfl (by kernel_rfl) (by kernel_rfl) (by kernel_rfl) (fun _ _ _ h => h) (yielded_mk _ _ _ rfl _ rfl rfl) (fun w HS => r_ldA (C := [V64 t.serial, .string ⟨(t.tenant).toArray⟩, V8 t.rights, VI t.from_, VI t.until_, (⟨some ⟨b5, 0, none⟩, t.cs.len, t.cs.len + 2, t.cs.l⟩ : Gl Cav).v] ++ (t.tag).map V8) HS (i := 4) rfl rfl rt76 (by rw [List.length_append, List.length_map, (show (t.tag).length = 32 from htag)]; rfl)) HS ?_
        refine t_takeg 33 rfl (by kernel_rfl) (by kernel_rfl) (by kernel_rfl) (fun _ _ _ h => h) (yielded_mk _ _ _ rfl _ rfl rfl) (fun w HS => r_ldA (C := [V64 t.serial, .string ⟨(t.tenant).toArray⟩, V8 t.rights, VI t.from_, VI t.until_, t.cs.v] ++ (t.tag).map V8) HS (i := 1) rfl rfl rt76 (by rw [List.length_append, List.length_map, (show (t.tag).length = 32 from htag)]; rfl)) HS ?_
        refine t_stepg 32 rfl (by kernel_rfl) (yielded_mk _ _ _ rfl _ rfl rfl) (o_callR Try.func75 rfl rfl rfl (may_ret _ (⟨t.serial, t.tenant, t.rights, t.from_, t.until_, (⟨some ⟨b5, 0, none⟩, t.cs.len, t.cs.len + 2, t.cs.l⟩ : Gl Cav), t.tag⟩ : Tok) (show Gl.ok cavE 2 (⟨some ⟨b5, 0, none⟩, t.cs.len, t.cs.len + 2, t.cs.l⟩ : Gl Cav) _ from glBlk ([((0 : UInt8), (0 : Int)), ((0 : UInt8), (0 : Int))]) (H.has (.blk b5 (((t.cs.l ++ [((0 : UInt8), (0 : Int))]) ++ [((0 : UInt8), (0 : Int))]).flatMap cavE) 78) (by simp)) (by simp) (fun _ _ => rfl) hcl (by omega) (by omega)) (show (t.tag).length = 32 from htag) (by first | omega | (dsimp only; omega) | simp)) ?_)
        rintro _ w ⟨rfl, Hc⟩
        replace H : Hp _ w _ ([_, _, _, _, _, _, _, _, _, _, _]) := H.call Hc
        clear Hc
        refine ⟨H, ?_⟩
        replace HS := H
        refine t_stepg 34 rfl (by kernel_rfl) (yielded_mk _ _ _ rfl _ rfl rfl) (o_callR Try.func76 rfl rfl rfl (may14_ret _ t (hc.up H) (show (t.tag).length = 32 from htag) (by first | omega | (dsimp only; omega) | simp)) ?_)
        rintro _ w ⟨rfl, Hc⟩
        replace H : Hp _ w _ ([_, _, _, _, _, _, _, _, _, _, _]) := H.call Hc
        clear Hc
        refine ⟨H, ?_⟩
        replace HS := H
        refine t_takeg 35 rfl (by kernel_rfl) (by kernel_rfl) (by kernel_rfl) (fun _ _ _ h => h) (yielded_mk _ _ _ rfl _ rfl rfl) (fun w HS => r_bne Try.underlying4 rfl rfl) HS ?_
        have hk22 : (!((mayT (⟨t.serial, t.tenant, t.rights, t.from_, t.until_, (⟨some ⟨b5, 0, none⟩, t.cs.len, t.cs.len + 2, t.cs.l⟩ : Gl Cav), t.tag⟩ : Tok)) == (mayT t))) = false := (by show (!(mayT t == mayT t)) = false; simp)
        refine t_take 36 rfl (by kernel_rfl) (by kernel_rfl) (by kernel_rfl) (fun _ _ _ h => h) (fun w HS => r_pick rfl) HS ?_
        refine t_take 37 rfl (by kernel_rfl) (by kernel_rfl) (by kernel_rfl) (fun _ _ _ h => h) (fun w HS => r_mv) HS ?_
        refine t_takeg 38 rfl (by kernel_rfl) (by kernel_rfl) (by kernel_rfl) (fun _ _ _ h => h) (yielded_mk _ _ _ rfl _ rfl (by exact congrArg Value.bool hk22)) (fun w HS => r_ldAA (l := key) HS (i := 0) rfl rfl rt31 (show (key).length = 32 from hk)) HS ?_
        refine t_takeg 39 rfl (by kernel_rfl) (by kernel_rfl) (by kernel_rfl) (fun _ _ _ h => h) (yielded_mk _ _ _ rfl _ rfl (by exact congrArg Value.bool hk22)) (fun w HS => r_ldA (C := [V64 t.serial, .string ⟨(t.tenant).toArray⟩, V8 t.rights, VI t.from_, VI t.until_, (⟨some ⟨b5, 0, none⟩, t.cs.len, t.cs.len + 2, t.cs.l⟩ : Gl Cav).v] ++ (t.tag).map V8) HS (i := 4) rfl rfl rt76 (by rw [List.length_append, List.length_map, (show (t.tag).length = 32 from htag)]; rfl)) HS ?_
        refine t_takeg 40 rfl (by kernel_rfl) (by kernel_rfl) (by kernel_rfl) (fun _ _ _ h => h) (yielded_mk _ _ _ rfl _ rfl (by exact congrArg Value.bool hk22)) (fun w HS => r_mv) HS ?_
        refine t_takeg 42 rfl (by kernel_rfl) (by kernel_rfl) (by kernel_rfl) (fun _ _ _ h => h) (yielded_mk _ _ _ rfl _ rfl (by exact congrArg Value.bool hk22)) (fun w HS => r_ldAA (l := key) HS (i := 0) rfl rfl rt31 (show (key).length = 32 from hk)) HS ?_
        refine t_takeg 43 rfl (by kernel_rfl) (by kernel_rfl) (by kernel_rfl) (fun _ _ _ h => h) (yielded_mk _ _ _ rfl _ rfl (by exact congrArg Value.bool hk22)) (fun w HS => r_ldA (C := [V64 t.serial, .string ⟨(t.tenant).toArray⟩, V8 t.rights, VI t.from_, VI t.until_, t.cs.v] ++ (t.tag).map V8) HS (i := 1) rfl rfl rt76 (by rw [List.length_append, List.length_map, (show (t.tag).length = 32 from htag)]; rfl)) HS ?_
        refine t_takeg 44 rfl (by kernel_rfl) (by kernel_rfl) (by kernel_rfl) (fun _ _ _ h => h) (yielded_mk _ _ _ rfl _ rfl (by exact congrArg Value.bool hk22)) (fun w HS => r_mv) HS ?_
        refine t_stepg 41 rfl (by kernel_rfl) (yielded_mk _ _ _ rfl _ rfl (by exact congrArg Value.bool hk22)) (o_callR Try.func77 rfl rfl rfl (check14_ret _ (key) (show (key).length = 32 from hk) (⟨t.serial, t.tenant, t.rights, t.from_, t.until_, (⟨some ⟨b5, 0, none⟩, t.cs.len, t.cs.len + 2, t.cs.l⟩ : Gl Cav), t.tag⟩ : Tok) (show Gl.ok cavE 2 (⟨some ⟨b5, 0, none⟩, t.cs.len, t.cs.len + 2, t.cs.l⟩ : Gl Cav) _ from glBlk ([((0 : UInt8), (0 : Int)), ((0 : UInt8), (0 : Int))]) (H.has (.blk b5 (((t.cs.l ++ [((0 : UInt8), (0 : Int))]) ++ [((0 : UInt8), (0 : Int))]).flatMap cavE) 78) (by simp)) (by simp) (fun _ _ => rfl) hcl (by omega) (by omega)) (show (t.tag).length = 32 from htag) (by first | omega | (dsimp only; omega) | simp) (now)) ?_)
        rintro _ w ⟨rfl, Hc⟩
        replace H : Hp _ w _ ([_, _, _, _, _, _, _, _, _, _, _]) := H.call Hc
        clear Hc
        refine ⟨H, ?_⟩
        replace HS := H
        refine t_stepg 45 rfl (by kernel_rfl) (yielded_mk _ _ _ rfl _ rfl (by exact congrArg Value.bool hk22)) (o_callR Try.func78 rfl rfl rfl (check14r_ret _ (key) (show (key).length = 32 from hk) t (hc.up H) (show (t.tag).length = 32 from htag) (by first | omega | (dsimp only; omega) | simp) hb (now)) ?_)
        rintro _ w ⟨rfl, Hc⟩
        replace H : Hp _ w _ ([_, _, _, _, _, _, _, _, _, _, _]) := H.call Hc
        clear Hc
        refine ⟨H, ?_⟩
        replace HS := H
        refine t_takeg 46 rfl (by kernel_rfl) (by kernel_rfl) (by kernel_rfl) (fun _ _ _ h => h) (yielded_mk _ _ _ rfl _ rfl (by exact congrArg Value.bool hk22)) (fun w HS => r_bin (a := checkT (key) (⟨t.serial, t.tenant, t.rights, t.from_, t.until_, (⟨some ⟨b5, 0, none⟩, t.cs.len, t.cs.len + 2, t.cs.l⟩ : Gl Cav), t.tag⟩ : Tok) (now)) (b := checkT (key) t (now)) rfl rfl (fun _ => b_neqB false (decide_eq_false (fun h => h rfl)))) HS ?_
        refine t_take 47 rfl (by kernel_rfl) (by kernel_rfl) (by kernel_rfl) (fun _ _ _ h => h) (fun w HS => r_pick (b := false) (congrArg Value.bool hk22)) HS ?_
        refine t_take 48 rfl (by kernel_rfl) (by kernel_rfl) (by kernel_rfl) (fun _ _ _ h => h) (fun w HS => r_mv) HS ?_
        refine t_takeg 49 rfl (by kernel_rfl) (by kernel_rfl) (by kernel_rfl) (fun _ _ _ h => h) (yielded_mk _ _ _ rfl _ rfl rfl) (fun w HS => r_ldA (C := [V64 t.serial, .string ⟨(t.tenant).toArray⟩, V8 t.rights, VI t.from_, VI t.until_, (⟨some ⟨b5, 0, none⟩, t.cs.len, t.cs.len + 2, t.cs.l⟩ : Gl Cav).v] ++ (t.tag).map V8) HS (i := 4) rfl rfl rt76 (by rw [List.length_append, List.length_map, (show (t.tag).length = 32 from htag)]; rfl)) HS ?_
        refine t_takeg 50 rfl (by kernel_rfl) (by kernel_rfl) (by kernel_rfl) (fun _ _ _ h => h) (yielded_mk _ _ _ rfl _ rfl rfl) (fun w HS => r_ldA (C := [V64 t.serial, .string ⟨(t.tenant).toArray⟩, V8 t.rights, VI t.from_, VI t.until_, t.cs.v] ++ (t.tag).map V8) HS (i := 1) rfl rfl rt76 (by rw [List.length_append, List.length_map, (show (t.tag).length = 32 from htag)]; rfl)) HS ?_
        refine t_stepg 51 rfl (by kernel_rfl) (yielded_mk _ _ _ rfl _ rfl rfl) (o_callR Try.func74 rfl rfl rfl (same14_ret _ (⟨t.serial, t.tenant, t.rights, t.from_, t.until_, (⟨some ⟨b5, 0, none⟩, t.cs.len, t.cs.len + 2, t.cs.l⟩ : Gl Cav), t.tag⟩ : Tok) t (show Gl.ok cavE 2 (⟨some ⟨b5, 0, none⟩, t.cs.len, t.cs.len + 2, t.cs.l⟩ : Gl Cav) _ from glBlk ([((0 : UInt8), (0 : Int)), ((0 : UInt8), (0 : Int))]) (H.has (.blk b5 (((t.cs.l ++ [((0 : UInt8), (0 : Int))]) ++ [((0 : UInt8), (0 : Int))]).flatMap cavE) 78) (by simp)) (by simp) (fun _ _ => rfl) hcl (by omega) (by omega)) (show (t.tag).length = 32 from htag) (hc.up H) (show (t.tag).length = 32 from htag)) ?_)
        rintro _ w ⟨rfl, Hc⟩
        replace H : Hp _ w _ ([_, _, _, _, _, _, _, _, _, _, _]) := H.call Hc
        clear Hc
        have hk23 : (sameT (⟨t.serial, t.tenant, t.rights, t.from_, t.until_, (⟨some ⟨b5, 0, none⟩, t.cs.len, t.cs.len + 2, t.cs.l⟩ : Gl Cav), t.tag⟩ : Tok) t) = true := (decide_eq_true rfl)
        refine ⟨H, ?_⟩
        replace HS := H
        refine t_takeg 52 rfl (by kernel_rfl) (by kernel_rfl) (by kernel_rfl) (fun _ _ _ h => h) (yielded_mk _ _ _ rfl _ rfl rfl) (fun w HS => r_not rfl) HS ?_
        refine t_take 53 rfl (by kernel_rfl) (by kernel_rfl) (by kernel_rfl) (fun _ _ _ h => h) (fun w HS => r_pick rfl) HS ?_
        refine t_done (by kernel_rfl) ?_
        clear HS
        repeat refine c_seq ?_
        refine c_no (by exact congrArg Value.bool (congrArg not hk23)) ?_
        refine c_skip ?_
        repeat refine c_seq ?_
        refine c_region ?_
        refine l_op (o_val (r_as) ?_)
        first | refine l_end ?_ | refine l_nil ?_
        repeat refine c_seq ?_
        refine c_block ?_
        repeat refine c_seq ?_
        refine c_loop2 (fun (j : Nat) (g : List Cav) => [(3, VI now), (4, .pointer (some ⟨b1, 0, none⟩)), (5, .pointer (some ⟨b2, 0, none⟩)), (6, .pointer (some ⟨b3, 0, none⟩)), (9, .pointer (some ⟨b6, 0, none⟩)), (10, VI (i : Int)), (15, .pointer (some ⟨b16, 0, none⟩)), (23, VI (j : Int))])
          (fun (j : Nat) (g : List Cav) w => (j ≤ t.cs.len + 1) ∧ Hp w0 w [] ([.blk b1 ((key).map V8) 31, .blk b2 ([V64 t.serial, .string ⟨(t.tenant).toArray⟩, V8 t.rights, VI t.from_, VI t.until_, t.cs.v] ++ (t.tag).map V8) 76, .blk b3 ([V8 c.1, VI c.2]) 78, .blk b5 (((t.cs.l ++ [((0 : UInt8), (0 : Int))]) ++ [((0 : UInt8), (0 : Int))]).flatMap cavE) 78, .blk b6 ([V64 t.serial, .string ⟨(t.tenant).toArray⟩, V8 t.rights, VI t.from_, VI t.until_, (⟨some ⟨b5, 0, none⟩, t.cs.len, t.cs.len + 2, t.cs.l⟩ : Gl Cav).v] ++ (t.tag).map V8) 76, .blk b10 ([V64 t.serial, .string ⟨(t.tenant).toArray⟩, V8 t.rights, VI t.from_, VI t.until_, .slice none 0 0] ++ (hmac (key) (framed [headB (t.serial) (t.tenant) (t.rights) (t.from_) (t.until_)])).map V8) 76, .blk b11 ([V64 t.serial, .string ⟨(t.tenant).toArray⟩, V8 t.rights, VI t.from_, VI t.until_, t.cs.v] ++ (hmac (key) (framed [t.head])).map V8) 76, .own a14 (t.cs.len + 1) c15 ((g).flatMap cavE) 78 2, .blk b16 ([V64 t.serial, .string ⟨(t.tenant).toArray⟩, V8 t.rights, VI t.from_, VI t.until_, .slice (hd a14) (t.cs.len + 1) c15] ++ (onF (t.tag) [c]).map V8) 76, .own a17 (t.cs.len + 1) c18 ((t.cs.l ++ [c]).flatMap cavE) 78 2, .blk b19 ([V64 t.serial, .string ⟨(t.tenant).toArray⟩, V8 t.rights, VI t.from_, VI t.until_, .slice (hd a17) (t.cs.len + 1) c18] ++ (onF (t.tag) [c]).map V8) 76]))
          (fun (j : Nat) (g : List Cav) => t.cs.len + 1 - j) 0 (t.cs.l ++ [c]) ⟨rfl, rfl, rfl, rfl, rfl, rfl, rfl, rfl, trivial⟩ ⟨Nat.zero_le _, H⟩ ?_
        clear H
        rintro j g τ w ⟨hj, H⟩
        repeat refine c_seq ?_
        refine c_region ?_
        refine l_op (o_val (r_mv) ?_)
        refine l_op (o_val (r_fa rfl fo76_5) ?_)
        refine l_op (o_val (r_ld (v := .slice (hd a14) (t.cs.len + 1) c15) H (i := 8) rfl rfl ct74 rfl) ?_)
        refine l_op (o_val (r_lens el74 rfl) ?_)
        refine l_op (o_val (r_bin (a := (j : Int)) (b := ((t.cs.len + 1 : Nat) : Int)) rfl rfl (fun _ => b_lss)) ?_)
        first | refine l_end ?_ | refine l_nil ?_
        by_cases hc24 : (j : Int) < ((t.cs.len + 1 : Nat) : Int)
        ·
         repeat refine c_seq ?_
         refine c_yes (by exact congrArg Value.bool (decide_eq_true hc24)) ?_
         refine c_skip ?_
         repeat refine c_seq ?_
         refine c_block ?_
         repeat refine c_seq ?_
         refine c_region ?_
         refine l_op (o_val (r_fa rfl fo76_5) ?_)
         refine l_op (o_val (r_ld (v := .slice (hd a14) (t.cs.len + 1) c15) H (i := 8) rfl rfl ct74 rfl) ?_)
         refine l_op (o_val (r_mv) ?_)
         refine l_op (o_val (r_bld' (cells := ([V8 (99 : UInt8), VI 0]).toArray) (pv := [(0, V8 (99 : UInt8))]) bd78 rfl rfl) ?_)
         obtain ⟨ab25, ah26⟩ := H.ownAddr (i := 7) rfl (by omega)
         refine l_op (o_val (r_isN j rfl rfl el74 ah26 (by omega) (by (try simp only [Sl.cut]); omega)) ?_)
         have hg27 := ((H.glOwn (i := 7) rfl (by decide) (fun _ _ => rfl))).ln
         refine l_op (o_stG (enc := cavE) (c := ((99 : UInt8), 0)) (k := j) H (i := 7) rfl (fun _ _ => rfl) rfl ah26 rfl cs78 rfl (by rfl) (by dsimp only at hg27; omega) (fun w H => ?_))
         replace H : Hp _ w _ ([_, _, _, _, _, _, _, .own a14 (t.cs.len + 1) c15 (((g).set j ((99 : UInt8), 0)).flatMap cavE) 78 2, _, _, _]) := H
         first | refine l_end ?_ | refine l_nil ?_
         repeat refine c_seq ?_
         refine c_region ?_
         refine l_op (o_val (r_mv) ?_)
         refine l_op (o_val (r_bin (a := (j : Int)) (b := 1) rfl rfl (fun _ => b_add (by omega) (by omega))) ?_)
         refine l_op (o_val (r_as) ?_)
         first | refine l_end ?_ | refine l_nil ?_
         refine round_end (j + 1, (g).set j ((99 : UInt8), 0)) ?_ ?_ ?_
         · exact ⟨rfl, rfl, rfl, rfl, rfl, rfl, rfl, show VI ((j : Int) + 1) = VI ((j + 1 : Nat) : Int) from congrArg VI (by omega), trivial⟩
         · refine ⟨?_, ?_⟩
           · try dsimp only
             exact by omega
           · exact H
         · show t.cs.len + 1 - (j + 1 : Nat) < t.cs.len + 1 - j; omega
        ·
         repeat refine c_seq ?_
         refine c_no (by exact congrArg Value.bool (decide_eq_false hc24)) ?_
         refine c_exit ?_
         repeat refine c_seq ?_
         refine wp_held (fun w => Hp w0 w [] [.blk b1 ((key).map V8) 31, .blk b2 ([V64 t.serial, .string ⟨(t.tenant).toArray⟩, V8 t.rights, VI t.from_, VI t.until_, t.cs.v] ++ (t.tag).map V8) 76, .blk b3 ([V8 c.1, VI c.2]) 78, .blk b5 (((t.cs.l ++ [((0 : UInt8), (0 : Int))]) ++ [((0 : UInt8), (0 : Int))]).flatMap cavE) 78, .blk b6 ([V64 t.serial, .string ⟨(t.tenant).toArray⟩, V8 t.rights, VI t.from_, VI t.until_, (⟨some ⟨b5, 0, none⟩, t.cs.len, t.cs.len + 2, t.cs.l⟩ : Gl Cav).v] ++ (t.tag).map V8) 76, .blk b10 ([V64 t.serial, .string ⟨(t.tenant).toArray⟩, V8 t.rights, VI t.from_, VI t.until_, .slice none 0 0] ++ (hmac (key) (framed [headB (t.serial) (t.tenant) (t.rights) (t.from_) (t.until_)])).map V8) 76, .blk b11 ([V64 t.serial, .string ⟨(t.tenant).toArray⟩, V8 t.rights, VI t.from_, VI t.until_, t.cs.v] ++ (hmac (key) (framed [t.head])).map V8) 76, .own a14 (t.cs.len + 1) c15 ((g).flatMap cavE) 78 2, .blk b16 ([V64 t.serial, .string ⟨(t.tenant).toArray⟩, V8 t.rights, VI t.from_, VI t.until_, .slice (hd a14) (t.cs.len + 1) c15] ++ (onF (t.tag) [c]).map V8) 76, .own a17 (t.cs.len + 1) c18 ((t.cs.l ++ [c]).flatMap cavE) 78 2, .blk b19 ([V64 t.serial, .string ⟨(t.tenant).toArray⟩, V8 t.rights, VI t.from_, VI t.until_, .slice (hd a17) (t.cs.len + 1) c18] ++ (onF (t.tag) [c]).map V8) 76]) mixed ?_
         replace H := H.drew
         have HS := H
         refine t_take 0 rfl (by kernel_rfl) (by kernel_rfl) (by kernel_rfl) (fun _ _ _ h => h) (fun w HS => r_fa rfl fo76_5) HS ?_
         refine t_take 1 rfl (by kernel_rfl) (by kernel_rfl) (by kernel_rfl) (fun _ _ _ h => h) (fun w HS => r_ld (v := (⟨some ⟨b5, 0, none⟩, t.cs.len, t.cs.len + 2, t.cs.l⟩ : Gl Cav).v) HS (i := 4) rfl rfl ct74 rfl) HS ?_
         refine t_take 2 rfl (by kernel_rfl) (by kernel_rfl) (by kernel_rfl) (fun _ _ _ h => h) (fun w HS => r_ldA (C := [V64 t.serial, .string ⟨(t.tenant).toArray⟩, V8 t.rights, VI t.from_, VI t.until_, (⟨some ⟨b5, 0, none⟩, t.cs.len, t.cs.len + 2, t.cs.l⟩ : Gl Cav).v] ++ (t.tag).map V8) HS (i := 4) rfl rfl rt76 (by rw [List.length_append, List.length_map, (show (t.tag).length = 32 from htag)]; rfl)) HS ?_
         refine t_step 3 rfl (by kernel_rfl) (o_callR Try.func79 rfl rfl rfl (cap2_z _ (⟨t.serial, t.tenant, t.rights, t.from_, t.until_, (⟨some ⟨b5, 0, none⟩, t.cs.len, t.cs.len + 2, t.cs.l⟩ : Gl Cav), t.tag⟩ : Tok) (show Gl.ok cavE 2 (⟨some ⟨b5, 0, none⟩, t.cs.len, t.cs.len + 2, t.cs.l⟩ : Gl Cav) _ from glBlk ([((0 : UInt8), (0 : Int)), ((0 : UInt8), (0 : Int))]) (H.has (.blk b5 (((t.cs.l ++ [((0 : UInt8), (0 : Int))]) ++ [((0 : UInt8), (0 : Int))]).flatMap cavE) 78) (by simp)) (by simp) (fun _ _ => rfl) hcl (by omega) (by omega)) (show (t.tag).length = 32 from htag) (by (try dsimp only); omega)) ?_)
         rintro _ w ⟨rfl, Hc⟩
         replace H : Hp _ w _ ([_, _, _, _, _, _, _, _, _, _, _]) := H.call Hc
         clear Hc
         refine ⟨H, ?_⟩
         replace HS := H
         refine t_take 4 rfl (by kernel_rfl) (by kernel_rfl) (by kernel_rfl) (fun _ _ _ h => h) (fun w HS => r_slH (len := t.cs.len) (cap := t.cs.len + 2) (h := 0) (m := t.cs.len + 2) (hv := some (VI 0)) rfl el74 rfl rfl rfl (fun w => by exact sbh (0) (by omega) (by omega) w)) HS ?_
         refine t_take 5 rfl (by kernel_rfl) (by kernel_rfl) (by kernel_rfl) (fun _ _ _ h => h) (fun w HS => r_as) HS ?_
         refine t_done (by kernel_rfl) ?_
         clear HS
         repeat refine c_seq ?_
         refine c_region ?_
         refine l_op (o_val (r_fa rfl fo76_5) ?_)
         refine l_op (o_val (r_ld (v := t.cs.v) H (i := 1) rfl rfl ct74 rfl) ?_)
         refine l_op (o_val (r_lens el74 rfl) ?_)
         refine l_op (o_val (r_bin (a := (t.cs.len : Int)) (b := 0) rfl rfl (fun _ => b_gtrB false (decide_eq_false (by omega)))) ?_)
         refine l_op (o_val (r_mv) ?_)
         refine l_no rfl rfl rfl rfl ?_
         refine l_no rfl rfl rfl rfl ?_
         refine l_no rfl rfl rfl rfl ?_
         refine l_no rfl rfl rfl rfl ?_
         refine l_no rfl rfl rfl rfl ?_
         refine l_no rfl rfl rfl rfl ?_
         refine l_no rfl rfl rfl rfl ?_
         refine l_no rfl rfl rfl rfl ?_
         refine l_op (o_val (r_pick rfl) ?_)
         first | refine l_end ?_ | refine l_nil ?_
         repeat refine c_seq ?_
         refine c_no rfl ?_
         refine c_skip ?_
         repeat refine c_seq ?_
         refine c_region ?_
         refine l_op (o_val (r_mv) ?_)
         refine l_op (o_val (r_bin (a := (i : Int)) (b := 1) rfl rfl (fun _ => b_add (by omega) (by omega))) ?_)
         refine l_op (o_val (r_as) ?_)
         first | refine l_end ?_ | refine l_nil ?_
         refine round_end (i + 1) ?_ ?_ ?_
         · exact ⟨rfl, rfl, rfl, rfl, rfl, show VI ((i : Int) + 1) = VI ((i + 1 : Nat) : Int) from congrArg VI (by omega), trivial⟩
         · refine ⟨?_, ?_⟩
           · try dsimp only
             exact by omega
           · exact H.sub (.cons_cons _ (.cons_cons _ (.cons_cons _ (.cons_cons _ (.cons_cons _ (List.nil_sublist _))))))
         · show 2 - (i + 1 : Nat) < 2 - i; omega
       ·
        refine l_op (o_callR Try.func70 rfl rfl rfl (less_n3 _ (⟨t.serial, t.tenant, t.rights, t.from_, t.until_, (⟨some ⟨b5, 0, none⟩, t.cs.len, t.cs.len + 2, t.cs.l⟩ : Gl Cav), t.tag⟩ : Tok) c (show Gl.ok cavE 2 (⟨some ⟨b5, 0, none⟩, t.cs.len, t.cs.len + 2, t.cs.l⟩ : Gl Cav) _ from glBlk ([((0 : UInt8), (0 : Int)), ((0 : UInt8), (0 : Int))]) (H.has (.blk b5 (((t.cs.l ++ [((0 : UInt8), (0 : Int))]) ++ [((0 : UInt8), (0 : Int))]).flatMap cavE) 78) (by simp)) (by simp) (fun _ _ => rfl) hcl (by omega) (by omega)) (show (t.tag).length = 32 from htag) (by first | omega | (dsimp only; omega) | simp) hc8 hc12 (by (try dsimp only); omega)) ?_)
        rintro _ w ⟨rfl, Hc⟩
        replace H : Hp _ w _ ([_, _, _, _, _, _, _]) := H.call Hc
        clear Hc
        refine l_op (o_val (r_mv) ?_)
        refine l_op (o_val (r_ext rfl rfl) ?_)
        refine l_op (o_val (r_ext rfl rfl) ?_)
        refine l_op (o_alloc H zc76 (fun b28 w H hb28 => ?_))
        replace H : Hp _ w _ ([_, _, _, _, _, _, _, .blk b28 ([V64 (0 : UInt64), .string ⟨(([] : List UInt8)).toArray⟩, V8 (0 : UInt8), VI 0, VI 0, .slice none 0 0] ++ (List.replicate 32 (0 : UInt8)).map V8) 76]) := H
        refine l_op (o_stW (C' := [V64 (0 : UInt64), .string ⟨(([] : List UInt8)).toArray⟩, V8 (0 : UInt8), VI 0, VI 0, .slice none 0 0] ++ (List.replicate 32 (0 : UInt8)).map V8) H (i := 7) rfl rfl rfl cs76 (by simp [Value.oneCell']) (by rw [List.length_append, List.length_map, (show (List.replicate 32 (0 : UInt8)).length = 32 from (List.length_replicate ..))]; rfl) (by rw [List.length_append, List.length_map, (show (List.replicate 32 (0 : UInt8)).length = 32 from (List.length_replicate ..))]; rfl) (fun w H => ?_))
        replace H : Hp _ w _ [_, _, _, _, _, _, _, _] := H
        refine l_op (o_val (r_as) ?_)
        first | refine l_end ?_ | refine l_nil ?_
        repeat refine c_seq ?_
        refine c_region ?_
        refine l_op (o_val (r_ldA (C := [V64 t.serial, .string ⟨(t.tenant).toArray⟩, V8 t.rights, VI t.from_, VI t.until_, t.cs.v] ++ (t.tag).map V8) H (i := 1) rfl rfl rt76 (by rw [List.length_append, List.length_map, (show (t.tag).length = 32 from htag)]; rfl)) ?_)
        refine l_op (o_val (r_ldA (C := [V8 c.1, VI c.2]) H (i := 2) rfl rfl rt78 (by rfl)) ?_)
        refine l_op (o_callR Try.func71 rfl rfl rfl (lessr_n3 _ t c (hc.up H) (show (t.tag).length = 32 from htag) (by first | omega | (dsimp only; omega) | simp) hc8 hc12 (by (try dsimp only); omega)) ?_)
        rintro _ w ⟨rfl, Hc⟩
        replace H : Hp _ w _ ([_, _, _, _, _, _, _, _]) := H.call Hc
        clear Hc
        refine l_op (o_val (r_mv) ?_)
        refine l_op (o_val (r_ext rfl rfl) ?_)
        refine l_op (o_val (r_ext rfl rfl) ?_)
        refine l_op (o_alloc H zc76 (fun b29 w H hb29 => ?_))
        replace H : Hp _ w _ ([_, _, _, _, _, _, _, _, .blk b29 ([V64 (0 : UInt64), .string ⟨(([] : List UInt8)).toArray⟩, V8 (0 : UInt8), VI 0, VI 0, .slice none 0 0] ++ (List.replicate 32 (0 : UInt8)).map V8) 76]) := H
        refine l_op (o_stW (C' := [V64 (0 : UInt64), .string ⟨(([] : List UInt8)).toArray⟩, V8 (0 : UInt8), VI 0, VI 0, .slice none 0 0] ++ (List.replicate 32 (0 : UInt8)).map V8) H (i := 8) rfl rfl rfl cs76 (by simp [Value.oneCell']) (by rw [List.length_append, List.length_map, (show (List.replicate 32 (0 : UInt8)).length = 32 from (List.length_replicate ..))]; rfl) (by rw [List.length_append, List.length_map, (show (List.replicate 32 (0 : UInt8)).length = 32 from (List.length_replicate ..))]; rfl) (fun w H => ?_))
        replace H : Hp _ w _ [_, _, _, _, _, _, _, _, _] := H
        refine l_op (o_val (r_as) ?_)
        first | refine l_end ?_ | refine l_nil ?_
        repeat refine c_seq ?_
        refine c_region ?_
        refine l_op (o_val (r_ldA (C := [V64 t.serial, .string ⟨(t.tenant).toArray⟩, V8 t.rights, VI t.from_, VI t.until_, (⟨some ⟨b5, 0, none⟩, t.cs.len, t.cs.len + 2, t.cs.l⟩ : Gl Cav).v] ++ (t.tag).map V8) H (i := 4) rfl rfl rt76 (by rw [List.length_append, List.length_map, (show (t.tag).length = 32 from htag)]; rfl)) ?_)
        refine l_op (o_callR Try.func72 rfl rfl rfl (effect_ret _ (⟨t.serial, t.tenant, t.rights, t.from_, t.until_, (⟨some ⟨b5, 0, none⟩, t.cs.len, t.cs.len + 2, t.cs.l⟩ : Gl Cav), t.tag⟩ : Tok) (show Gl.ok cavE 2 (⟨some ⟨b5, 0, none⟩, t.cs.len, t.cs.len + 2, t.cs.l⟩ : Gl Cav) _ from glBlk ([((0 : UInt8), (0 : Int)), ((0 : UInt8), (0 : Int))]) (H.has (.blk b5 (((t.cs.l ++ [((0 : UInt8), (0 : Int))]) ++ [((0 : UInt8), (0 : Int))]).flatMap cavE) 78) (by simp)) (by simp) (fun _ _ => rfl) hcl (by omega) (by omega)) (show (t.tag).length = 32 from htag)) ?_)
        rintro _ w ⟨rfl, Hc⟩
        replace H : Hp _ w _ ([_, _, _, _, _, _, _, _, _]) := H.call Hc
        clear Hc
        refine l_op (o_val (r_mv) ?_)
        refine l_op (o_val (r_ext rfl rfl) ?_)
        refine l_op (o_val (r_ext rfl rfl) ?_)
        refine l_op (o_val (r_as) ?_)
        refine l_op (o_val (r_as) ?_)
        first | refine l_end ?_ | refine l_nil ?_
        repeat refine c_seq ?_
        refine c_region ?_
        refine l_op (o_val (r_ldA (C := [V64 t.serial, .string ⟨(t.tenant).toArray⟩, V8 t.rights, VI t.from_, VI t.until_, t.cs.v] ++ (t.tag).map V8) H (i := 1) rfl rfl rt76 (by rw [List.length_append, List.length_map, (show (t.tag).length = 32 from htag)]; rfl)) ?_)
        refine l_op (o_callR Try.func73 rfl rfl rfl (effect14_ret _ t (hc.up H) (show (t.tag).length = 32 from htag)) ?_)
        rintro _ w ⟨rfl, Hc⟩
        replace H : Hp _ w _ ([_, _, _, _, _, _, _, _, _]) := H.call Hc
        clear Hc
        refine l_op (o_val (r_mv) ?_)
        refine l_op (o_val (r_ext rfl rfl) ?_)
        refine l_op (o_val (r_ext rfl rfl) ?_)
        refine l_op (o_val (r_as) ?_)
        refine l_op (o_val (r_as) ?_)
        first | refine l_end ?_ | refine l_nil ?_
        repeat refine c_seq ?_
        refine wp_held (fun w => Hp w0 w [] [.blk b1 ((key).map V8) 31, .blk b2 ([V64 t.serial, .string ⟨(t.tenant).toArray⟩, V8 t.rights, VI t.from_, VI t.until_, t.cs.v] ++ (t.tag).map V8) 76, .blk b3 ([V8 c.1, VI c.2]) 78, .blk b5 (((t.cs.l ++ [((0 : UInt8), (0 : Int))]) ++ [((0 : UInt8), (0 : Int))]).flatMap cavE) 78, .blk b6 ([V64 t.serial, .string ⟨(t.tenant).toArray⟩, V8 t.rights, VI t.from_, VI t.until_, (⟨some ⟨b5, 0, none⟩, t.cs.len, t.cs.len + 2, t.cs.l⟩ : Gl Cav).v] ++ (t.tag).map V8) 76, .blk b10 ([V64 t.serial, .string ⟨(t.tenant).toArray⟩, V8 t.rights, VI t.from_, VI t.until_, .slice none 0 0] ++ (hmac (key) (framed [headB (t.serial) (t.tenant) (t.rights) (t.from_) (t.until_)])).map V8) 76, .blk b11 ([V64 t.serial, .string ⟨(t.tenant).toArray⟩, V8 t.rights, VI t.from_, VI t.until_, t.cs.v] ++ (hmac (key) (framed [t.head])).map V8) 76, .blk b28 ([V64 (0 : UInt64), .string ⟨(([] : List UInt8)).toArray⟩, V8 (0 : UInt8), VI 0, VI 0, .slice none 0 0] ++ (List.replicate 32 (0 : UInt8)).map V8) 76, .blk b29 ([V64 (0 : UInt64), .string ⟨(([] : List UInt8)).toArray⟩, V8 (0 : UInt8), VI 0, VI 0, .slice none 0 0] ++ (List.replicate 32 (0 : UInt8)).map V8) 76]) mixed ?_
        replace H := H.drew
        have HS := H
        refine t_take 0 rfl (by kernel_rfl) (by kernel_rfl) (by kernel_rfl) (fun _ _ _ h => h) (fun w HS => r_mv) HS ?_
        refine t_take 1 rfl (by kernel_rfl) (by kernel_rfl) (by kernel_rfl) (fun _ _ _ h => h) (fun w HS => r_mv) HS ?_
        refine t_take 2 rfl (by kernel_rfl) (by kernel_rfl) (by kernel_rfl) (fun _ _ _ h => h) (fun w HS => r_bin (a := 0) (b := 0) rfl rfl (fun _ => b_neqB false (decide_eq_false (by decide)))) HS ?_
        refine t_take 3 rfl (by kernel_rfl) (by kernel_rfl) (by kernel_rfl) (fun _ _ _ h => h) (fun w HS => r_mv) HS ?_
        refine t_takeg 4 rfl (by kernel_rfl) (by kernel_rfl) (by kernel_rfl) (fun _ _ _ h => h) (yielded_mk _ _ _ rfl _ rfl rfl) (fun w HS => r_mv) HS ?_
        refine t_takeg 5 rfl (by kernel_rfl) (by kernel_rfl) (by kernel_rfl) (fun _ _ _ h => h) (yielded_mk _ _ _ rfl _ rfl rfl) (fun w HS => r_mv) HS ?_
        refine t_takeg 6 rfl (by kernel_rfl) (by kernel_rfl) (by kernel_rfl) (fun _ _ _ h => h) (yielded_mk _ _ _ rfl _ rfl rfl) (fun w HS => r_bin (a := 2) (b := 2) rfl rfl (fun _ => b_neqB false (decide_eq_false (by decide)))) HS ?_
        refine t_take 7 rfl (by kernel_rfl) (by kernel_rfl) (by kernel_rfl) (fun _ _ _ h => h) (fun w HS => r_pick rfl) HS ?_
        refine t_take 8 rfl (by kernel_rfl) (by kernel_rfl) (by kernel_rfl) (fun _ _ _ h => h) (fun w HS => r_mv) HS ?_
        refine t_takeg 9 rfl (by kernel_rfl) (by kernel_rfl) (by kernel_rfl) (fun _ _ _ h => h) (yielded_mk _ _ _ rfl _ rfl rfl) (fun w HS => r_ldA (C := [V64 t.serial, .string ⟨(t.tenant).toArray⟩, V8 t.rights, VI t.from_, VI t.until_, .slice none 0 0] ++ (hmac (key) (framed [headB (t.serial) (t.tenant) (t.rights) (t.from_) (t.until_)])).map V8) HS (i := 5) rfl rfl rt76 (by rw [List.length_append, List.length_map, (show (hmac (key) (framed [headB (t.serial) (t.tenant) (t.rights) (t.from_) (t.until_)])).length = 32 from hmac_len _ _)]; rfl)) HS ?_
        refine t_takeg 10 rfl (by kernel_rfl) (by kernel_rfl) (by kernel_rfl) (fun _ _ _ h => h) (yielded_mk _ _ _ rfl _ rfl rfl) (fun w HS => r_ldA (C := [V64 t.serial, .string ⟨(t.tenant).toArray⟩, V8 t.rights, VI t.from_, VI t.until_, t.cs.v] ++ (hmac (key) (framed [t.head])).map V8) HS (i := 6) rfl rfl rt76 (by rw [List.length_append, List.length_map, (show (hmac (key) (framed [t.head])).length = 32 from hmac_len _ _)]; rfl)) HS ?_
        refine t_stepg 11 rfl (by kernel_rfl) (yielded_mk _ _ _ rfl _ rfl rfl) (o_callR Try.func74 rfl rfl rfl (same14_ret _ (⟨t.serial, t.tenant, t.rights, t.from_, t.until_, ⟨none, 0, 0, []⟩, hmac (key) (framed [headB (t.serial) (t.tenant) (t.rights) (t.from_) (t.until_)])⟩ : Tok) (⟨t.serial, t.tenant, t.rights, t.from_, t.until_, t.cs, hmac (key) (framed [t.head])⟩ : Tok) (Gl.ok_nil _) (show (hmac (key) (framed [headB (t.serial) (t.tenant) (t.rights) (t.from_) (t.until_)])).length = 32 from hmac_len _ _) (hc.up H) (show (hmac (key) (framed [t.head])).length = 32 from hmac_len _ _)) ?_)
        rintro _ w ⟨rfl, Hc⟩
        replace H : Hp _ w _ ([_, _, _, _, _, _, _, _, _]) := H.call Hc
        clear Hc
        have hk30 : (sameT (⟨t.serial, t.tenant, t.rights, t.from_, t.until_, ⟨none, 0, 0, []⟩, hmac (key) (framed [headB (t.serial) (t.tenant) (t.rights) (t.from_) (t.until_)])⟩ : Tok) (⟨t.serial, t.tenant, t.rights, t.from_, t.until_, t.cs, hmac (key) (framed [t.head])⟩ : Tok)) = true := (decide_eq_true (by first | rfl | (have e := hcs0 (by omega); show (⟨t.serial, t.tenant, t.rights, t.from_, t.until_, [], hmac key (framed [t.head])⟩ : TV) = ⟨t.serial, t.tenant, t.rights, t.from_, t.until_, t.cs.l, hmac key (framed [t.head])⟩; rw [e])))
        refine ⟨H, ?_⟩
        replace HS := H
        refine t_takeg 12 rfl (by kernel_rfl) (by kernel_rfl) (by kernel_rfl) (fun _ _ _ h => h) (yielded_mk _ _ _ rfl _ rfl rfl) (fun w HS => r_not rfl) HS ?_
        refine t_take 13 rfl (by kernel_rfl) (by kernel_rfl) (by kernel_rfl) (fun _ _ _ h => h) (fun w HS => r_pick rfl) HS ?_
        refine t_take 14 rfl (by kernel_rfl) (by kernel_rfl) (by kernel_rfl) (fun _ _ _ h => h) (fun w HS => r_mv) HS ?_
        refine t_takeg 15 rfl (by kernel_rfl) (by kernel_rfl) (by kernel_rfl) (fun _ _ _ h => h) (yielded_mk _ _ _ rfl _ rfl (by exact congrArg Value.bool (congrArg not hk30))) (fun w HS => r_ldA (C := [V64 (0 : UInt64), .string ⟨(([] : List UInt8)).toArray⟩, V8 (0 : UInt8), VI 0, VI 0, .slice none 0 0] ++ (List.replicate 32 (0 : UInt8)).map V8) HS (i := 7) rfl rfl rt76 (by rw [List.length_append, List.length_map, (show (List.replicate 32 (0 : UInt8)).length = 32 from (List.length_replicate ..))]; rfl)) HS ?_
        refine t_takeg 16 rfl (by kernel_rfl) (by kernel_rfl) (by kernel_rfl) (fun _ _ _ h => h) (yielded_mk _ _ _ rfl _ rfl (by exact congrArg Value.bool (congrArg not hk30))) (fun w HS => r_ldA (C := [V64 (0 : UInt64), .string ⟨(([] : List UInt8)).toArray⟩, V8 (0 : UInt8), VI 0, VI 0, .slice none 0 0] ++ (List.replicate 32 (0 : UInt8)).map V8) HS (i := 8) rfl rfl rt76 (by rw [List.length_append, List.length_map, (show (List.replicate 32 (0 : UInt8)).length = 32 from (List.length_replicate ..))]; rfl)) HS ?_
        refine t_stepg 17 rfl (by kernel_rfl) (yielded_mk _ _ _ rfl _ rfl (by exact congrArg Value.bool (congrArg not hk30))) (o_callR Try.func74 rfl rfl rfl (same14_ret _ (⟨(0 : UInt64), ([] : List UInt8), (0 : UInt8), 0, 0, ⟨none, 0, 0, []⟩, List.replicate 32 (0 : UInt8)⟩ : Tok) (⟨(0 : UInt64), ([] : List UInt8), (0 : UInt8), 0, 0, ⟨none, 0, 0, []⟩, List.replicate 32 (0 : UInt8)⟩ : Tok) (Gl.ok_nil _) (show (List.replicate 32 (0 : UInt8)).length = 32 from (List.length_replicate ..)) (Gl.ok_nil _) (show (List.replicate 32 (0 : UInt8)).length = 32 from (List.length_replicate ..))) ?_)
        rintro _ w ⟨rfl, Hc⟩
        replace H : Hp _ w _ ([_, _, _, _, _, _, _, _, _]) := H.call Hc
        clear Hc
        have hk31 : (sameT (⟨(0 : UInt64), ([] : List UInt8), (0 : UInt8), 0, 0, ⟨none, 0, 0, []⟩, List.replicate 32 (0 : UInt8)⟩ : Tok) (⟨(0 : UInt64), ([] : List UInt8), (0 : UInt8), 0, 0, ⟨none, 0, 0, []⟩, List.replicate 32 (0 : UInt8)⟩ : Tok)) = true := (decide_eq_true rfl)
        refine ⟨H, ?_⟩
        replace HS := H
        refine t_takeg 18 rfl (by kernel_rfl) (by kernel_rfl) (by kernel_rfl) (fun _ _ _ h => h) (yielded_mk _ _ _ rfl _ rfl (by exact congrArg Value.bool (congrArg not hk30))) (fun w HS => r_not rfl) HS ?_
        refine t_take 19 rfl (by kernel_rfl) (by kernel_rfl) (by kernel_rfl) (fun _ _ _ h => h) (fun w HS => r_pick (b := false) (congrArg Value.bool (congrArg not hk30))) HS ?_
        refine t_take 20 rfl (by kernel_rfl) (by kernel_rfl) (by kernel_rfl) (fun _ _ _ h => h) (fun w HS => r_mv) HS ?_
        refine t_takeg 21 rfl (by kernel_rfl) (by kernel_rfl) (by kernel_rfl) (fun _ _ _ h => h) (yielded_mk _ _ _ rfl _ rfl (by exact congrArg Value.bool (congrArg not hk31))) (fun w HS => r_mv) HS ?_
        refine t_takeg 22 rfl (by kernel_rfl) (by kernel_rfl) (by kernel_rfl) (fun _ _ _ h => h) (yielded_mk _ _ _ rfl _ rfl (by exact congrArg Value.bool (congrArg not hk31))) (fun w HS => r_mv) HS ?_
        refine t_takeg 23 rfl (by kernel_rfl) (by kernel_rfl) (by kernel_rfl) (fun _ _ _ h => h) (yielded_mk _ _ _ rfl _ rfl (by exact congrArg Value.bool (congrArg not hk31))) (fun w HS => r_bin (a := (((effF (t.rights) (t.until_) t.cs.l).1).toNat : Int)) (b := (((effF (t.rights) (t.until_) t.cs.l).1).toNat : Int)) rfl rfl (fun _ => b_neqB false (decide_eq_false (fun h => h rfl)))) HS ?_
        refine t_take 24 rfl (by kernel_rfl) (by kernel_rfl) (by kernel_rfl) (fun _ _ _ h => h) (fun w HS => r_pick (b := false) (congrArg Value.bool (congrArg not hk31))) HS ?_
        refine t_take 25 rfl (by kernel_rfl) (by kernel_rfl) (by kernel_rfl) (fun _ _ _ h => h) (fun w HS => r_mv) HS ?_
        refine t_takeg 26 rfl (by kernel_rfl) (by kernel_rfl) (by kernel_rfl) (fun _ _ _ h => h) (yielded_mk _ _ _ rfl _ rfl rfl) (fun w HS => r_mv) HS ?_
        refine t_takeg 27 rfl (by kernel_rfl) (by kernel_rfl) (by kernel_rfl) (fun _ _ _ h => h) (yielded_mk _ _ _ rfl _ rfl rfl) (fun w HS => r_mv) HS ?_
        refine t_takeg 28 rfl (by kernel_rfl) (by kernel_rfl) (by kernel_rfl) (fun _ _ _ h => h) (yielded_mk _ _ _ rfl _ rfl rfl) (fun w HS => r_bin (a := (effF (t.rights) (t.until_) t.cs.l).2) (b := (effF (t.rights) (t.until_) t.cs.l).2) rfl rfl (fun _ => b_neqB false (decide_eq_false (fun h => h rfl)))) HS ?_
        refine t_take 29 rfl (by kernel_rfl) (by kernel_rfl) (by kernel_rfl) (fun _ _ _ h => h) (fun w HS => r_pick rfl) HS ?_
        refine t_take 30 rfl (by kernel_rfl) (by kernel_rfl) (by kernel_rfl) (fun _ _ _ h => h) (fun w HS => r_mv) HS ?_
        refine t_takeg 31 rfl (by kernel_rfl) (by kernel_rfl) (by kernel_rfl) (fun _ _ _ h => h) (yielded_mk _ _ _ rfl _ rfl rfl) (fun w HS => r_ldA (C := [V64 t.serial, .string ⟨(t.tenant).toArray⟩, V8 t.rights, VI t.from_, VI t.until_, (⟨some ⟨b5, 0, none⟩, t.cs.len, t.cs.len + 2, t.cs.l⟩ : Gl Cav).v] ++ (t.tag).map V8) HS (i := 4) rfl rfl rt76 (by rw [List.length_append, List.length_map, (show (t.tag).length = 32 from htag)]; rfl)) HS ?_
        refine t_takeg 33 rfl (by kernel_rfl) (by kernel_rfl) (by kernel_rfl) (fun _ _ _ h => h) (yielded_mk _ _ _ rfl _ rfl rfl) (fun w HS => r_ldA (C := [V64 t.serial, .string ⟨(t.tenant).toArray⟩, V8 t.rights, VI t.from_, VI t.until_, t.cs.v] ++ (t.tag).map V8) HS (i := 1) rfl rfl rt76 (by rw [List.length_append, List.length_map, (show (t.tag).length = 32 from htag)]; rfl)) HS ?_
        refine t_stepg 32 rfl (by kernel_rfl) (yielded_mk _ _ _ rfl _ rfl rfl) (o_callR Try.func75 rfl rfl rfl (may_ret _ (⟨t.serial, t.tenant, t.rights, t.from_, t.until_, (⟨some ⟨b5, 0, none⟩, t.cs.len, t.cs.len + 2, t.cs.l⟩ : Gl Cav), t.tag⟩ : Tok) (show Gl.ok cavE 2 (⟨some ⟨b5, 0, none⟩, t.cs.len, t.cs.len + 2, t.cs.l⟩ : Gl Cav) _ from glBlk ([((0 : UInt8), (0 : Int)), ((0 : UInt8), (0 : Int))]) (H.has (.blk b5 (((t.cs.l ++ [((0 : UInt8), (0 : Int))]) ++ [((0 : UInt8), (0 : Int))]).flatMap cavE) 78) (by simp)) (by simp) (fun _ _ => rfl) hcl (by omega) (by omega)) (show (t.tag).length = 32 from htag) (by first | omega | (dsimp only; omega) | simp)) ?_)
        rintro _ w ⟨rfl, Hc⟩
        replace H : Hp _ w _ ([_, _, _, _, _, _, _, _, _]) := H.call Hc
        clear Hc
        refine ⟨H, ?_⟩
        replace HS := H
        refine t_stepg 34 rfl (by kernel_rfl) (yielded_mk _ _ _ rfl _ rfl rfl) (o_callR Try.func76 rfl rfl rfl (may14_ret _ t (hc.up H) (show (t.tag).length = 32 from htag) (by first | omega | (dsimp only; omega) | simp)) ?_)
        rintro _ w ⟨rfl, Hc⟩
        replace H : Hp _ w _ ([_, _, _, _, _, _, _, _, _]) := H.call Hc
        clear Hc
        refine ⟨H, ?_⟩
        replace HS := H
        refine t_takeg 35 rfl (by kernel_rfl) (by kernel_rfl) (by kernel_rfl) (fun _ _ _ h => h) (yielded_mk _ _ _ rfl _ rfl rfl) (fun w HS => r_bne Try.underlying4 rfl rfl) HS ?_
        have hk32 : (!((mayT (⟨t.serial, t.tenant, t.rights, t.from_, t.until_, (⟨some ⟨b5, 0, none⟩, t.cs.len, t.cs.len + 2, t.cs.l⟩ : Gl Cav), t.tag⟩ : Tok)) == (mayT t))) = false := (by show (!(mayT t == mayT t)) = false; simp)
        refine t_take 36 rfl (by kernel_rfl) (by kernel_rfl) (by kernel_rfl) (fun _ _ _ h => h) (fun w HS => r_pick rfl) HS ?_
        refine t_take 37 rfl (by kernel_rfl) (by kernel_rfl) (by kernel_rfl) (fun _ _ _ h => h) (fun w HS => r_mv) HS ?_
        refine t_takeg 38 rfl (by kernel_rfl) (by kernel_rfl) (by kernel_rfl) (fun _ _ _ h => h) (yielded_mk _ _ _ rfl _ rfl (by exact congrArg Value.bool hk32)) (fun w HS => r_ldAA (l := key) HS (i := 0) rfl rfl rt31 (show (key).length = 32 from hk)) HS ?_
        refine t_takeg 39 rfl (by kernel_rfl) (by kernel_rfl) (by kernel_rfl) (fun _ _ _ h => h) (yielded_mk _ _ _ rfl _ rfl (by exact congrArg Value.bool hk32)) (fun w HS => r_ldA (C := [V64 t.serial, .string ⟨(t.tenant).toArray⟩, V8 t.rights, VI t.from_, VI t.until_, (⟨some ⟨b5, 0, none⟩, t.cs.len, t.cs.len + 2, t.cs.l⟩ : Gl Cav).v] ++ (t.tag).map V8) HS (i := 4) rfl rfl rt76 (by rw [List.length_append, List.length_map, (show (t.tag).length = 32 from htag)]; rfl)) HS ?_
        refine t_takeg 40 rfl (by kernel_rfl) (by kernel_rfl) (by kernel_rfl) (fun _ _ _ h => h) (yielded_mk _ _ _ rfl _ rfl (by exact congrArg Value.bool hk32)) (fun w HS => r_mv) HS ?_
        refine t_takeg 42 rfl (by kernel_rfl) (by kernel_rfl) (by kernel_rfl) (fun _ _ _ h => h) (yielded_mk _ _ _ rfl _ rfl (by exact congrArg Value.bool hk32)) (fun w HS => r_ldAA (l := key) HS (i := 0) rfl rfl rt31 (show (key).length = 32 from hk)) HS ?_
        refine t_takeg 43 rfl (by kernel_rfl) (by kernel_rfl) (by kernel_rfl) (fun _ _ _ h => h) (yielded_mk _ _ _ rfl _ rfl (by exact congrArg Value.bool hk32)) (fun w HS => r_ldA (C := [V64 t.serial, .string ⟨(t.tenant).toArray⟩, V8 t.rights, VI t.from_, VI t.until_, t.cs.v] ++ (t.tag).map V8) HS (i := 1) rfl rfl rt76 (by rw [List.length_append, List.length_map, (show (t.tag).length = 32 from htag)]; rfl)) HS ?_
        refine t_takeg 44 rfl (by kernel_rfl) (by kernel_rfl) (by kernel_rfl) (fun _ _ _ h => h) (yielded_mk _ _ _ rfl _ rfl (by exact congrArg Value.bool hk32)) (fun w HS => r_mv) HS ?_
        refine t_stepg 41 rfl (by kernel_rfl) (yielded_mk _ _ _ rfl _ rfl (by exact congrArg Value.bool hk32)) (o_callR Try.func77 rfl rfl rfl (check14_ret _ (key) (show (key).length = 32 from hk) (⟨t.serial, t.tenant, t.rights, t.from_, t.until_, (⟨some ⟨b5, 0, none⟩, t.cs.len, t.cs.len + 2, t.cs.l⟩ : Gl Cav), t.tag⟩ : Tok) (show Gl.ok cavE 2 (⟨some ⟨b5, 0, none⟩, t.cs.len, t.cs.len + 2, t.cs.l⟩ : Gl Cav) _ from glBlk ([((0 : UInt8), (0 : Int)), ((0 : UInt8), (0 : Int))]) (H.has (.blk b5 (((t.cs.l ++ [((0 : UInt8), (0 : Int))]) ++ [((0 : UInt8), (0 : Int))]).flatMap cavE) 78) (by simp)) (by simp) (fun _ _ => rfl) hcl (by omega) (by omega)) (show (t.tag).length = 32 from htag) (by first | omega | (dsimp only; omega) | simp) (now)) ?_)
        rintro _ w ⟨rfl, Hc⟩
        replace H : Hp _ w _ ([_, _, _, _, _, _, _, _, _]) := H.call Hc
        clear Hc
        refine ⟨H, ?_⟩
        replace HS := H
        refine t_stepg 45 rfl (by kernel_rfl) (yielded_mk _ _ _ rfl _ rfl (by exact congrArg Value.bool hk32)) (o_callR Try.func78 rfl rfl rfl (check14r_ret _ (key) (show (key).length = 32 from hk) t (hc.up H) (show (t.tag).length = 32 from htag) (by first | omega | (dsimp only; omega) | simp) hb (now)) ?_)
        rintro _ w ⟨rfl, Hc⟩
        replace H : Hp _ w _ ([_, _, _, _, _, _, _, _, _]) := H.call Hc
        clear Hc
        refine ⟨H, ?_⟩
        replace HS := H
        refine t_takeg 46 rfl (by kernel_rfl) (by kernel_rfl) (by kernel_rfl) (fun _ _ _ h => h) (yielded_mk _ _ _ rfl _ rfl (by exact congrArg Value.bool hk32)) (fun w HS => r_bin (a := checkT (key) (⟨t.serial, t.tenant, t.rights, t.from_, t.until_, (⟨some ⟨b5, 0, none⟩, t.cs.len, t.cs.len + 2, t.cs.l⟩ : Gl Cav), t.tag⟩ : Tok) (now)) (b := checkT (key) t (now)) rfl rfl (fun _ => b_neqB false (decide_eq_false (fun h => h rfl)))) HS ?_
        refine t_take 47 rfl (by kernel_rfl) (by kernel_rfl) (by kernel_rfl) (fun _ _ _ h => h) (fun w HS => r_pick (b := false) (congrArg Value.bool hk32)) HS ?_
        refine t_take 48 rfl (by kernel_rfl) (by kernel_rfl) (by kernel_rfl) (fun _ _ _ h => h) (fun w HS => r_mv) HS ?_
        refine t_takeg 49 rfl (by kernel_rfl) (by kernel_rfl) (by kernel_rfl) (fun _ _ _ h => h) (yielded_mk _ _ _ rfl _ rfl rfl) (fun w HS => r_ldA (C := [V64 t.serial, .string ⟨(t.tenant).toArray⟩, V8 t.rights, VI t.from_, VI t.until_, (⟨some ⟨b5, 0, none⟩, t.cs.len, t.cs.len + 2, t.cs.l⟩ : Gl Cav).v] ++ (t.tag).map V8) HS (i := 4) rfl rfl rt76 (by rw [List.length_append, List.length_map, (show (t.tag).length = 32 from htag)]; rfl)) HS ?_
        refine t_takeg 50 rfl (by kernel_rfl) (by kernel_rfl) (by kernel_rfl) (fun _ _ _ h => h) (yielded_mk _ _ _ rfl _ rfl rfl) (fun w HS => r_ldA (C := [V64 t.serial, .string ⟨(t.tenant).toArray⟩, V8 t.rights, VI t.from_, VI t.until_, t.cs.v] ++ (t.tag).map V8) HS (i := 1) rfl rfl rt76 (by rw [List.length_append, List.length_map, (show (t.tag).length = 32 from htag)]; rfl)) HS ?_
        refine t_stepg 51 rfl (by kernel_rfl) (yielded_mk _ _ _ rfl _ rfl rfl) (o_callR Try.func74 rfl rfl rfl (same14_ret _ (⟨t.serial, t.tenant, t.rights, t.from_, t.until_, (⟨some ⟨b5, 0, none⟩, t.cs.len, t.cs.len + 2, t.cs.l⟩ : Gl Cav), t.tag⟩ : Tok) t (show Gl.ok cavE 2 (⟨some ⟨b5, 0, none⟩, t.cs.len, t.cs.len + 2, t.cs.l⟩ : Gl Cav) _ from glBlk ([((0 : UInt8), (0 : Int)), ((0 : UInt8), (0 : Int))]) (H.has (.blk b5 (((t.cs.l ++ [((0 : UInt8), (0 : Int))]) ++ [((0 : UInt8), (0 : Int))]).flatMap cavE) 78) (by simp)) (by simp) (fun _ _ => rfl) hcl (by omega) (by omega)) (show (t.tag).length = 32 from htag) (hc.up H) (show (t.tag).length = 32 from htag)) ?_)
        rintro _ w ⟨rfl, Hc⟩
        replace H : Hp _ w _ ([_, _, _, _, _, _, _, _, _]) := H.call Hc
        clear Hc
        have hk33 : (sameT (⟨t.serial, t.tenant, t.rights, t.from_, t.until_, (⟨some ⟨b5, 0, none⟩, t.cs.len, t.cs.len + 2, t.cs.l⟩ : Gl Cav), t.tag⟩ : Tok) t) = true := (decide_eq_true rfl)
        refine ⟨H, ?_⟩
        replace HS := H
        refine t_takeg 52 rfl (by kernel_rfl) (by kernel_rfl) (by kernel_rfl) (fun _ _ _ h => h) (yielded_mk _ _ _ rfl _ rfl rfl) (fun w HS => r_not rfl) HS ?_
        refine t_take 53 rfl (by kernel_rfl) (by kernel_rfl) (by kernel_rfl) (fun _ _ _ h => h) (fun w HS => r_pick rfl) HS ?_
        refine t_done (by kernel_rfl) ?_
        clear HS
        repeat refine c_seq ?_
        refine c_no (by exact congrArg Value.bool (congrArg not hk33)) ?_
        refine c_skip ?_
        repeat refine c_seq ?_
        refine c_region ?_
        refine l_op (o_val (r_as) ?_)
        first | refine l_end ?_ | refine l_nil ?_
        repeat refine c_seq ?_
        refine c_block ?_
        repeat refine c_seq ?_
        refine c_loop (fun (j : Nat) => [(3, VI now), (4, .pointer (some ⟨b1, 0, none⟩)), (5, .pointer (some ⟨b2, 0, none⟩)), (6, .pointer (some ⟨b3, 0, none⟩)), (9, .pointer (some ⟨b6, 0, none⟩)), (10, VI (i : Int)), (15, .pointer (some ⟨b28, 0, none⟩)), (23, VI (j : Int))])
          (fun (j : Nat) w => (j = 0) ∧ Hp w0 w [] ([.blk b1 ((key).map V8) 31, .blk b2 ([V64 t.serial, .string ⟨(t.tenant).toArray⟩, V8 t.rights, VI t.from_, VI t.until_, t.cs.v] ++ (t.tag).map V8) 76, .blk b3 ([V8 c.1, VI c.2]) 78, .blk b5 (((t.cs.l ++ [((0 : UInt8), (0 : Int))]) ++ [((0 : UInt8), (0 : Int))]).flatMap cavE) 78, .blk b6 ([V64 t.serial, .string ⟨(t.tenant).toArray⟩, V8 t.rights, VI t.from_, VI t.until_, (⟨some ⟨b5, 0, none⟩, t.cs.len, t.cs.len + 2, t.cs.l⟩ : Gl Cav).v] ++ (t.tag).map V8) 76, .blk b10 ([V64 t.serial, .string ⟨(t.tenant).toArray⟩, V8 t.rights, VI t.from_, VI t.until_, .slice none 0 0] ++ (hmac (key) (framed [headB (t.serial) (t.tenant) (t.rights) (t.from_) (t.until_)])).map V8) 76, .blk b11 ([V64 t.serial, .string ⟨(t.tenant).toArray⟩, V8 t.rights, VI t.from_, VI t.until_, t.cs.v] ++ (hmac (key) (framed [t.head])).map V8) 76, .blk b28 ([V64 (0 : UInt64), .string ⟨(([] : List UInt8)).toArray⟩, V8 (0 : UInt8), VI 0, VI 0, .slice none 0 0] ++ (List.replicate 32 (0 : UInt8)).map V8) 76, .blk b29 ([V64 (0 : UInt64), .string ⟨(([] : List UInt8)).toArray⟩, V8 (0 : UInt8), VI 0, VI 0, .slice none 0 0] ++ (List.replicate 32 (0 : UInt8)).map V8) 76]))
          (fun (j : Nat) => 0) 0 ⟨rfl, rfl, rfl, rfl, rfl, rfl, rfl, rfl, trivial⟩ ⟨rfl, H⟩ ?_
        clear H
        rintro j τ w ⟨hj, H⟩
        repeat refine c_seq ?_
        refine c_region ?_
        refine l_op (o_val (r_mv) ?_)
        refine l_op (o_val (r_fa rfl fo76_5) ?_)
        refine l_op (o_val (r_ld (v := .slice none 0 0) H (i := 7) rfl rfl ct74 rfl) ?_)
        refine l_op (o_val (r_lens el74 rfl) ?_)
        refine l_op (o_val (r_bin (a := (j : Int)) (b := 0) rfl rfl (fun _ => b_lssB false (decide_eq_false (by omega)))) ?_)
        first | refine l_end ?_ | refine l_nil ?_
        repeat refine c_seq ?_
        refine c_no rfl ?_
        refine c_exit ?_
        repeat refine c_seq ?_
        refine wp_held (fun w => Hp w0 w [] [.blk b1 ((key).map V8) 31, .blk b2 ([V64 t.serial, .string ⟨(t.tenant).toArray⟩, V8 t.rights, VI t.from_, VI t.until_, t.cs.v] ++ (t.tag).map V8) 76, .blk b3 ([V8 c.1, VI c.2]) 78, .blk b5 (((t.cs.l ++ [((0 : UInt8), (0 : Int))]) ++ [((0 : UInt8), (0 : Int))]).flatMap cavE) 78, .blk b6 ([V64 t.serial, .string ⟨(t.tenant).toArray⟩, V8 t.rights, VI t.from_, VI t.until_, (⟨some ⟨b5, 0, none⟩, t.cs.len, t.cs.len + 2, t.cs.l⟩ : Gl Cav).v] ++ (t.tag).map V8) 76, .blk b10 ([V64 t.serial, .string ⟨(t.tenant).toArray⟩, V8 t.rights, VI t.from_, VI t.until_, .slice none 0 0] ++ (hmac (key) (framed [headB (t.serial) (t.tenant) (t.rights) (t.from_) (t.until_)])).map V8) 76, .blk b11 ([V64 t.serial, .string ⟨(t.tenant).toArray⟩, V8 t.rights, VI t.from_, VI t.until_, t.cs.v] ++ (hmac (key) (framed [t.head])).map V8) 76, .blk b28 ([V64 (0 : UInt64), .string ⟨(([] : List UInt8)).toArray⟩, V8 (0 : UInt8), VI 0, VI 0, .slice none 0 0] ++ (List.replicate 32 (0 : UInt8)).map V8) 76, .blk b29 ([V64 (0 : UInt64), .string ⟨(([] : List UInt8)).toArray⟩, V8 (0 : UInt8), VI 0, VI 0, .slice none 0 0] ++ (List.replicate 32 (0 : UInt8)).map V8) 76]) mixed ?_
        replace H := H.drew
        have HS := H
        refine t_take 0 rfl (by kernel_rfl) (by kernel_rfl) (by kernel_rfl) (fun _ _ _ h => h) (fun w HS => r_fa rfl fo76_5) HS ?_
        refine t_take 1 rfl (by kernel_rfl) (by kernel_rfl) (by kernel_rfl) (fun _ _ _ h => h) (fun w HS => r_ld (v := (⟨some ⟨b5, 0, none⟩, t.cs.len, t.cs.len + 2, t.cs.l⟩ : Gl Cav).v) HS (i := 4) rfl rfl ct74 rfl) HS ?_
        refine t_take 2 rfl (by kernel_rfl) (by kernel_rfl) (by kernel_rfl) (fun _ _ _ h => h) (fun w HS => r_ldA (C := [V64 t.serial, .string ⟨(t.tenant).toArray⟩, V8 t.rights, VI t.from_, VI t.until_, (⟨some ⟨b5, 0, none⟩, t.cs.len, t.cs.len + 2, t.cs.l⟩ : Gl Cav).v] ++ (t.tag).map V8) HS (i := 4) rfl rfl rt76 (by rw [List.length_append, List.length_map, (show (t.tag).length = 32 from htag)]; rfl)) HS ?_
        refine t_step 3 rfl (by kernel_rfl) (o_callR Try.func79 rfl rfl rfl (cap2_z _ (⟨t.serial, t.tenant, t.rights, t.from_, t.until_, (⟨some ⟨b5, 0, none⟩, t.cs.len, t.cs.len + 2, t.cs.l⟩ : Gl Cav), t.tag⟩ : Tok) (show Gl.ok cavE 2 (⟨some ⟨b5, 0, none⟩, t.cs.len, t.cs.len + 2, t.cs.l⟩ : Gl Cav) _ from glBlk ([((0 : UInt8), (0 : Int)), ((0 : UInt8), (0 : Int))]) (H.has (.blk b5 (((t.cs.l ++ [((0 : UInt8), (0 : Int))]) ++ [((0 : UInt8), (0 : Int))]).flatMap cavE) 78) (by simp)) (by simp) (fun _ _ => rfl) hcl (by omega) (by omega)) (show (t.tag).length = 32 from htag) (by (try dsimp only); omega)) ?_)
        rintro _ w ⟨rfl, Hc⟩
        replace H : Hp _ w _ ([_, _, _, _, _, _, _, _, _]) := H.call Hc
        clear Hc
        refine ⟨H, ?_⟩
        replace HS := H
        refine t_take 4 rfl (by kernel_rfl) (by kernel_rfl) (by kernel_rfl) (fun _ _ _ h => h) (fun w HS => r_slH (len := t.cs.len) (cap := t.cs.len + 2) (h := 0) (m := t.cs.len + 2) (hv := some (VI 0)) rfl el74 rfl rfl rfl (fun w => by exact sbh (0) (by omega) (by omega) w)) HS ?_
        refine t_take 5 rfl (by kernel_rfl) (by kernel_rfl) (by kernel_rfl) (fun _ _ _ h => h) (fun w HS => r_as) HS ?_
        refine t_done (by kernel_rfl) ?_
        clear HS
        repeat refine c_seq ?_
        refine c_region ?_
        refine l_op (o_val (r_fa rfl fo76_5) ?_)
        refine l_op (o_val (r_ld (v := t.cs.v) H (i := 1) rfl rfl ct74 rfl) ?_)
        refine l_op (o_val (r_lens el74 rfl) ?_)
        refine l_op (o_val (r_bin (a := (t.cs.len : Int)) (b := 0) rfl rfl (fun _ => b_gtrB false (decide_eq_false (by omega)))) ?_)
        refine l_op (o_val (r_mv) ?_)
        refine l_no rfl rfl rfl rfl ?_
        refine l_no rfl rfl rfl rfl ?_
        refine l_no rfl rfl rfl rfl ?_
        refine l_no rfl rfl rfl rfl ?_
        refine l_no rfl rfl rfl rfl ?_
        refine l_no rfl rfl rfl rfl ?_
        refine l_no rfl rfl rfl rfl ?_
        refine l_no rfl rfl rfl rfl ?_
        refine l_op (o_val (r_pick rfl) ?_)
        first | refine l_end ?_ | refine l_nil ?_
        repeat refine c_seq ?_
        refine c_no rfl ?_
        refine c_skip ?_
        repeat refine c_seq ?_
        refine c_region ?_
        refine l_op (o_val (r_mv) ?_)
        refine l_op (o_val (r_bin (a := (i : Int)) (b := 1) rfl rfl (fun _ => b_add (by omega) (by omega))) ?_)
        refine l_op (o_val (r_as) ?_)
        first | refine l_end ?_ | refine l_nil ?_
        refine round_end (i + 1) ?_ ?_ ?_
        · exact ⟨rfl, rfl, rfl, rfl, rfl, show VI ((i : Int) + 1) = VI ((i + 1 : Nat) : Int) from congrArg VI (by omega), trivial⟩
        · refine ⟨?_, ?_⟩
          · try dsimp only
            exact by omega
          · exact H.sub (.cons_cons _ (.cons_cons _ (.cons_cons _ (.cons_cons _ (.cons_cons _ (List.nil_sublist _))))))
        · show 2 - (i + 1 : Nat) < 2 - i; omega
      ·
       refine l_op (o_callR Try.func70 rfl rfl rfl (less_n2 _ (⟨t.serial, t.tenant, t.rights, t.from_, t.until_, (⟨some ⟨b5, 0, none⟩, t.cs.len, t.cs.len + 2, t.cs.l⟩ : Gl Cav), t.tag⟩ : Tok) c (show Gl.ok cavE 2 (⟨some ⟨b5, 0, none⟩, t.cs.len, t.cs.len + 2, t.cs.l⟩ : Gl Cav) _ from glBlk ([((0 : UInt8), (0 : Int)), ((0 : UInt8), (0 : Int))]) (H.has (.blk b5 (((t.cs.l ++ [((0 : UInt8), (0 : Int))]) ++ [((0 : UInt8), (0 : Int))]).flatMap cavE) 78) (by simp)) (by simp) (fun _ _ => rfl) hcl (by omega) (by omega)) (show (t.tag).length = 32 from htag) (by first | omega | (dsimp only; omega) | simp) hc8 hc12) ?_)
       rintro _ w ⟨rfl, Hc⟩
       replace H : Hp _ w _ ([_, _, _, _, _, _, _]) := H.call Hc
       clear Hc
       refine l_op (o_val (r_mv) ?_)
       refine l_op (o_val (r_ext rfl rfl) ?_)
       refine l_op (o_val (r_ext rfl rfl) ?_)
       refine l_op (o_alloc H zc76 (fun b34 w H hb34 => ?_))
       replace H : Hp _ w _ ([_, _, _, _, _, _, _, .blk b34 ([V64 (0 : UInt64), .string ⟨(([] : List UInt8)).toArray⟩, V8 (0 : UInt8), VI 0, VI 0, .slice none 0 0] ++ (List.replicate 32 (0 : UInt8)).map V8) 76]) := H
       refine l_op (o_stW (C' := [V64 (0 : UInt64), .string ⟨(([] : List UInt8)).toArray⟩, V8 (0 : UInt8), VI 0, VI 0, .slice none 0 0] ++ (List.replicate 32 (0 : UInt8)).map V8) H (i := 7) rfl rfl rfl cs76 (by simp [Value.oneCell']) (by rw [List.length_append, List.length_map, (show (List.replicate 32 (0 : UInt8)).length = 32 from (List.length_replicate ..))]; rfl) (by rw [List.length_append, List.length_map, (show (List.replicate 32 (0 : UInt8)).length = 32 from (List.length_replicate ..))]; rfl) (fun w H => ?_))
       replace H : Hp _ w _ [_, _, _, _, _, _, _, _] := H
       refine l_op (o_val (r_as) ?_)
       first | refine l_end ?_ | refine l_nil ?_
       repeat refine c_seq ?_
       refine c_region ?_
       refine l_op (o_val (r_ldA (C := [V64 t.serial, .string ⟨(t.tenant).toArray⟩, V8 t.rights, VI t.from_, VI t.until_, t.cs.v] ++ (t.tag).map V8) H (i := 1) rfl rfl rt76 (by rw [List.length_append, List.length_map, (show (t.tag).length = 32 from htag)]; rfl)) ?_)
       refine l_op (o_val (r_ldA (C := [V8 c.1, VI c.2]) H (i := 2) rfl rfl rt78 (by rfl)) ?_)
       refine l_op (o_callR Try.func71 rfl rfl rfl (lessr_n2 _ t c (hc.up H) (show (t.tag).length = 32 from htag) (by first | omega | (dsimp only; omega) | simp) hc8 hc12) ?_)
       rintro _ w ⟨rfl, Hc⟩
       replace H : Hp _ w _ ([_, _, _, _, _, _, _, _]) := H.call Hc
       clear Hc
       refine l_op (o_val (r_mv) ?_)
       refine l_op (o_val (r_ext rfl rfl) ?_)
       refine l_op (o_val (r_ext rfl rfl) ?_)
       refine l_op (o_alloc H zc76 (fun b35 w H hb35 => ?_))
       replace H : Hp _ w _ ([_, _, _, _, _, _, _, _, .blk b35 ([V64 (0 : UInt64), .string ⟨(([] : List UInt8)).toArray⟩, V8 (0 : UInt8), VI 0, VI 0, .slice none 0 0] ++ (List.replicate 32 (0 : UInt8)).map V8) 76]) := H
       refine l_op (o_stW (C' := [V64 (0 : UInt64), .string ⟨(([] : List UInt8)).toArray⟩, V8 (0 : UInt8), VI 0, VI 0, .slice none 0 0] ++ (List.replicate 32 (0 : UInt8)).map V8) H (i := 8) rfl rfl rfl cs76 (by simp [Value.oneCell']) (by rw [List.length_append, List.length_map, (show (List.replicate 32 (0 : UInt8)).length = 32 from (List.length_replicate ..))]; rfl) (by rw [List.length_append, List.length_map, (show (List.replicate 32 (0 : UInt8)).length = 32 from (List.length_replicate ..))]; rfl) (fun w H => ?_))
       replace H : Hp _ w _ [_, _, _, _, _, _, _, _, _] := H
       refine l_op (o_val (r_as) ?_)
       first | refine l_end ?_ | refine l_nil ?_
       repeat refine c_seq ?_
       refine c_region ?_
       refine l_op (o_val (r_ldA (C := [V64 t.serial, .string ⟨(t.tenant).toArray⟩, V8 t.rights, VI t.from_, VI t.until_, (⟨some ⟨b5, 0, none⟩, t.cs.len, t.cs.len + 2, t.cs.l⟩ : Gl Cav).v] ++ (t.tag).map V8) H (i := 4) rfl rfl rt76 (by rw [List.length_append, List.length_map, (show (t.tag).length = 32 from htag)]; rfl)) ?_)
       refine l_op (o_callR Try.func72 rfl rfl rfl (effect_ret _ (⟨t.serial, t.tenant, t.rights, t.from_, t.until_, (⟨some ⟨b5, 0, none⟩, t.cs.len, t.cs.len + 2, t.cs.l⟩ : Gl Cav), t.tag⟩ : Tok) (show Gl.ok cavE 2 (⟨some ⟨b5, 0, none⟩, t.cs.len, t.cs.len + 2, t.cs.l⟩ : Gl Cav) _ from glBlk ([((0 : UInt8), (0 : Int)), ((0 : UInt8), (0 : Int))]) (H.has (.blk b5 (((t.cs.l ++ [((0 : UInt8), (0 : Int))]) ++ [((0 : UInt8), (0 : Int))]).flatMap cavE) 78) (by simp)) (by simp) (fun _ _ => rfl) hcl (by omega) (by omega)) (show (t.tag).length = 32 from htag)) ?_)
       rintro _ w ⟨rfl, Hc⟩
       replace H : Hp _ w _ ([_, _, _, _, _, _, _, _, _]) := H.call Hc
       clear Hc
       refine l_op (o_val (r_mv) ?_)
       refine l_op (o_val (r_ext rfl rfl) ?_)
       refine l_op (o_val (r_ext rfl rfl) ?_)
       refine l_op (o_val (r_as) ?_)
       refine l_op (o_val (r_as) ?_)
       first | refine l_end ?_ | refine l_nil ?_
       repeat refine c_seq ?_
       refine c_region ?_
       refine l_op (o_val (r_ldA (C := [V64 t.serial, .string ⟨(t.tenant).toArray⟩, V8 t.rights, VI t.from_, VI t.until_, t.cs.v] ++ (t.tag).map V8) H (i := 1) rfl rfl rt76 (by rw [List.length_append, List.length_map, (show (t.tag).length = 32 from htag)]; rfl)) ?_)
       refine l_op (o_callR Try.func73 rfl rfl rfl (effect14_ret _ t (hc.up H) (show (t.tag).length = 32 from htag)) ?_)
       rintro _ w ⟨rfl, Hc⟩
       replace H : Hp _ w _ ([_, _, _, _, _, _, _, _, _]) := H.call Hc
       clear Hc
       refine l_op (o_val (r_mv) ?_)
       refine l_op (o_val (r_ext rfl rfl) ?_)
       refine l_op (o_val (r_ext rfl rfl) ?_)
       refine l_op (o_val (r_as) ?_)
       refine l_op (o_val (r_as) ?_)
       first | refine l_end ?_ | refine l_nil ?_
       repeat refine c_seq ?_
       refine wp_held (fun w => Hp w0 w [] [.blk b1 ((key).map V8) 31, .blk b2 ([V64 t.serial, .string ⟨(t.tenant).toArray⟩, V8 t.rights, VI t.from_, VI t.until_, t.cs.v] ++ (t.tag).map V8) 76, .blk b3 ([V8 c.1, VI c.2]) 78, .blk b5 (((t.cs.l ++ [((0 : UInt8), (0 : Int))]) ++ [((0 : UInt8), (0 : Int))]).flatMap cavE) 78, .blk b6 ([V64 t.serial, .string ⟨(t.tenant).toArray⟩, V8 t.rights, VI t.from_, VI t.until_, (⟨some ⟨b5, 0, none⟩, t.cs.len, t.cs.len + 2, t.cs.l⟩ : Gl Cav).v] ++ (t.tag).map V8) 76, .blk b10 ([V64 t.serial, .string ⟨(t.tenant).toArray⟩, V8 t.rights, VI t.from_, VI t.until_, .slice none 0 0] ++ (hmac (key) (framed [headB (t.serial) (t.tenant) (t.rights) (t.from_) (t.until_)])).map V8) 76, .blk b11 ([V64 t.serial, .string ⟨(t.tenant).toArray⟩, V8 t.rights, VI t.from_, VI t.until_, t.cs.v] ++ (hmac (key) (framed [t.head])).map V8) 76, .blk b34 ([V64 (0 : UInt64), .string ⟨(([] : List UInt8)).toArray⟩, V8 (0 : UInt8), VI 0, VI 0, .slice none 0 0] ++ (List.replicate 32 (0 : UInt8)).map V8) 76, .blk b35 ([V64 (0 : UInt64), .string ⟨(([] : List UInt8)).toArray⟩, V8 (0 : UInt8), VI 0, VI 0, .slice none 0 0] ++ (List.replicate 32 (0 : UInt8)).map V8) 76]) mixed ?_
       replace H := H.drew
       have HS := H
       refine t_take 0 rfl (by kernel_rfl) (by kernel_rfl) (by kernel_rfl) (fun _ _ _ h => h) (fun w HS => r_mv) HS ?_
       refine t_take 1 rfl (by kernel_rfl) (by kernel_rfl) (by kernel_rfl) (fun _ _ _ h => h) (fun w HS => r_mv) HS ?_
       refine t_take 2 rfl (by kernel_rfl) (by kernel_rfl) (by kernel_rfl) (fun _ _ _ h => h) (fun w HS => r_bin (a := 0) (b := 0) rfl rfl (fun _ => b_neqB false (decide_eq_false (by decide)))) HS ?_
       refine t_take 3 rfl (by kernel_rfl) (by kernel_rfl) (by kernel_rfl) (fun _ _ _ h => h) (fun w HS => r_mv) HS ?_
       refine t_takeg 4 rfl (by kernel_rfl) (by kernel_rfl) (by kernel_rfl) (fun _ _ _ h => h) (yielded_mk _ _ _ rfl _ rfl rfl) (fun w HS => r_mv) HS ?_
       refine t_takeg 5 rfl (by kernel_rfl) (by kernel_rfl) (by kernel_rfl) (fun _ _ _ h => h) (yielded_mk _ _ _ rfl _ rfl rfl) (fun w HS => r_mv) HS ?_
       refine t_takeg 6 rfl (by kernel_rfl) (by kernel_rfl) (by kernel_rfl) (fun _ _ _ h => h) (yielded_mk _ _ _ rfl _ rfl rfl) (fun w HS => r_bin (a := 1) (b := 1) rfl rfl (fun _ => b_neqB false (decide_eq_false (by decide)))) HS ?_
       refine t_take 7 rfl (by kernel_rfl) (by kernel_rfl) (by kernel_rfl) (fun _ _ _ h => h) (fun w HS => r_pick rfl) HS ?_
       refine t_take 8 rfl (by kernel_rfl) (by kernel_rfl) (by kernel_rfl) (fun _ _ _ h => h) (fun w HS => r_mv) HS ?_
       refine t_takeg 9 rfl (by kernel_rfl) (by kernel_rfl) (by kernel_rfl) (fun _ _ _ h => h) (yielded_mk _ _ _ rfl _ rfl rfl) (fun w HS => r_ldA (C := [V64 t.serial, .string ⟨(t.tenant).toArray⟩, V8 t.rights, VI t.from_, VI t.until_, .slice none 0 0] ++ (hmac (key) (framed [headB (t.serial) (t.tenant) (t.rights) (t.from_) (t.until_)])).map V8) HS (i := 5) rfl rfl rt76 (by rw [List.length_append, List.length_map, (show (hmac (key) (framed [headB (t.serial) (t.tenant) (t.rights) (t.from_) (t.until_)])).length = 32 from hmac_len _ _)]; rfl)) HS ?_
       refine t_takeg 10 rfl (by kernel_rfl) (by kernel_rfl) (by kernel_rfl) (fun _ _ _ h => h) (yielded_mk _ _ _ rfl _ rfl rfl) (fun w HS => r_ldA (C := [V64 t.serial, .string ⟨(t.tenant).toArray⟩, V8 t.rights, VI t.from_, VI t.until_, t.cs.v] ++ (hmac (key) (framed [t.head])).map V8) HS (i := 6) rfl rfl rt76 (by rw [List.length_append, List.length_map, (show (hmac (key) (framed [t.head])).length = 32 from hmac_len _ _)]; rfl)) HS ?_
       refine t_stepg 11 rfl (by kernel_rfl) (yielded_mk _ _ _ rfl _ rfl rfl) (o_callR Try.func74 rfl rfl rfl (same14_ret _ (⟨t.serial, t.tenant, t.rights, t.from_, t.until_, ⟨none, 0, 0, []⟩, hmac (key) (framed [headB (t.serial) (t.tenant) (t.rights) (t.from_) (t.until_)])⟩ : Tok) (⟨t.serial, t.tenant, t.rights, t.from_, t.until_, t.cs, hmac (key) (framed [t.head])⟩ : Tok) (Gl.ok_nil _) (show (hmac (key) (framed [headB (t.serial) (t.tenant) (t.rights) (t.from_) (t.until_)])).length = 32 from hmac_len _ _) (hc.up H) (show (hmac (key) (framed [t.head])).length = 32 from hmac_len _ _)) ?_)
       rintro _ w ⟨rfl, Hc⟩
       replace H : Hp _ w _ ([_, _, _, _, _, _, _, _, _]) := H.call Hc
       clear Hc
       have hk36 : (sameT (⟨t.serial, t.tenant, t.rights, t.from_, t.until_, ⟨none, 0, 0, []⟩, hmac (key) (framed [headB (t.serial) (t.tenant) (t.rights) (t.from_) (t.until_)])⟩ : Tok) (⟨t.serial, t.tenant, t.rights, t.from_, t.until_, t.cs, hmac (key) (framed [t.head])⟩ : Tok)) = true := (decide_eq_true (by first | rfl | (have e := hcs0 (by omega); show (⟨t.serial, t.tenant, t.rights, t.from_, t.until_, [], hmac key (framed [t.head])⟩ : TV) = ⟨t.serial, t.tenant, t.rights, t.from_, t.until_, t.cs.l, hmac key (framed [t.head])⟩; rw [e])))
       refine ⟨H, ?_⟩
       replace HS := H
       refine t_takeg 12 rfl (by kernel_rfl) (by kernel_rfl) (by kernel_rfl) (fun _ _ _ h => h) (yielded_mk _ _ _ rfl _ rfl rfl) (fun w HS => r_not rfl) HS ?_
       refine t_take 13 rfl (by kernel_rfl) (by kernel_rfl) (by kernel_rfl) (fun _ _ _ h => h) (fun w HS => r_pick rfl) HS ?_
       refine t_take 14 rfl (by kernel_rfl) (by kernel_rfl) (by kernel_rfl) (fun _ _ _ h => h) (fun w HS => r_mv) HS ?_
       refine t_takeg 15 rfl (by kernel_rfl) (by kernel_rfl) (by kernel_rfl) (fun _ _ _ h => h) (yielded_mk _ _ _ rfl _ rfl (by exact congrArg Value.bool (congrArg not hk36))) (fun w HS => r_ldA (C := [V64 (0 : UInt64), .string ⟨(([] : List UInt8)).toArray⟩, V8 (0 : UInt8), VI 0, VI 0, .slice none 0 0] ++ (List.replicate 32 (0 : UInt8)).map V8) HS (i := 7) rfl rfl rt76 (by rw [List.length_append, List.length_map, (show (List.replicate 32 (0 : UInt8)).length = 32 from (List.length_replicate ..))]; rfl)) HS ?_
       refine t_takeg 16 rfl (by kernel_rfl) (by kernel_rfl) (by kernel_rfl) (fun _ _ _ h => h) (yielded_mk _ _ _ rfl _ rfl (by exact congrArg Value.bool (congrArg not hk36))) (fun w HS => r_ldA (C := [V64 (0 : UInt64), .string ⟨(([] : List UInt8)).toArray⟩, V8 (0 : UInt8), VI 0, VI 0, .slice none 0 0] ++ (List.replicate 32 (0 : UInt8)).map V8) HS (i := 8) rfl rfl rt76 (by rw [List.length_append, List.length_map, (show (List.replicate 32 (0 : UInt8)).length = 32 from (List.length_replicate ..))]; rfl)) HS ?_
       refine t_stepg 17 rfl (by kernel_rfl) (yielded_mk _ _ _ rfl _ rfl (by exact congrArg Value.bool (congrArg not hk36))) (o_callR Try.func74 rfl rfl rfl (same14_ret _ (⟨(0 : UInt64), ([] : List UInt8), (0 : UInt8), 0, 0, ⟨none, 0, 0, []⟩, List.replicate 32 (0 : UInt8)⟩ : Tok) (⟨(0 : UInt64), ([] : List UInt8), (0 : UInt8), 0, 0, ⟨none, 0, 0, []⟩, List.replicate 32 (0 : UInt8)⟩ : Tok) (Gl.ok_nil _) (show (List.replicate 32 (0 : UInt8)).length = 32 from (List.length_replicate ..)) (Gl.ok_nil _) (show (List.replicate 32 (0 : UInt8)).length = 32 from (List.length_replicate ..))) ?_)
       rintro _ w ⟨rfl, Hc⟩
       replace H : Hp _ w _ ([_, _, _, _, _, _, _, _, _]) := H.call Hc
       clear Hc
       have hk37 : (sameT (⟨(0 : UInt64), ([] : List UInt8), (0 : UInt8), 0, 0, ⟨none, 0, 0, []⟩, List.replicate 32 (0 : UInt8)⟩ : Tok) (⟨(0 : UInt64), ([] : List UInt8), (0 : UInt8), 0, 0, ⟨none, 0, 0, []⟩, List.replicate 32 (0 : UInt8)⟩ : Tok)) = true := (decide_eq_true rfl)
       refine ⟨H, ?_⟩
       replace HS := H
       refine t_takeg 18 rfl (by kernel_rfl) (by kernel_rfl) (by kernel_rfl) (fun _ _ _ h => h) (yielded_mk _ _ _ rfl _ rfl (by exact congrArg Value.bool (congrArg not hk36))) (fun w HS => r_not rfl) HS ?_
       refine t_take 19 rfl (by kernel_rfl) (by kernel_rfl) (by kernel_rfl) (fun _ _ _ h => h) (fun w HS => r_pick (b := false) (congrArg Value.bool (congrArg not hk36))) HS ?_
       refine t_take 20 rfl (by kernel_rfl) (by kernel_rfl) (by kernel_rfl) (fun _ _ _ h => h) (fun w HS => r_mv) HS ?_
       refine t_takeg 21 rfl (by kernel_rfl) (by kernel_rfl) (by kernel_rfl) (fun _ _ _ h => h) (yielded_mk _ _ _ rfl _ rfl (by exact congrArg Value.bool (congrArg not hk37))) (fun w HS => r_mv) HS ?_
       refine t_takeg 22 rfl (by kernel_rfl) (by kernel_rfl) (by kernel_rfl) (fun _ _ _ h => h) (yielded_mk _ _ _ rfl _ rfl (by exact congrArg Value.bool (congrArg not hk37))) (fun w HS => r_mv) HS ?_
       refine t_takeg 23 rfl (by kernel_rfl) (by kernel_rfl) (by kernel_rfl) (fun _ _ _ h => h) (yielded_mk _ _ _ rfl _ rfl (by exact congrArg Value.bool (congrArg not hk37))) (fun w HS => r_bin (a := (((effF (t.rights) (t.until_) t.cs.l).1).toNat : Int)) (b := (((effF (t.rights) (t.until_) t.cs.l).1).toNat : Int)) rfl rfl (fun _ => b_neqB false (decide_eq_false (fun h => h rfl)))) HS ?_
       refine t_take 24 rfl (by kernel_rfl) (by kernel_rfl) (by kernel_rfl) (fun _ _ _ h => h) (fun w HS => r_pick (b := false) (congrArg Value.bool (congrArg not hk37))) HS ?_
       refine t_take 25 rfl (by kernel_rfl) (by kernel_rfl) (by kernel_rfl) (fun _ _ _ h => h) (fun w HS => r_mv) HS ?_
       refine t_takeg 26 rfl (by kernel_rfl) (by kernel_rfl) (by kernel_rfl) (fun _ _ _ h => h) (yielded_mk _ _ _ rfl _ rfl rfl) (fun w HS => r_mv) HS ?_
       refine t_takeg 27 rfl (by kernel_rfl) (by kernel_rfl) (by kernel_rfl) (fun _ _ _ h => h) (yielded_mk _ _ _ rfl _ rfl rfl) (fun w HS => r_mv) HS ?_
       refine t_takeg 28 rfl (by kernel_rfl) (by kernel_rfl) (by kernel_rfl) (fun _ _ _ h => h) (yielded_mk _ _ _ rfl _ rfl rfl) (fun w HS => r_bin (a := (effF (t.rights) (t.until_) t.cs.l).2) (b := (effF (t.rights) (t.until_) t.cs.l).2) rfl rfl (fun _ => b_neqB false (decide_eq_false (fun h => h rfl)))) HS ?_
       refine t_take 29 rfl (by kernel_rfl) (by kernel_rfl) (by kernel_rfl) (fun _ _ _ h => h) (fun w HS => r_pick rfl) HS ?_
       refine t_take 30 rfl (by kernel_rfl) (by kernel_rfl) (by kernel_rfl) (fun _ _ _ h => h) (fun w HS => r_mv) HS ?_
       refine t_takeg 31 rfl (by kernel_rfl) (by kernel_rfl) (by kernel_rfl) (fun _ _ _ h => h) (yielded_mk _ _ _ rfl _ rfl rfl) (fun w HS => r_ldA (C := [V64 t.serial, .string ⟨(t.tenant).toArray⟩, V8 t.rights, VI t.from_, VI t.until_, (⟨some ⟨b5, 0, none⟩, t.cs.len, t.cs.len + 2, t.cs.l⟩ : Gl Cav).v] ++ (t.tag).map V8) HS (i := 4) rfl rfl rt76 (by rw [List.length_append, List.length_map, (show (t.tag).length = 32 from htag)]; rfl)) HS ?_
       refine t_takeg 33 rfl (by kernel_rfl) (by kernel_rfl) (by kernel_rfl) (fun _ _ _ h => h) (yielded_mk _ _ _ rfl _ rfl rfl) (fun w HS => r_ldA (C := [V64 t.serial, .string ⟨(t.tenant).toArray⟩, V8 t.rights, VI t.from_, VI t.until_, t.cs.v] ++ (t.tag).map V8) HS (i := 1) rfl rfl rt76 (by rw [List.length_append, List.length_map, (show (t.tag).length = 32 from htag)]; rfl)) HS ?_
       refine t_stepg 32 rfl (by kernel_rfl) (yielded_mk _ _ _ rfl _ rfl rfl) (o_callR Try.func75 rfl rfl rfl (may_ret _ (⟨t.serial, t.tenant, t.rights, t.from_, t.until_, (⟨some ⟨b5, 0, none⟩, t.cs.len, t.cs.len + 2, t.cs.l⟩ : Gl Cav), t.tag⟩ : Tok) (show Gl.ok cavE 2 (⟨some ⟨b5, 0, none⟩, t.cs.len, t.cs.len + 2, t.cs.l⟩ : Gl Cav) _ from glBlk ([((0 : UInt8), (0 : Int)), ((0 : UInt8), (0 : Int))]) (H.has (.blk b5 (((t.cs.l ++ [((0 : UInt8), (0 : Int))]) ++ [((0 : UInt8), (0 : Int))]).flatMap cavE) 78) (by simp)) (by simp) (fun _ _ => rfl) hcl (by omega) (by omega)) (show (t.tag).length = 32 from htag) (by first | omega | (dsimp only; omega) | simp)) ?_)
       rintro _ w ⟨rfl, Hc⟩
       replace H : Hp _ w _ ([_, _, _, _, _, _, _, _, _]) := H.call Hc
       clear Hc
       refine ⟨H, ?_⟩
       replace HS := H
       refine t_stepg 34 rfl (by kernel_rfl) (yielded_mk _ _ _ rfl _ rfl rfl) (o_callR Try.func76 rfl rfl rfl (may14_ret _ t (hc.up H) (show (t.tag).length = 32 from htag) (by first | omega | (dsimp only; omega) | simp)) ?_)
       rintro _ w ⟨rfl, Hc⟩
       replace H : Hp _ w _ ([_, _, _, _, _, _, _, _, _]) := H.call Hc
       clear Hc
       refine ⟨H, ?_⟩
       replace HS := H
       refine t_takeg 35 rfl (by kernel_rfl) (by kernel_rfl) (by kernel_rfl) (fun _ _ _ h => h) (yielded_mk _ _ _ rfl _ rfl rfl) (fun w HS => r_bne Try.underlying4 rfl rfl) HS ?_
       have hk38 : (!((mayT (⟨t.serial, t.tenant, t.rights, t.from_, t.until_, (⟨some ⟨b5, 0, none⟩, t.cs.len, t.cs.len + 2, t.cs.l⟩ : Gl Cav), t.tag⟩ : Tok)) == (mayT t))) = false := (by show (!(mayT t == mayT t)) = false; simp)
       refine t_take 36 rfl (by kernel_rfl) (by kernel_rfl) (by kernel_rfl) (fun _ _ _ h => h) (fun w HS => r_pick rfl) HS ?_
       refine t_take 37 rfl (by kernel_rfl) (by kernel_rfl) (by kernel_rfl) (fun _ _ _ h => h) (fun w HS => r_mv) HS ?_
       refine t_takeg 38 rfl (by kernel_rfl) (by kernel_rfl) (by kernel_rfl) (fun _ _ _ h => h) (yielded_mk _ _ _ rfl _ rfl (by exact congrArg Value.bool hk38)) (fun w HS => r_ldAA (l := key) HS (i := 0) rfl rfl rt31 (show (key).length = 32 from hk)) HS ?_
       refine t_takeg 39 rfl (by kernel_rfl) (by kernel_rfl) (by kernel_rfl) (fun _ _ _ h => h) (yielded_mk _ _ _ rfl _ rfl (by exact congrArg Value.bool hk38)) (fun w HS => r_ldA (C := [V64 t.serial, .string ⟨(t.tenant).toArray⟩, V8 t.rights, VI t.from_, VI t.until_, (⟨some ⟨b5, 0, none⟩, t.cs.len, t.cs.len + 2, t.cs.l⟩ : Gl Cav).v] ++ (t.tag).map V8) HS (i := 4) rfl rfl rt76 (by rw [List.length_append, List.length_map, (show (t.tag).length = 32 from htag)]; rfl)) HS ?_
       refine t_takeg 40 rfl (by kernel_rfl) (by kernel_rfl) (by kernel_rfl) (fun _ _ _ h => h) (yielded_mk _ _ _ rfl _ rfl (by exact congrArg Value.bool hk38)) (fun w HS => r_mv) HS ?_
       refine t_takeg 42 rfl (by kernel_rfl) (by kernel_rfl) (by kernel_rfl) (fun _ _ _ h => h) (yielded_mk _ _ _ rfl _ rfl (by exact congrArg Value.bool hk38)) (fun w HS => r_ldAA (l := key) HS (i := 0) rfl rfl rt31 (show (key).length = 32 from hk)) HS ?_
       refine t_takeg 43 rfl (by kernel_rfl) (by kernel_rfl) (by kernel_rfl) (fun _ _ _ h => h) (yielded_mk _ _ _ rfl _ rfl (by exact congrArg Value.bool hk38)) (fun w HS => r_ldA (C := [V64 t.serial, .string ⟨(t.tenant).toArray⟩, V8 t.rights, VI t.from_, VI t.until_, t.cs.v] ++ (t.tag).map V8) HS (i := 1) rfl rfl rt76 (by rw [List.length_append, List.length_map, (show (t.tag).length = 32 from htag)]; rfl)) HS ?_
       refine t_takeg 44 rfl (by kernel_rfl) (by kernel_rfl) (by kernel_rfl) (fun _ _ _ h => h) (yielded_mk _ _ _ rfl _ rfl (by exact congrArg Value.bool hk38)) (fun w HS => r_mv) HS ?_
       refine t_stepg 41 rfl (by kernel_rfl) (yielded_mk _ _ _ rfl _ rfl (by exact congrArg Value.bool hk38)) (o_callR Try.func77 rfl rfl rfl (check14_ret _ (key) (show (key).length = 32 from hk) (⟨t.serial, t.tenant, t.rights, t.from_, t.until_, (⟨some ⟨b5, 0, none⟩, t.cs.len, t.cs.len + 2, t.cs.l⟩ : Gl Cav), t.tag⟩ : Tok) (show Gl.ok cavE 2 (⟨some ⟨b5, 0, none⟩, t.cs.len, t.cs.len + 2, t.cs.l⟩ : Gl Cav) _ from glBlk ([((0 : UInt8), (0 : Int)), ((0 : UInt8), (0 : Int))]) (H.has (.blk b5 (((t.cs.l ++ [((0 : UInt8), (0 : Int))]) ++ [((0 : UInt8), (0 : Int))]).flatMap cavE) 78) (by simp)) (by simp) (fun _ _ => rfl) hcl (by omega) (by omega)) (show (t.tag).length = 32 from htag) (by first | omega | (dsimp only; omega) | simp) (now)) ?_)
       rintro _ w ⟨rfl, Hc⟩
       replace H : Hp _ w _ ([_, _, _, _, _, _, _, _, _]) := H.call Hc
       clear Hc
       refine ⟨H, ?_⟩
       replace HS := H
       refine t_stepg 45 rfl (by kernel_rfl) (yielded_mk _ _ _ rfl _ rfl (by exact congrArg Value.bool hk38)) (o_callR Try.func78 rfl rfl rfl (check14r_ret _ (key) (show (key).length = 32 from hk) t (hc.up H) (show (t.tag).length = 32 from htag) (by first | omega | (dsimp only; omega) | simp) hb (now)) ?_)
       rintro _ w ⟨rfl, Hc⟩
       replace H : Hp _ w _ ([_, _, _, _, _, _, _, _, _]) := H.call Hc
       clear Hc
       refine ⟨H, ?_⟩
       replace HS := H
       refine t_takeg 46 rfl (by kernel_rfl) (by kernel_rfl) (by kernel_rfl) (fun _ _ _ h => h) (yielded_mk _ _ _ rfl _ rfl (by exact congrArg Value.bool hk38)) (fun w HS => r_bin (a := checkT (key) (⟨t.serial, t.tenant, t.rights, t.from_, t.until_, (⟨some ⟨b5, 0, none⟩, t.cs.len, t.cs.len + 2, t.cs.l⟩ : Gl Cav), t.tag⟩ : Tok) (now)) (b := checkT (key) t (now)) rfl rfl (fun _ => b_neqB false (decide_eq_false (fun h => h rfl)))) HS ?_
       refine t_take 47 rfl (by kernel_rfl) (by kernel_rfl) (by kernel_rfl) (fun _ _ _ h => h) (fun w HS => r_pick (b := false) (congrArg Value.bool hk38)) HS ?_
       refine t_take 48 rfl (by kernel_rfl) (by kernel_rfl) (by kernel_rfl) (fun _ _ _ h => h) (fun w HS => r_mv) HS ?_
       refine t_takeg 49 rfl (by kernel_rfl) (by kernel_rfl) (by kernel_rfl) (fun _ _ _ h => h) (yielded_mk _ _ _ rfl _ rfl rfl) (fun w HS => r_ldA (C := [V64 t.serial, .string ⟨(t.tenant).toArray⟩, V8 t.rights, VI t.from_, VI t.until_, (⟨some ⟨b5, 0, none⟩, t.cs.len, t.cs.len + 2, t.cs.l⟩ : Gl Cav).v] ++ (t.tag).map V8) HS (i := 4) rfl rfl rt76 (by rw [List.length_append, List.length_map, (show (t.tag).length = 32 from htag)]; rfl)) HS ?_
       refine t_takeg 50 rfl (by kernel_rfl) (by kernel_rfl) (by kernel_rfl) (fun _ _ _ h => h) (yielded_mk _ _ _ rfl _ rfl rfl) (fun w HS => r_ldA (C := [V64 t.serial, .string ⟨(t.tenant).toArray⟩, V8 t.rights, VI t.from_, VI t.until_, t.cs.v] ++ (t.tag).map V8) HS (i := 1) rfl rfl rt76 (by rw [List.length_append, List.length_map, (show (t.tag).length = 32 from htag)]; rfl)) HS ?_
       refine t_stepg 51 rfl (by kernel_rfl) (yielded_mk _ _ _ rfl _ rfl rfl) (o_callR Try.func74 rfl rfl rfl (same14_ret _ (⟨t.serial, t.tenant, t.rights, t.from_, t.until_, (⟨some ⟨b5, 0, none⟩, t.cs.len, t.cs.len + 2, t.cs.l⟩ : Gl Cav), t.tag⟩ : Tok) t (show Gl.ok cavE 2 (⟨some ⟨b5, 0, none⟩, t.cs.len, t.cs.len + 2, t.cs.l⟩ : Gl Cav) _ from glBlk ([((0 : UInt8), (0 : Int)), ((0 : UInt8), (0 : Int))]) (H.has (.blk b5 (((t.cs.l ++ [((0 : UInt8), (0 : Int))]) ++ [((0 : UInt8), (0 : Int))]).flatMap cavE) 78) (by simp)) (by simp) (fun _ _ => rfl) hcl (by omega) (by omega)) (show (t.tag).length = 32 from htag) (hc.up H) (show (t.tag).length = 32 from htag)) ?_)
       rintro _ w ⟨rfl, Hc⟩
       replace H : Hp _ w _ ([_, _, _, _, _, _, _, _, _]) := H.call Hc
       clear Hc
       have hk39 : (sameT (⟨t.serial, t.tenant, t.rights, t.from_, t.until_, (⟨some ⟨b5, 0, none⟩, t.cs.len, t.cs.len + 2, t.cs.l⟩ : Gl Cav), t.tag⟩ : Tok) t) = true := (decide_eq_true rfl)
       refine ⟨H, ?_⟩
       replace HS := H
       refine t_takeg 52 rfl (by kernel_rfl) (by kernel_rfl) (by kernel_rfl) (fun _ _ _ h => h) (yielded_mk _ _ _ rfl _ rfl rfl) (fun w HS => r_not rfl) HS ?_
       refine t_take 53 rfl (by kernel_rfl) (by kernel_rfl) (by kernel_rfl) (fun _ _ _ h => h) (fun w HS => r_pick rfl) HS ?_
       refine t_done (by kernel_rfl) ?_
       clear HS
       repeat refine c_seq ?_
       refine c_no (by exact congrArg Value.bool (congrArg not hk39)) ?_
       refine c_skip ?_
       repeat refine c_seq ?_
       refine c_region ?_
       refine l_op (o_val (r_as) ?_)
       first | refine l_end ?_ | refine l_nil ?_
       repeat refine c_seq ?_
       refine c_block ?_
       repeat refine c_seq ?_
       refine c_loop (fun (j : Nat) => [(3, VI now), (4, .pointer (some ⟨b1, 0, none⟩)), (5, .pointer (some ⟨b2, 0, none⟩)), (6, .pointer (some ⟨b3, 0, none⟩)), (9, .pointer (some ⟨b6, 0, none⟩)), (10, VI (i : Int)), (15, .pointer (some ⟨b34, 0, none⟩)), (23, VI (j : Int))])
         (fun (j : Nat) w => (j = 0) ∧ Hp w0 w [] ([.blk b1 ((key).map V8) 31, .blk b2 ([V64 t.serial, .string ⟨(t.tenant).toArray⟩, V8 t.rights, VI t.from_, VI t.until_, t.cs.v] ++ (t.tag).map V8) 76, .blk b3 ([V8 c.1, VI c.2]) 78, .blk b5 (((t.cs.l ++ [((0 : UInt8), (0 : Int))]) ++ [((0 : UInt8), (0 : Int))]).flatMap cavE) 78, .blk b6 ([V64 t.serial, .string ⟨(t.tenant).toArray⟩, V8 t.rights, VI t.from_, VI t.until_, (⟨some ⟨b5, 0, none⟩, t.cs.len, t.cs.len + 2, t.cs.l⟩ : Gl Cav).v] ++ (t.tag).map V8) 76, .blk b10 ([V64 t.serial, .string ⟨(t.tenant).toArray⟩, V8 t.rights, VI t.from_, VI t.until_, .slice none 0 0] ++ (hmac (key) (framed [headB (t.serial) (t.tenant) (t.rights) (t.from_) (t.until_)])).map V8) 76, .blk b11 ([V64 t.serial, .string ⟨(t.tenant).toArray⟩, V8 t.rights, VI t.from_, VI t.until_, t.cs.v] ++ (hmac (key) (framed [t.head])).map V8) 76, .blk b34 ([V64 (0 : UInt64), .string ⟨(([] : List UInt8)).toArray⟩, V8 (0 : UInt8), VI 0, VI 0, .slice none 0 0] ++ (List.replicate 32 (0 : UInt8)).map V8) 76, .blk b35 ([V64 (0 : UInt64), .string ⟨(([] : List UInt8)).toArray⟩, V8 (0 : UInt8), VI 0, VI 0, .slice none 0 0] ++ (List.replicate 32 (0 : UInt8)).map V8) 76]))
         (fun (j : Nat) => 0) 0 ⟨rfl, rfl, rfl, rfl, rfl, rfl, rfl, rfl, trivial⟩ ⟨rfl, H⟩ ?_
       clear H
       rintro j τ w ⟨hj, H⟩
       repeat refine c_seq ?_
       refine c_region ?_
       refine l_op (o_val (r_mv) ?_)
       refine l_op (o_val (r_fa rfl fo76_5) ?_)
       refine l_op (o_val (r_ld (v := .slice none 0 0) H (i := 7) rfl rfl ct74 rfl) ?_)
       refine l_op (o_val (r_lens el74 rfl) ?_)
       refine l_op (o_val (r_bin (a := (j : Int)) (b := 0) rfl rfl (fun _ => b_lssB false (decide_eq_false (by omega)))) ?_)
       first | refine l_end ?_ | refine l_nil ?_
       repeat refine c_seq ?_
       refine c_no rfl ?_
       refine c_exit ?_
       repeat refine c_seq ?_
       refine wp_held (fun w => Hp w0 w [] [.blk b1 ((key).map V8) 31, .blk b2 ([V64 t.serial, .string ⟨(t.tenant).toArray⟩, V8 t.rights, VI t.from_, VI t.until_, t.cs.v] ++ (t.tag).map V8) 76, .blk b3 ([V8 c.1, VI c.2]) 78, .blk b5 (((t.cs.l ++ [((0 : UInt8), (0 : Int))]) ++ [((0 : UInt8), (0 : Int))]).flatMap cavE) 78, .blk b6 ([V64 t.serial, .string ⟨(t.tenant).toArray⟩, V8 t.rights, VI t.from_, VI t.until_, (⟨some ⟨b5, 0, none⟩, t.cs.len, t.cs.len + 2, t.cs.l⟩ : Gl Cav).v] ++ (t.tag).map V8) 76, .blk b10 ([V64 t.serial, .string ⟨(t.tenant).toArray⟩, V8 t.rights, VI t.from_, VI t.until_, .slice none 0 0] ++ (hmac (key) (framed [headB (t.serial) (t.tenant) (t.rights) (t.from_) (t.until_)])).map V8) 76, .blk b11 ([V64 t.serial, .string ⟨(t.tenant).toArray⟩, V8 t.rights, VI t.from_, VI t.until_, t.cs.v] ++ (hmac (key) (framed [t.head])).map V8) 76, .blk b34 ([V64 (0 : UInt64), .string ⟨(([] : List UInt8)).toArray⟩, V8 (0 : UInt8), VI 0, VI 0, .slice none 0 0] ++ (List.replicate 32 (0 : UInt8)).map V8) 76, .blk b35 ([V64 (0 : UInt64), .string ⟨(([] : List UInt8)).toArray⟩, V8 (0 : UInt8), VI 0, VI 0, .slice none 0 0] ++ (List.replicate 32 (0 : UInt8)).map V8) 76]) mixed ?_
       replace H := H.drew
       have HS := H
       refine t_take 0 rfl (by kernel_rfl) (by kernel_rfl) (by kernel_rfl) (fun _ _ _ h => h) (fun w HS => r_fa rfl fo76_5) HS ?_
       refine t_take 1 rfl (by kernel_rfl) (by kernel_rfl) (by kernel_rfl) (fun _ _ _ h => h) (fun w HS => r_ld (v := (⟨some ⟨b5, 0, none⟩, t.cs.len, t.cs.len + 2, t.cs.l⟩ : Gl Cav).v) HS (i := 4) rfl rfl ct74 rfl) HS ?_
       refine t_take 2 rfl (by kernel_rfl) (by kernel_rfl) (by kernel_rfl) (fun _ _ _ h => h) (fun w HS => r_ldA (C := [V64 t.serial, .string ⟨(t.tenant).toArray⟩, V8 t.rights, VI t.from_, VI t.until_, (⟨some ⟨b5, 0, none⟩, t.cs.len, t.cs.len + 2, t.cs.l⟩ : Gl Cav).v] ++ (t.tag).map V8) HS (i := 4) rfl rfl rt76 (by rw [List.length_append, List.length_map, (show (t.tag).length = 32 from htag)]; rfl)) HS ?_
       refine t_step 3 rfl (by kernel_rfl) (o_callR Try.func79 rfl rfl rfl (cap2_z _ (⟨t.serial, t.tenant, t.rights, t.from_, t.until_, (⟨some ⟨b5, 0, none⟩, t.cs.len, t.cs.len + 2, t.cs.l⟩ : Gl Cav), t.tag⟩ : Tok) (show Gl.ok cavE 2 (⟨some ⟨b5, 0, none⟩, t.cs.len, t.cs.len + 2, t.cs.l⟩ : Gl Cav) _ from glBlk ([((0 : UInt8), (0 : Int)), ((0 : UInt8), (0 : Int))]) (H.has (.blk b5 (((t.cs.l ++ [((0 : UInt8), (0 : Int))]) ++ [((0 : UInt8), (0 : Int))]).flatMap cavE) 78) (by simp)) (by simp) (fun _ _ => rfl) hcl (by omega) (by omega)) (show (t.tag).length = 32 from htag) (by (try dsimp only); omega)) ?_)
       rintro _ w ⟨rfl, Hc⟩
       replace H : Hp _ w _ ([_, _, _, _, _, _, _, _, _]) := H.call Hc
       clear Hc
       refine ⟨H, ?_⟩
       replace HS := H
       refine t_take 4 rfl (by kernel_rfl) (by kernel_rfl) (by kernel_rfl) (fun _ _ _ h => h) (fun w HS => r_slH (len := t.cs.len) (cap := t.cs.len + 2) (h := 0) (m := t.cs.len + 2) (hv := some (VI 0)) rfl el74 rfl rfl rfl (fun w => by exact sbh (0) (by omega) (by omega) w)) HS ?_
       refine t_take 5 rfl (by kernel_rfl) (by kernel_rfl) (by kernel_rfl) (fun _ _ _ h => h) (fun w HS => r_as) HS ?_
       refine t_done (by kernel_rfl) ?_
       clear HS
       repeat refine c_seq ?_
       refine c_region ?_
       refine l_op (o_val (r_fa rfl fo76_5) ?_)
       refine l_op (o_val (r_ld (v := t.cs.v) H (i := 1) rfl rfl ct74 rfl) ?_)
       refine l_op (o_val (r_lens el74 rfl) ?_)
       refine l_op (o_val (r_bin (a := (t.cs.len : Int)) (b := 0) rfl rfl (fun _ => b_gtrB false (decide_eq_false (by omega)))) ?_)
       refine l_op (o_val (r_mv) ?_)
       refine l_no rfl rfl rfl rfl ?_
       refine l_no rfl rfl rfl rfl ?_
       refine l_no rfl rfl rfl rfl ?_
       refine l_no rfl rfl rfl rfl ?_
       refine l_no rfl rfl rfl rfl ?_
       refine l_no rfl rfl rfl rfl ?_
       refine l_no rfl rfl rfl rfl ?_
       refine l_no rfl rfl rfl rfl ?_
       refine l_op (o_val (r_pick rfl) ?_)
       first | refine l_end ?_ | refine l_nil ?_
       repeat refine c_seq ?_
       refine c_no rfl ?_
       refine c_skip ?_
       repeat refine c_seq ?_
       refine c_region ?_
       refine l_op (o_val (r_mv) ?_)
       refine l_op (o_val (r_bin (a := (i : Int)) (b := 1) rfl rfl (fun _ => b_add (by omega) (by omega))) ?_)
       refine l_op (o_val (r_as) ?_)
       first | refine l_end ?_ | refine l_nil ?_
       refine round_end (i + 1) ?_ ?_ ?_
       · exact ⟨rfl, rfl, rfl, rfl, rfl, show VI ((i : Int) + 1) = VI ((i + 1 : Nat) : Int) from congrArg VI (by omega), trivial⟩
       · refine ⟨?_, ?_⟩
         · try dsimp only
           exact by omega
         · exact H.sub (.cons_cons _ (.cons_cons _ (.cons_cons _ (.cons_cons _ (.cons_cons _ (List.nil_sublist _))))))
       · show 2 - (i + 1 : Nat) < 2 - i; omega
     ·
      refine l_op (o_callR Try.func68 rfl rfl rfl (issue_n2 _ (key) (show (key).length = 32 from hk) (⟨t.serial, t.tenant, t.rights, t.from_, t.until_, (⟨some ⟨b5, 0, none⟩, t.cs.len, t.cs.len + 2, t.cs.l⟩ : Gl Cav), t.tag⟩ : Tok) (show Gl.ok cavE 2 (⟨some ⟨b5, 0, none⟩, t.cs.len, t.cs.len + 2, t.cs.l⟩ : Gl Cav) _ from glBlk ([((0 : UInt8), (0 : Int)), ((0 : UInt8), (0 : Int))]) (H.has (.blk b5 (((t.cs.l ++ [((0 : UInt8), (0 : Int))]) ++ [((0 : UInt8), (0 : Int))]).flatMap cavE) 78) (by simp)) (by simp) (fun _ _ => rfl) hcl (by omega) (by omega)) (show (t.tag).length = 32 from htag) (by first | omega | (dsimp only; omega) | simp) hc8 (by (try dsimp only); omega)) ?_)
      rintro _ w ⟨rfl, Hc⟩
      replace H : Hp _ w _ ([_, _, _, _, _]) := H.call Hc
      clear Hc
      refine l_op (o_val (r_mv) ?_)
      refine l_op (o_val (r_ext rfl rfl) ?_)
      refine l_op (o_val (r_ext rfl rfl) ?_)
      refine l_op (o_alloc H zc76 (fun b40 w H hb40 => ?_))
      replace H : Hp _ w _ ([_, _, _, _, _, .blk b40 ([V64 (0 : UInt64), .string ⟨(([] : List UInt8)).toArray⟩, V8 (0 : UInt8), VI 0, VI 0, .slice none 0 0] ++ (List.replicate 32 (0 : UInt8)).map V8) 76]) := H
      refine l_op (o_stW (C' := [V64 (0 : UInt64), .string ⟨(([] : List UInt8)).toArray⟩, V8 (0 : UInt8), VI 0, VI 0, .slice none 0 0] ++ (List.replicate 32 (0 : UInt8)).map V8) H (i := 5) rfl rfl rfl cs76 (by simp [Value.oneCell']) (by rw [List.length_append, List.length_map, (show (List.replicate 32 (0 : UInt8)).length = 32 from (List.length_replicate ..))]; rfl) (by rw [List.length_append, List.length_map, (show (List.replicate 32 (0 : UInt8)).length = 32 from (List.length_replicate ..))]; rfl) (fun w H => ?_))
      replace H : Hp _ w _ [_, _, _, _, _, _] := H
      refine l_op (o_val (r_as) ?_)
      first | refine l_end ?_ | refine l_nil ?_
      repeat refine c_seq ?_
      refine c_region ?_
      refine l_op (o_val (r_ldAA (l := key) H (i := 0) rfl rfl rt31 (show (key).length = 32 from hk)) ?_)
      refine l_op (o_val (r_ldA (C := [V64 t.serial, .string ⟨(t.tenant).toArray⟩, V8 t.rights, VI t.from_, VI t.until_, t.cs.v] ++ (t.tag).map V8) H (i := 1) rfl rfl rt76 (by rw [List.length_append, List.length_map, (show (t.tag).length = 32 from htag)]; rfl)) ?_)
      refine l_op (o_callR Try.func69 rfl rfl rfl (issuer_n2 _ (key) (show (key).length = 32 from hk) t (hc.up H) (show (t.tag).length = 32 from htag) (by first | omega | (dsimp only; omega) | simp) hc8 (by (try dsimp only); omega)) ?_)
      rintro _ w ⟨rfl, Hc⟩
      replace H : Hp _ w _ ([_, _, _, _, _, _]) := H.call Hc
      clear Hc
      refine l_op (o_val (r_mv) ?_)
      refine l_op (o_val (r_ext rfl rfl) ?_)
      refine l_op (o_val (r_ext rfl rfl) ?_)
      refine l_op (o_alloc H zc76 (fun b41 w H hb41 => ?_))
      replace H : Hp _ w _ ([_, _, _, _, _, _, .blk b41 ([V64 (0 : UInt64), .string ⟨(([] : List UInt8)).toArray⟩, V8 (0 : UInt8), VI 0, VI 0, .slice none 0 0] ++ (List.replicate 32 (0 : UInt8)).map V8) 76]) := H
      refine l_op (o_stW (C' := [V64 (0 : UInt64), .string ⟨(([] : List UInt8)).toArray⟩, V8 (0 : UInt8), VI 0, VI 0, .slice none 0 0] ++ (List.replicate 32 (0 : UInt8)).map V8) H (i := 6) rfl rfl rfl cs76 (by simp [Value.oneCell']) (by rw [List.length_append, List.length_map, (show (List.replicate 32 (0 : UInt8)).length = 32 from (List.length_replicate ..))]; rfl) (by rw [List.length_append, List.length_map, (show (List.replicate 32 (0 : UInt8)).length = 32 from (List.length_replicate ..))]; rfl) (fun w H => ?_))
      replace H : Hp _ w _ [_, _, _, _, _, _, _] := H
      refine l_op (o_val (r_as) ?_)
      first | refine l_end ?_ | refine l_nil ?_
      repeat refine c_seq ?_
      refine c_region ?_
      refine l_op (o_val (r_ldA (C := [V64 t.serial, .string ⟨(t.tenant).toArray⟩, V8 t.rights, VI t.from_, VI t.until_, (⟨some ⟨b5, 0, none⟩, t.cs.len, t.cs.len + 2, t.cs.l⟩ : Gl Cav).v] ++ (t.tag).map V8) H (i := 4) rfl rfl rt76 (by rw [List.length_append, List.length_map, (show (t.tag).length = 32 from htag)]; rfl)) ?_)
      refine l_op (o_val (r_ldA (C := [V8 c.1, VI c.2]) H (i := 2) rfl rfl rt78 (by rfl)) ?_)
      rcases Bool.eq_false_or_eq_true (rMay c.1) with hc42 | hc42
      ·
       by_cases hc43 : t.cs.len < 8
       ·
        refine l_op (o_callR Try.func70 rfl rfl rfl (less_ok _ (⟨t.serial, t.tenant, t.rights, t.from_, t.until_, (⟨some ⟨b5, 0, none⟩, t.cs.len, t.cs.len + 2, t.cs.l⟩ : Gl Cav), t.tag⟩ : Tok) c (show Gl.ok cavE 2 (⟨some ⟨b5, 0, none⟩, t.cs.len, t.cs.len + 2, t.cs.l⟩ : Gl Cav) _ from glBlk ([((0 : UInt8), (0 : Int)), ((0 : UInt8), (0 : Int))]) (H.has (.blk b5 (((t.cs.l ++ [((0 : UInt8), (0 : Int))]) ++ [((0 : UInt8), (0 : Int))]).flatMap cavE) 78) (by simp)) (by simp) (fun _ _ => rfl) hcl (by omega) (by omega)) (show (t.tag).length = 32 from htag) (by first | omega | (dsimp only; omega) | simp) hc8 hc42 (by (try dsimp only); omega)) ?_)
        rintro _ w ⟨a44, c45, rfl, Hc⟩
        replace H : Hp _ w _ ([_, _, _, _, _, _, _, .own a44 (t.cs.len + 1) c45 ((t.cs.l ++ [c]).flatMap cavE) 78 2]) := H.call Hc
        clear Hc
        refine l_op (o_val (r_mv) ?_)
        refine l_op (o_val (r_ext rfl rfl) ?_)
        refine l_op (o_val (r_ext rfl rfl) ?_)
        refine l_op (o_alloc H zc76 (fun b46 w H hb46 => ?_))
        replace H : Hp _ w _ ([_, _, _, _, _, _, _, _, .blk b46 ([V64 (0 : UInt64), .string ⟨(([] : List UInt8)).toArray⟩, V8 (0 : UInt8), VI 0, VI 0, .slice none 0 0] ++ (List.replicate 32 (0 : UInt8)).map V8) 76]) := H
        refine l_op (o_stW (C' := [V64 t.serial, .string ⟨(t.tenant).toArray⟩, V8 t.rights, VI t.from_, VI t.until_, .slice (hd a44) (t.cs.len + 1) c45] ++ (onF (t.tag) [c]).map V8) H (i := 8) rfl rfl rfl cs76 (by simp [Value.oneCell']) (by rw [List.length_append, List.length_map, (show (List.replicate 32 (0 : UInt8)).length = 32 from (List.length_replicate ..))]; rfl) (by rw [List.length_append, List.length_map, (show (onF (t.tag) [c]).length = 32 from onF_len _ (show (t.tag).length = 32 from htag) _)]; rfl) (fun w H => ?_))
        replace H : Hp _ w _ ([_, _, _, _, _, _, _, _, .blk b46 ([V64 t.serial, .string ⟨(t.tenant).toArray⟩, V8 t.rights, VI t.from_, VI t.until_, .slice (hd a44) (t.cs.len + 1) c45] ++ (onF (t.tag) [c]).map V8) 76]) := H
        refine l_op (o_val (r_as) ?_)
        first | refine l_end ?_ | refine l_nil ?_
        repeat refine c_seq ?_
        refine c_region ?_
        refine l_op (o_val (r_ldA (C := [V64 t.serial, .string ⟨(t.tenant).toArray⟩, V8 t.rights, VI t.from_, VI t.until_, t.cs.v] ++ (t.tag).map V8) H (i := 1) rfl rfl rt76 (by rw [List.length_append, List.length_map, (show (t.tag).length = 32 from htag)]; rfl)) ?_)
        refine l_op (o_val (r_ldA (C := [V8 c.1, VI c.2]) H (i := 2) rfl rfl rt78 (by rfl)) ?_)
        refine l_op (o_callR Try.func71 rfl rfl rfl (lessr_ok _ t c (hc.up H) (show (t.tag).length = 32 from htag) (by first | omega | (dsimp only; omega) | simp) hb hcb hc8 hc42 (by (try dsimp only); omega)) ?_)
        rintro _ w ⟨a47, c48, rfl, Hc⟩
        replace H : Hp _ w _ ([_, _, _, _, _, _, _, _, _, .own a47 (t.cs.len + 1) c48 ((t.cs.l ++ [c]).flatMap cavE) 78 2]) := H.call Hc
        clear Hc
        refine l_op (o_val (r_mv) ?_)
        refine l_op (o_val (r_ext rfl rfl) ?_)
        refine l_op (o_val (r_ext rfl rfl) ?_)
        refine l_op (o_alloc H zc76 (fun b49 w H hb49 => ?_))
        replace H : Hp _ w _ ([_, _, _, _, _, _, _, _, _, _, .blk b49 ([V64 (0 : UInt64), .string ⟨(([] : List UInt8)).toArray⟩, V8 (0 : UInt8), VI 0, VI 0, .slice none 0 0] ++ (List.replicate 32 (0 : UInt8)).map V8) 76]) := H
        refine l_op (o_stW (C' := [V64 t.serial, .string ⟨(t.tenant).toArray⟩, V8 t.rights, VI t.from_, VI t.until_, .slice (hd a47) (t.cs.len + 1) c48] ++ (onF (t.tag) [c]).map V8) H (i := 10) rfl rfl rfl cs76 (by simp [Value.oneCell']) (by rw [List.length_append, List.length_map, (show (List.replicate 32 (0 : UInt8)).length = 32 from (List.length_replicate ..))]; rfl) (by rw [List.length_append, List.length_map, (show (onF (t.tag) [c]).length = 32 from onF_len _ (show (t.tag).length = 32 from htag) _)]; rfl) (fun w H => ?_))
        replace H : Hp _ w _ ([_, _, _, _, _, _, _, _, _, _, .blk b49 ([V64 t.serial, .string ⟨(t.tenant).toArray⟩, V8 t.rights, VI t.from_, VI t.until_, .slice (hd a47) (t.cs.len + 1) c48] ++ (onF (t.tag) [c]).map V8) 76]) := H
        refine l_op (o_val (r_as) ?_)
        first | refine l_end ?_ | refine l_nil ?_
        repeat refine c_seq ?_
        refine c_region ?_
        refine l_op (o_val (r_ldA (C := [V64 t.serial, .string ⟨(t.tenant).toArray⟩, V8 t.rights, VI t.from_, VI t.until_, (⟨some ⟨b5, 0, none⟩, t.cs.len, t.cs.len + 2, t.cs.l⟩ : Gl Cav).v] ++ (t.tag).map V8) H (i := 4) rfl rfl rt76 (by rw [List.length_append, List.length_map, (show (t.tag).length = 32 from htag)]; rfl)) ?_)
        refine l_op (o_callR Try.func72 rfl rfl rfl (effect_ret _ (⟨t.serial, t.tenant, t.rights, t.from_, t.until_, (⟨some ⟨b5, 0, none⟩, t.cs.len, t.cs.len + 2, t.cs.l⟩ : Gl Cav), t.tag⟩ : Tok) (show Gl.ok cavE 2 (⟨some ⟨b5, 0, none⟩, t.cs.len, t.cs.len + 2, t.cs.l⟩ : Gl Cav) _ from glBlk ([((0 : UInt8), (0 : Int)), ((0 : UInt8), (0 : Int))]) (H.has (.blk b5 (((t.cs.l ++ [((0 : UInt8), (0 : Int))]) ++ [((0 : UInt8), (0 : Int))]).flatMap cavE) 78) (by simp)) (by simp) (fun _ _ => rfl) hcl (by omega) (by omega)) (show (t.tag).length = 32 from htag)) ?_)
        rintro _ w ⟨rfl, Hc⟩
        replace H : Hp _ w _ ([_, _, _, _, _, _, _, _, _, _, _]) := H.call Hc
        clear Hc
        refine l_op (o_val (r_mv) ?_)
        refine l_op (o_val (r_ext rfl rfl) ?_)
        refine l_op (o_val (r_ext rfl rfl) ?_)
        refine l_op (o_val (r_as) ?_)
        refine l_op (o_val (r_as) ?_)
        first | refine l_end ?_ | refine l_nil ?_
        repeat refine c_seq ?_
        refine c_region ?_
        refine l_op (o_val (r_ldA (C := [V64 t.serial, .string ⟨(t.tenant).toArray⟩, V8 t.rights, VI t.from_, VI t.until_, t.cs.v] ++ (t.tag).map V8) H (i := 1) rfl rfl rt76 (by rw [List.length_append, List.length_map, (show (t.tag).length = 32 from htag)]; rfl)) ?_)
        refine l_op (o_callR Try.func73 rfl rfl rfl (effect14_ret _ t (hc.up H) (show (t.tag).length = 32 from htag)) ?_)
        rintro _ w ⟨rfl, Hc⟩
        replace H : Hp _ w _ ([_, _, _, _, _, _, _, _, _, _, _]) := H.call Hc
        clear Hc
        refine l_op (o_val (r_mv) ?_)
        refine l_op (o_val (r_ext rfl rfl) ?_)
        refine l_op (o_val (r_ext rfl rfl) ?_)
        refine l_op (o_val (r_as) ?_)
        refine l_op (o_val (r_as) ?_)
        first | refine l_end ?_ | refine l_nil ?_
        repeat refine c_seq ?_
        refine wp_held (fun w => Hp w0 w [] [.blk b1 ((key).map V8) 31, .blk b2 ([V64 t.serial, .string ⟨(t.tenant).toArray⟩, V8 t.rights, VI t.from_, VI t.until_, t.cs.v] ++ (t.tag).map V8) 76, .blk b3 ([V8 c.1, VI c.2]) 78, .blk b5 (((t.cs.l ++ [((0 : UInt8), (0 : Int))]) ++ [((0 : UInt8), (0 : Int))]).flatMap cavE) 78, .blk b6 ([V64 t.serial, .string ⟨(t.tenant).toArray⟩, V8 t.rights, VI t.from_, VI t.until_, (⟨some ⟨b5, 0, none⟩, t.cs.len, t.cs.len + 2, t.cs.l⟩ : Gl Cav).v] ++ (t.tag).map V8) 76, .blk b40 ([V64 (0 : UInt64), .string ⟨(([] : List UInt8)).toArray⟩, V8 (0 : UInt8), VI 0, VI 0, .slice none 0 0] ++ (List.replicate 32 (0 : UInt8)).map V8) 76, .blk b41 ([V64 (0 : UInt64), .string ⟨(([] : List UInt8)).toArray⟩, V8 (0 : UInt8), VI 0, VI 0, .slice none 0 0] ++ (List.replicate 32 (0 : UInt8)).map V8) 76, .own a44 (t.cs.len + 1) c45 ((t.cs.l ++ [c]).flatMap cavE) 78 2, .blk b46 ([V64 t.serial, .string ⟨(t.tenant).toArray⟩, V8 t.rights, VI t.from_, VI t.until_, .slice (hd a44) (t.cs.len + 1) c45] ++ (onF (t.tag) [c]).map V8) 76, .own a47 (t.cs.len + 1) c48 ((t.cs.l ++ [c]).flatMap cavE) 78 2, .blk b49 ([V64 t.serial, .string ⟨(t.tenant).toArray⟩, V8 t.rights, VI t.from_, VI t.until_, .slice (hd a47) (t.cs.len + 1) c48] ++ (onF (t.tag) [c]).map V8) 76]) mixed ?_
        replace H := H.drew
        have HS := H
        refine t_take 0 rfl (by kernel_rfl) (by kernel_rfl) (by kernel_rfl) (fun _ _ _ h => h) (fun w HS => r_mv) HS ?_
        refine t_take 1 rfl (by kernel_rfl) (by kernel_rfl) (by kernel_rfl) (fun _ _ _ h => h) (fun w HS => r_mv) HS ?_
        refine t_take 2 rfl (by kernel_rfl) (by kernel_rfl) (by kernel_rfl) (fun _ _ _ h => h) (fun w HS => r_bin (a := 1) (b := 1) rfl rfl (fun _ => b_neqB false (decide_eq_false (by decide)))) HS ?_
        refine t_take 3 rfl (by kernel_rfl) (by kernel_rfl) (by kernel_rfl) (fun _ _ _ h => h) (fun w HS => r_mv) HS ?_
        refine t_takeg 4 rfl (by kernel_rfl) (by kernel_rfl) (by kernel_rfl) (fun _ _ _ h => h) (yielded_mk _ _ _ rfl _ rfl rfl) (fun w HS => r_mv) HS ?_
        refine t_takeg 5 rfl (by kernel_rfl) (by kernel_rfl) (by kernel_rfl) (fun _ _ _ h => h) (yielded_mk _ _ _ rfl _ rfl rfl) (fun w HS => r_mv) HS ?_
        refine t_takeg 6 rfl (by kernel_rfl) (by kernel_rfl) (by kernel_rfl) (fun _ _ _ h => h) (yielded_mk _ _ _ rfl _ rfl rfl) (fun w HS => r_bin (a := 0) (b := 0) rfl rfl (fun _ => b_neqB false (decide_eq_false (by decide)))) HS ?_
        refine t_take 7 rfl (by kernel_rfl) (by kernel_rfl) (by kernel_rfl) (fun _ _ _ h => h) (fun w HS => r_pick rfl) HS ?_
        refine t_take 8 rfl (by kernel_rfl) (by kernel_rfl) (by kernel_rfl) (fun _ _ _ h => h) (fun w HS => r_mv) HS ?_
        refine t_takeg 9 rfl (by kernel_rfl) (by kernel_rfl) (by kernel_rfl) (fun _ _ _ h => h) (yielded_mk _ _ _ rfl _ rfl rfl) (fun w HS => r_ldA (C := [V64 (0 : UInt64), .string ⟨(([] : List UInt8)).toArray⟩, V8 (0 : UInt8), VI 0, VI 0, .slice none 0 0] ++ (List.replicate 32 (0 : UInt8)).map V8) HS (i := 5) rfl rfl rt76 (by rw [List.length_append, List.length_map, (show (List.replicate 32 (0 : UInt8)).length = 32 from (List.length_replicate ..))]; rfl)) HS ?_
        refine t_takeg 10 rfl (by kernel_rfl) (by kernel_rfl) (by kernel_rfl) (fun _ _ _ h => h) (yielded_mk _ _ _ rfl _ rfl rfl) (fun w HS => r_ldA (C := [V64 (0 : UInt64), .string ⟨(([] : List UInt8)).toArray⟩, V8 (0 : UInt8), VI 0, VI 0, .slice none 0 0] ++ (List.replicate 32 (0 : UInt8)).map V8) HS (i := 6) rfl rfl rt76 (by rw [List.length_append, List.length_map, (show (List.replicate 32 (0 : UInt8)).length = 32 from (List.length_replicate ..))]; rfl)) HS ?_
        refine t_stepg 11 rfl (by kernel_rfl) (yielded_mk _ _ _ rfl _ rfl rfl) (o_callR Try.func74 rfl rfl rfl (same14_ret _ (⟨(0 : UInt64), ([] : List UInt8), (0 : UInt8), 0, 0, ⟨none, 0, 0, []⟩, List.replicate 32 (0 : UInt8)⟩ : Tok) (⟨(0 : UInt64), ([] : List UInt8), (0 : UInt8), 0, 0, ⟨none, 0, 0, []⟩, List.replicate 32 (0 : UInt8)⟩ : Tok) (Gl.ok_nil _) (show (List.replicate 32 (0 : UInt8)).length = 32 from (List.length_replicate ..)) (Gl.ok_nil _) (show (List.replicate 32 (0 : UInt8)).length = 32 from (List.length_replicate ..))) ?_)
        rintro _ w ⟨rfl, Hc⟩
        replace H : Hp _ w _ ([_, _, _, _, _, _, _, _, _, _, _]) := H.call Hc
        clear Hc
        have hk50 : (sameT (⟨(0 : UInt64), ([] : List UInt8), (0 : UInt8), 0, 0, ⟨none, 0, 0, []⟩, List.replicate 32 (0 : UInt8)⟩ : Tok) (⟨(0 : UInt64), ([] : List UInt8), (0 : UInt8), 0, 0, ⟨none, 0, 0, []⟩, List.replicate 32 (0 : UInt8)⟩ : Tok)) = true := (decide_eq_true (by first | rfl | (have e := hcs0 (by omega); show (⟨t.serial, t.tenant, t.rights, t.from_, t.until_, [], hmac key (framed [t.head])⟩ : TV) = ⟨t.serial, t.tenant, t.rights, t.from_, t.until_, t.cs.l, hmac key (framed [t.head])⟩; rw [e])))
        refine ⟨H, ?_⟩
        replace HS := H
        refine t_takeg 12 rfl (by kernel_rfl) (by kernel_rfl) (by kernel_rfl) (fun _ _ _ h => h) (yielded_mk _ _ _ rfl _ rfl rfl) (fun w HS => r_not rfl) HS ?_
        refine t_take 13 rfl (by kernel_rfl) (by kernel_rfl) (by kernel_rfl) (fun _ _ _ h => h) (fun w HS => r_pick rfl) HS ?_
        refine t_take 14 rfl (by kernel_rfl) (by kernel_rfl) (by kernel_rfl) (fun _ _ _ h => h) (fun w HS => r_mv) HS ?_
        refine t_takeg 15 rfl (by kernel_rfl) (by kernel_rfl) (by kernel_rfl) (fun _ _ _ h => h) (yielded_mk _ _ _ rfl _ rfl (by exact congrArg Value.bool (congrArg not hk50))) (fun w HS => r_ldA (C := [V64 t.serial, .string ⟨(t.tenant).toArray⟩, V8 t.rights, VI t.from_, VI t.until_, .slice (hd a44) (t.cs.len + 1) c45] ++ (onF (t.tag) [c]).map V8) HS (i := 8) rfl rfl rt76 (by rw [List.length_append, List.length_map, (show (onF (t.tag) [c]).length = 32 from onF_len _ (show (t.tag).length = 32 from htag) _)]; rfl)) HS ?_
        refine t_takeg 16 rfl (by kernel_rfl) (by kernel_rfl) (by kernel_rfl) (fun _ _ _ h => h) (yielded_mk _ _ _ rfl _ rfl (by exact congrArg Value.bool (congrArg not hk50))) (fun w HS => r_ldA (C := [V64 t.serial, .string ⟨(t.tenant).toArray⟩, V8 t.rights, VI t.from_, VI t.until_, .slice (hd a47) (t.cs.len + 1) c48] ++ (onF (t.tag) [c]).map V8) HS (i := 10) rfl rfl rt76 (by rw [List.length_append, List.length_map, (show (onF (t.tag) [c]).length = 32 from onF_len _ (show (t.tag).length = 32 from htag) _)]; rfl)) HS ?_
        refine t_stepg 17 rfl (by kernel_rfl) (yielded_mk _ _ _ rfl _ rfl (by exact congrArg Value.bool (congrArg not hk50))) (o_callR Try.func74 rfl rfl rfl (same14_ret _ (⟨t.serial, t.tenant, t.rights, t.from_, t.until_, ⟨hd a44, t.cs.len + 1, c45, t.cs.l ++ [c]⟩, onF (t.tag) [c]⟩ : Tok) (⟨t.serial, t.tenant, t.rights, t.from_, t.until_, ⟨hd a47, t.cs.len + 1, c48, t.cs.l ++ [c]⟩, onF (t.tag) [c]⟩ : Tok) (H.glOwn (i := 7) rfl (by decide) (fun _ _ => rfl)) (show (onF (t.tag) [c]).length = 32 from onF_len _ (show (t.tag).length = 32 from htag) _) (H.glOwn (i := 9) rfl (by decide) (fun _ _ => rfl)) (show (onF (t.tag) [c]).length = 32 from onF_len _ (show (t.tag).length = 32 from htag) _)) ?_)
        rintro _ w ⟨rfl, Hc⟩
        replace H : Hp _ w _ ([_, _, _, _, _, _, _, _, _, _, _]) := H.call Hc
        clear Hc
        have hk51 : (sameT (⟨t.serial, t.tenant, t.rights, t.from_, t.until_, ⟨hd a44, t.cs.len + 1, c45, t.cs.l ++ [c]⟩, onF (t.tag) [c]⟩ : Tok) (⟨t.serial, t.tenant, t.rights, t.from_, t.until_, ⟨hd a47, t.cs.len + 1, c48, t.cs.l ++ [c]⟩, onF (t.tag) [c]⟩ : Tok)) = true := (decide_eq_true rfl)
        refine ⟨H, ?_⟩
        replace HS := H
        refine t_takeg 18 rfl (by kernel_rfl) (by kernel_rfl) (by kernel_rfl) (fun _ _ _ h => h) (yielded_mk _ _ _ rfl _ rfl (by exact congrArg Value.bool (congrArg not hk50))) (fun w HS => r_not rfl) HS ?_
        refine t_take 19 rfl (by kernel_rfl) (by kernel_rfl) (by kernel_rfl) (fun _ _ _ h => h) (fun w HS => r_pick (b := false) (congrArg Value.bool (congrArg not hk50))) HS ?_
        refine t_take 20 rfl (by kernel_rfl) (by kernel_rfl) (by kernel_rfl) (fun _ _ _ h => h) (fun w HS => r_mv) HS ?_
        refine t_takeg 21 rfl (by kernel_rfl) (by kernel_rfl) (by kernel_rfl) (fun _ _ _ h => h) (yielded_mk _ _ _ rfl _ rfl (by exact congrArg Value.bool (congrArg not hk51))) (fun w HS => r_mv) HS ?_
        refine t_takeg 22 rfl (by kernel_rfl) (by kernel_rfl) (by kernel_rfl) (fun _ _ _ h => h) (yielded_mk _ _ _ rfl _ rfl (by exact congrArg Value.bool (congrArg not hk51))) (fun w HS => r_mv) HS ?_
        refine t_takeg 23 rfl (by kernel_rfl) (by kernel_rfl) (by kernel_rfl) (fun _ _ _ h => h) (yielded_mk _ _ _ rfl _ rfl (by exact congrArg Value.bool (congrArg not hk51))) (fun w HS => r_bin (a := (((effF (t.rights) (t.until_) t.cs.l).1).toNat : Int)) (b := (((effF (t.rights) (t.until_) t.cs.l).1).toNat : Int)) rfl rfl (fun _ => b_neqB false (decide_eq_false (fun h => h rfl)))) HS ?_
        refine t_take 24 rfl (by kernel_rfl) (by kernel_rfl) (by kernel_rfl) (fun _ _ _ h => h) (fun w HS => r_pick (b := false) (congrArg Value.bool (congrArg not hk51))) HS ?_
        refine t_take 25 rfl (by kernel_rfl) (by kernel_rfl) (by kernel_rfl) (fun _ _ _ h => h) (fun w HS => r_mv) HS ?_
        refine t_takeg 26 rfl (by kernel_rfl) (by kernel_rfl) (by kernel_rfl) (fun _ _ _ h => h) (yielded_mk _ _ _ rfl _ rfl rfl) (fun w HS => r_mv) HS ?_
        refine t_takeg 27 rfl (by kernel_rfl) (by kernel_rfl) (by kernel_rfl) (fun _ _ _ h => h) (yielded_mk _ _ _ rfl _ rfl rfl) (fun w HS => r_mv) HS ?_
        refine t_takeg 28 rfl (by kernel_rfl) (by kernel_rfl) (by kernel_rfl) (fun _ _ _ h => h) (yielded_mk _ _ _ rfl _ rfl rfl) (fun w HS => r_bin (a := (effF (t.rights) (t.until_) t.cs.l).2) (b := (effF (t.rights) (t.until_) t.cs.l).2) rfl rfl (fun _ => b_neqB false (decide_eq_false (fun h => h rfl)))) HS ?_
        refine t_take 29 rfl (by kernel_rfl) (by kernel_rfl) (by kernel_rfl) (fun _ _ _ h => h) (fun w HS => r_pick rfl) HS ?_
        refine t_take 30 rfl (by kernel_rfl) (by kernel_rfl) (by kernel_rfl) (fun _ _ _ h => h) (fun w HS => r_mv) HS ?_
        refine t_takeg 31 rfl (by kernel_rfl) (by kernel_rfl) (by kernel_rfl) (fun _ _ _ h => h) (yielded_mk _ _ _ rfl _ rfl rfl) (fun w HS => r_ldA (C := [V64 t.serial, .string ⟨(t.tenant).toArray⟩, V8 t.rights, VI t.from_, VI t.until_, (⟨some ⟨b5, 0, none⟩, t.cs.len, t.cs.len + 2, t.cs.l⟩ : Gl Cav).v] ++ (t.tag).map V8) HS (i := 4) rfl rfl rt76 (by rw [List.length_append, List.length_map, (show (t.tag).length = 32 from htag)]; rfl)) HS ?_
        refine t_takeg 33 rfl (by kernel_rfl) (by kernel_rfl) (by kernel_rfl) (fun _ _ _ h => h) (yielded_mk _ _ _ rfl _ rfl rfl) (fun w HS => r_ldA (C := [V64 t.serial, .string ⟨(t.tenant).toArray⟩, V8 t.rights, VI t.from_, VI t.until_, t.cs.v] ++ (t.tag).map V8) HS (i := 1) rfl rfl rt76 (by rw [List.length_append, List.length_map, (show (t.tag).length = 32 from htag)]; rfl)) HS ?_
        refine t_stepg 32 rfl (by kernel_rfl) (yielded_mk _ _ _ rfl _ rfl rfl) (o_callR Try.func75 rfl rfl rfl (may_ret _ (⟨t.serial, t.tenant, t.rights, t.from_, t.until_, (⟨some ⟨b5, 0, none⟩, t.cs.len, t.cs.len + 2, t.cs.l⟩ : Gl Cav), t.tag⟩ : Tok) (show Gl.ok cavE 2 (⟨some ⟨b5, 0, none⟩, t.cs.len, t.cs.len + 2, t.cs.l⟩ : Gl Cav) _ from glBlk ([((0 : UInt8), (0 : Int)), ((0 : UInt8), (0 : Int))]) (H.has (.blk b5 (((t.cs.l ++ [((0 : UInt8), (0 : Int))]) ++ [((0 : UInt8), (0 : Int))]).flatMap cavE) 78) (by simp)) (by simp) (fun _ _ => rfl) hcl (by omega) (by omega)) (show (t.tag).length = 32 from htag) (by first | omega | (dsimp only; omega) | simp)) ?_)
        rintro _ w ⟨rfl, Hc⟩
        replace H : Hp _ w _ ([_, _, _, _, _, _, _, _, _, _, _]) := H.call Hc
        clear Hc
        refine ⟨H, ?_⟩
        replace HS := H
        refine t_stepg 34 rfl (by kernel_rfl) (yielded_mk _ _ _ rfl _ rfl rfl) (o_callR Try.func76 rfl rfl rfl (may14_ret _ t (hc.up H) (show (t.tag).length = 32 from htag) (by first | omega | (dsimp only; omega) | simp)) ?_)
        rintro _ w ⟨rfl, Hc⟩
        replace H : Hp _ w _ ([_, _, _, _, _, _, _, _, _, _, _]) := H.call Hc
        clear Hc
        refine ⟨H, ?_⟩
        replace HS := H
        refine t_takeg 35 rfl (by kernel_rfl) (by kernel_rfl) (by kernel_rfl) (fun _ _ _ h => h) (yielded_mk _ _ _ rfl _ rfl rfl) (fun w HS => r_bne Try.underlying4 rfl rfl) HS ?_
        have hk52 : (!((mayT (⟨t.serial, t.tenant, t.rights, t.from_, t.until_, (⟨some ⟨b5, 0, none⟩, t.cs.len, t.cs.len + 2, t.cs.l⟩ : Gl Cav), t.tag⟩ : Tok)) == (mayT t))) = false := (by show (!(mayT t == mayT t)) = false; simp)
        refine t_take 36 rfl (by kernel_rfl) (by kernel_rfl) (by kernel_rfl) (fun _ _ _ h => h) (fun w HS => r_pick rfl) HS ?_
        refine t_take 37 rfl (by kernel_rfl) (by kernel_rfl) (by kernel_rfl) (fun _ _ _ h => h) (fun w HS => r_mv) HS ?_
        refine t_takeg 38 rfl (by kernel_rfl) (by kernel_rfl) (by kernel_rfl) (fun _ _ _ h => h) (yielded_mk _ _ _ rfl _ rfl (by exact congrArg Value.bool hk52)) (fun w HS => r_ldAA (l := key) HS (i := 0) rfl rfl rt31 (show (key).length = 32 from hk)) HS ?_
        refine t_takeg 39 rfl (by kernel_rfl) (by kernel_rfl) (by kernel_rfl) (fun _ _ _ h => h) (yielded_mk _ _ _ rfl _ rfl (by exact congrArg Value.bool hk52)) (fun w HS => r_ldA (C := [V64 t.serial, .string ⟨(t.tenant).toArray⟩, V8 t.rights, VI t.from_, VI t.until_, (⟨some ⟨b5, 0, none⟩, t.cs.len, t.cs.len + 2, t.cs.l⟩ : Gl Cav).v] ++ (t.tag).map V8) HS (i := 4) rfl rfl rt76 (by rw [List.length_append, List.length_map, (show (t.tag).length = 32 from htag)]; rfl)) HS ?_
        refine t_takeg 40 rfl (by kernel_rfl) (by kernel_rfl) (by kernel_rfl) (fun _ _ _ h => h) (yielded_mk _ _ _ rfl _ rfl (by exact congrArg Value.bool hk52)) (fun w HS => r_mv) HS ?_
        refine t_takeg 42 rfl (by kernel_rfl) (by kernel_rfl) (by kernel_rfl) (fun _ _ _ h => h) (yielded_mk _ _ _ rfl _ rfl (by exact congrArg Value.bool hk52)) (fun w HS => r_ldAA (l := key) HS (i := 0) rfl rfl rt31 (show (key).length = 32 from hk)) HS ?_
        refine t_takeg 43 rfl (by kernel_rfl) (by kernel_rfl) (by kernel_rfl) (fun _ _ _ h => h) (yielded_mk _ _ _ rfl _ rfl (by exact congrArg Value.bool hk52)) (fun w HS => r_ldA (C := [V64 t.serial, .string ⟨(t.tenant).toArray⟩, V8 t.rights, VI t.from_, VI t.until_, t.cs.v] ++ (t.tag).map V8) HS (i := 1) rfl rfl rt76 (by rw [List.length_append, List.length_map, (show (t.tag).length = 32 from htag)]; rfl)) HS ?_
        refine t_takeg 44 rfl (by kernel_rfl) (by kernel_rfl) (by kernel_rfl) (fun _ _ _ h => h) (yielded_mk _ _ _ rfl _ rfl (by exact congrArg Value.bool hk52)) (fun w HS => r_mv) HS ?_
        refine t_stepg 41 rfl (by kernel_rfl) (yielded_mk _ _ _ rfl _ rfl (by exact congrArg Value.bool hk52)) (o_callR Try.func77 rfl rfl rfl (check14_ret _ (key) (show (key).length = 32 from hk) (⟨t.serial, t.tenant, t.rights, t.from_, t.until_, (⟨some ⟨b5, 0, none⟩, t.cs.len, t.cs.len + 2, t.cs.l⟩ : Gl Cav), t.tag⟩ : Tok) (show Gl.ok cavE 2 (⟨some ⟨b5, 0, none⟩, t.cs.len, t.cs.len + 2, t.cs.l⟩ : Gl Cav) _ from glBlk ([((0 : UInt8), (0 : Int)), ((0 : UInt8), (0 : Int))]) (H.has (.blk b5 (((t.cs.l ++ [((0 : UInt8), (0 : Int))]) ++ [((0 : UInt8), (0 : Int))]).flatMap cavE) 78) (by simp)) (by simp) (fun _ _ => rfl) hcl (by omega) (by omega)) (show (t.tag).length = 32 from htag) (by first | omega | (dsimp only; omega) | simp) (now)) ?_)
        rintro _ w ⟨rfl, Hc⟩
        replace H : Hp _ w _ ([_, _, _, _, _, _, _, _, _, _, _]) := H.call Hc
        clear Hc
        refine ⟨H, ?_⟩
        replace HS := H
        refine t_stepg 45 rfl (by kernel_rfl) (yielded_mk _ _ _ rfl _ rfl (by exact congrArg Value.bool hk52)) (o_callR Try.func78 rfl rfl rfl (check14r_ret _ (key) (show (key).length = 32 from hk) t (hc.up H) (show (t.tag).length = 32 from htag) (by first | omega | (dsimp only; omega) | simp) hb (now)) ?_)
        rintro _ w ⟨rfl, Hc⟩
        replace H : Hp _ w _ ([_, _, _, _, _, _, _, _, _, _, _]) := H.call Hc
        clear Hc
        refine ⟨H, ?_⟩
        replace HS := H
        refine t_takeg 46 rfl (by kernel_rfl) (by kernel_rfl) (by kernel_rfl) (fun _ _ _ h => h) (yielded_mk _ _ _ rfl _ rfl (by exact congrArg Value.bool hk52)) (fun w HS => r_bin (a := checkT (key) (⟨t.serial, t.tenant, t.rights, t.from_, t.until_, (⟨some ⟨b5, 0, none⟩, t.cs.len, t.cs.len + 2, t.cs.l⟩ : Gl Cav), t.tag⟩ : Tok) (now)) (b := checkT (key) t (now)) rfl rfl (fun _ => b_neqB false (decide_eq_false (fun h => h rfl)))) HS ?_
        refine t_take 47 rfl (by kernel_rfl) (by kernel_rfl) (by kernel_rfl) (fun _ _ _ h => h) (fun w HS => r_pick (b := false) (congrArg Value.bool hk52)) HS ?_
        refine t_take 48 rfl (by kernel_rfl) (by kernel_rfl) (by kernel_rfl) (fun _ _ _ h => h) (fun w HS => r_mv) HS ?_
        refine t_takeg 49 rfl (by kernel_rfl) (by kernel_rfl) (by kernel_rfl) (fun _ _ _ h => h) (yielded_mk _ _ _ rfl _ rfl rfl) (fun w HS => r_ldA (C := [V64 t.serial, .string ⟨(t.tenant).toArray⟩, V8 t.rights, VI t.from_, VI t.until_, (⟨some ⟨b5, 0, none⟩, t.cs.len, t.cs.len + 2, t.cs.l⟩ : Gl Cav).v] ++ (t.tag).map V8) HS (i := 4) rfl rfl rt76 (by rw [List.length_append, List.length_map, (show (t.tag).length = 32 from htag)]; rfl)) HS ?_
        refine t_takeg 50 rfl (by kernel_rfl) (by kernel_rfl) (by kernel_rfl) (fun _ _ _ h => h) (yielded_mk _ _ _ rfl _ rfl rfl) (fun w HS => r_ldA (C := [V64 t.serial, .string ⟨(t.tenant).toArray⟩, V8 t.rights, VI t.from_, VI t.until_, t.cs.v] ++ (t.tag).map V8) HS (i := 1) rfl rfl rt76 (by rw [List.length_append, List.length_map, (show (t.tag).length = 32 from htag)]; rfl)) HS ?_
        refine t_stepg 51 rfl (by kernel_rfl) (yielded_mk _ _ _ rfl _ rfl rfl) (o_callR Try.func74 rfl rfl rfl (same14_ret _ (⟨t.serial, t.tenant, t.rights, t.from_, t.until_, (⟨some ⟨b5, 0, none⟩, t.cs.len, t.cs.len + 2, t.cs.l⟩ : Gl Cav), t.tag⟩ : Tok) t (show Gl.ok cavE 2 (⟨some ⟨b5, 0, none⟩, t.cs.len, t.cs.len + 2, t.cs.l⟩ : Gl Cav) _ from glBlk ([((0 : UInt8), (0 : Int)), ((0 : UInt8), (0 : Int))]) (H.has (.blk b5 (((t.cs.l ++ [((0 : UInt8), (0 : Int))]) ++ [((0 : UInt8), (0 : Int))]).flatMap cavE) 78) (by simp)) (by simp) (fun _ _ => rfl) hcl (by omega) (by omega)) (show (t.tag).length = 32 from htag) (hc.up H) (show (t.tag).length = 32 from htag)) ?_)
        rintro _ w ⟨rfl, Hc⟩
        replace H : Hp _ w _ ([_, _, _, _, _, _, _, _, _, _, _]) := H.call Hc
        clear Hc
        have hk53 : (sameT (⟨t.serial, t.tenant, t.rights, t.from_, t.until_, (⟨some ⟨b5, 0, none⟩, t.cs.len, t.cs.len + 2, t.cs.l⟩ : Gl Cav), t.tag⟩ : Tok) t) = true := (decide_eq_true rfl)
        refine ⟨H, ?_⟩
        replace HS := H
        refine t_takeg 52 rfl (by kernel_rfl) (by kernel_rfl) (by kernel_rfl) (fun _ _ _ h => h) (yielded_mk _ _ _ rfl _ rfl rfl) (fun w HS => r_not rfl) HS ?_
        refine t_take 53 rfl (by kernel_rfl) (by kernel_rfl) (by kernel_rfl) (fun _ _ _ h => h) (fun w HS => r_pick rfl) HS ?_
        refine t_done (by kernel_rfl) ?_
        clear HS
        repeat refine c_seq ?_
        refine c_no (by exact congrArg Value.bool (congrArg not hk53)) ?_
        refine c_skip ?_
        repeat refine c_seq ?_
        refine c_region ?_
        refine l_op (o_val (r_as) ?_)
        first | refine l_end ?_ | refine l_nil ?_
        repeat refine c_seq ?_
        refine c_block ?_
        repeat refine c_seq ?_
        refine c_loop2 (fun (j : Nat) (g : List Cav) => [(3, VI now), (4, .pointer (some ⟨b1, 0, none⟩)), (5, .pointer (some ⟨b2, 0, none⟩)), (6, .pointer (some ⟨b3, 0, none⟩)), (9, .pointer (some ⟨b6, 0, none⟩)), (10, VI (i : Int)), (15, .pointer (some ⟨b46, 0, none⟩)), (23, VI (j : Int))])
          (fun (j : Nat) (g : List Cav) w => (j ≤ t.cs.len + 1) ∧ Hp w0 w [] ([.blk b1 ((key).map V8) 31, .blk b2 ([V64 t.serial, .string ⟨(t.tenant).toArray⟩, V8 t.rights, VI t.from_, VI t.until_, t.cs.v] ++ (t.tag).map V8) 76, .blk b3 ([V8 c.1, VI c.2]) 78, .blk b5 (((t.cs.l ++ [((0 : UInt8), (0 : Int))]) ++ [((0 : UInt8), (0 : Int))]).flatMap cavE) 78, .blk b6 ([V64 t.serial, .string ⟨(t.tenant).toArray⟩, V8 t.rights, VI t.from_, VI t.until_, (⟨some ⟨b5, 0, none⟩, t.cs.len, t.cs.len + 2, t.cs.l⟩ : Gl Cav).v] ++ (t.tag).map V8) 76, .blk b40 ([V64 (0 : UInt64), .string ⟨(([] : List UInt8)).toArray⟩, V8 (0 : UInt8), VI 0, VI 0, .slice none 0 0] ++ (List.replicate 32 (0 : UInt8)).map V8) 76, .blk b41 ([V64 (0 : UInt64), .string ⟨(([] : List UInt8)).toArray⟩, V8 (0 : UInt8), VI 0, VI 0, .slice none 0 0] ++ (List.replicate 32 (0 : UInt8)).map V8) 76, .own a44 (t.cs.len + 1) c45 ((g).flatMap cavE) 78 2, .blk b46 ([V64 t.serial, .string ⟨(t.tenant).toArray⟩, V8 t.rights, VI t.from_, VI t.until_, .slice (hd a44) (t.cs.len + 1) c45] ++ (onF (t.tag) [c]).map V8) 76, .own a47 (t.cs.len + 1) c48 ((t.cs.l ++ [c]).flatMap cavE) 78 2, .blk b49 ([V64 t.serial, .string ⟨(t.tenant).toArray⟩, V8 t.rights, VI t.from_, VI t.until_, .slice (hd a47) (t.cs.len + 1) c48] ++ (onF (t.tag) [c]).map V8) 76]))
          (fun (j : Nat) (g : List Cav) => t.cs.len + 1 - j) 0 (t.cs.l ++ [c]) ⟨rfl, rfl, rfl, rfl, rfl, rfl, rfl, rfl, trivial⟩ ⟨Nat.zero_le _, H⟩ ?_
        clear H
        rintro j g τ w ⟨hj, H⟩
        repeat refine c_seq ?_
        refine c_region ?_
        refine l_op (o_val (r_mv) ?_)
        refine l_op (o_val (r_fa rfl fo76_5) ?_)
        refine l_op (o_val (r_ld (v := .slice (hd a44) (t.cs.len + 1) c45) H (i := 8) rfl rfl ct74 rfl) ?_)
        refine l_op (o_val (r_lens el74 rfl) ?_)
        refine l_op (o_val (r_bin (a := (j : Int)) (b := ((t.cs.len + 1 : Nat) : Int)) rfl rfl (fun _ => b_lss)) ?_)
        first | refine l_end ?_ | refine l_nil ?_
        by_cases hc54 : (j : Int) < ((t.cs.len + 1 : Nat) : Int)
        ·
         repeat refine c_seq ?_
         refine c_yes (by exact congrArg Value.bool (decide_eq_true hc54)) ?_
         refine c_skip ?_
         repeat refine c_seq ?_
         refine c_block ?_
         repeat refine c_seq ?_
         refine c_region ?_
         refine l_op (o_val (r_fa rfl fo76_5) ?_)
         refine l_op (o_val (r_ld (v := .slice (hd a44) (t.cs.len + 1) c45) H (i := 8) rfl rfl ct74 rfl) ?_)
         refine l_op (o_val (r_mv) ?_)
         refine l_op (o_val (r_bld' (cells := ([V8 (99 : UInt8), VI 0]).toArray) (pv := [(0, V8 (99 : UInt8))]) bd78 rfl rfl) ?_)
         obtain ⟨ab55, ah56⟩ := H.ownAddr (i := 7) rfl (by omega)
         refine l_op (o_val (r_isN j rfl rfl el74 ah56 (by omega) (by (try simp only [Sl.cut]); omega)) ?_)
         have hg57 := ((H.glOwn (i := 7) rfl (by decide) (fun _ _ => rfl))).ln
         refine l_op (o_stG (enc := cavE) (c := ((99 : UInt8), 0)) (k := j) H (i := 7) rfl (fun _ _ => rfl) rfl ah56 rfl cs78 rfl (by rfl) (by dsimp only at hg57; omega) (fun w H => ?_))
         replace H : Hp _ w _ ([_, _, _, _, _, _, _, .own a44 (t.cs.len + 1) c45 (((g).set j ((99 : UInt8), 0)).flatMap cavE) 78 2, _, _, _]) := H
         first | refine l_end ?_ | refine l_nil ?_
         repeat refine c_seq ?_
         refine c_region ?_
         refine l_op (o_val (r_mv) ?_)
         refine l_op (o_val (r_bin (a := (j : Int)) (b := 1) rfl rfl (fun _ => b_add (by omega) (by omega))) ?_)
         refine l_op (o_val (r_as) ?_)
         first | refine l_end ?_ | refine l_nil ?_
         refine round_end (j + 1, (g).set j ((99 : UInt8), 0)) ?_ ?_ ?_
         · exact ⟨rfl, rfl, rfl, rfl, rfl, rfl, rfl, show VI ((j : Int) + 1) = VI ((j + 1 : Nat) : Int) from congrArg VI (by omega), trivial⟩
         · refine ⟨?_, ?_⟩
           · try dsimp only
             exact by omega
           · exact H
         · show t.cs.len + 1 - (j + 1 : Nat) < t.cs.len + 1 - j; omega
        ·
         repeat refine c_seq ?_
         refine c_no (by exact congrArg Value.bool (decide_eq_false hc54)) ?_
         refine c_exit ?_
         repeat refine c_seq ?_
         refine wp_held (fun w => Hp w0 w [] [.blk b1 ((key).map V8) 31, .blk b2 ([V64 t.serial, .string ⟨(t.tenant).toArray⟩, V8 t.rights, VI t.from_, VI t.until_, t.cs.v] ++ (t.tag).map V8) 76, .blk b3 ([V8 c.1, VI c.2]) 78, .blk b5 (((t.cs.l ++ [((0 : UInt8), (0 : Int))]) ++ [((0 : UInt8), (0 : Int))]).flatMap cavE) 78, .blk b6 ([V64 t.serial, .string ⟨(t.tenant).toArray⟩, V8 t.rights, VI t.from_, VI t.until_, (⟨some ⟨b5, 0, none⟩, t.cs.len, t.cs.len + 2, t.cs.l⟩ : Gl Cav).v] ++ (t.tag).map V8) 76, .blk b40 ([V64 (0 : UInt64), .string ⟨(([] : List UInt8)).toArray⟩, V8 (0 : UInt8), VI 0, VI 0, .slice none 0 0] ++ (List.replicate 32 (0 : UInt8)).map V8) 76, .blk b41 ([V64 (0 : UInt64), .string ⟨(([] : List UInt8)).toArray⟩, V8 (0 : UInt8), VI 0, VI 0, .slice none 0 0] ++ (List.replicate 32 (0 : UInt8)).map V8) 76, .own a44 (t.cs.len + 1) c45 ((g).flatMap cavE) 78 2, .blk b46 ([V64 t.serial, .string ⟨(t.tenant).toArray⟩, V8 t.rights, VI t.from_, VI t.until_, .slice (hd a44) (t.cs.len + 1) c45] ++ (onF (t.tag) [c]).map V8) 76, .own a47 (t.cs.len + 1) c48 ((t.cs.l ++ [c]).flatMap cavE) 78 2, .blk b49 ([V64 t.serial, .string ⟨(t.tenant).toArray⟩, V8 t.rights, VI t.from_, VI t.until_, .slice (hd a47) (t.cs.len + 1) c48] ++ (onF (t.tag) [c]).map V8) 76]) mixed ?_
         replace H := H.drew
         have HS := H
         refine t_take 0 rfl (by kernel_rfl) (by kernel_rfl) (by kernel_rfl) (fun _ _ _ h => h) (fun w HS => r_fa rfl fo76_5) HS ?_
         refine t_take 1 rfl (by kernel_rfl) (by kernel_rfl) (by kernel_rfl) (fun _ _ _ h => h) (fun w HS => r_ld (v := (⟨some ⟨b5, 0, none⟩, t.cs.len, t.cs.len + 2, t.cs.l⟩ : Gl Cav).v) HS (i := 4) rfl rfl ct74 rfl) HS ?_
         refine t_take 2 rfl (by kernel_rfl) (by kernel_rfl) (by kernel_rfl) (fun _ _ _ h => h) (fun w HS => r_ldA (C := [V64 t.serial, .string ⟨(t.tenant).toArray⟩, V8 t.rights, VI t.from_, VI t.until_, (⟨some ⟨b5, 0, none⟩, t.cs.len, t.cs.len + 2, t.cs.l⟩ : Gl Cav).v] ++ (t.tag).map V8) HS (i := 4) rfl rfl rt76 (by rw [List.length_append, List.length_map, (show (t.tag).length = 32 from htag)]; rfl)) HS ?_
         refine t_step 3 rfl (by kernel_rfl) (o_callR Try.func79 rfl rfl rfl (cap2_s _ (⟨t.serial, t.tenant, t.rights, t.from_, t.until_, (⟨some ⟨b5, 0, none⟩, t.cs.len, t.cs.len + 2, t.cs.l⟩ : Gl Cav), t.tag⟩ : Tok) (show Gl.ok cavE 2 (⟨some ⟨b5, 0, none⟩, t.cs.len, t.cs.len + 2, t.cs.l⟩ : Gl Cav) _ from glBlk ([((0 : UInt8), (0 : Int)), ((0 : UInt8), (0 : Int))]) (H.has (.blk b5 (((t.cs.l ++ [((0 : UInt8), (0 : Int))]) ++ [((0 : UInt8), (0 : Int))]).flatMap cavE) 78) (by simp)) (by simp) (fun _ _ => rfl) hcl (by omega) (by omega)) (show (t.tag).length = 32 from htag) (by (try dsimp only); omega) (by (try dsimp only); omega)) ?_)
         rintro _ w ⟨rfl, Hc⟩
         replace H : Hp _ w _ ([_, _, _, _, _, _, _, _, _, _, _]) := H.call Hc
         clear Hc
         refine ⟨H, ?_⟩
         replace HS := H
         refine t_take 4 rfl (by kernel_rfl) (by kernel_rfl) (by kernel_rfl) (fun _ _ _ h => h) (fun w HS => r_slH (len := t.cs.len) (cap := t.cs.len + 2) (h := t.cs.len + 1) (m := t.cs.len + 2) (hv := some (VI ((t.cs.len : Int) + 1))) rfl el74 rfl rfl rfl (fun w => by exact sbh (t.cs.len + 1) (by omega) (by omega) w)) HS ?_
         refine t_take 5 rfl (by kernel_rfl) (by kernel_rfl) (by kernel_rfl) (fun _ _ _ h => h) (fun w HS => r_as) HS ?_
         refine t_done (by kernel_rfl) ?_
         clear HS
         repeat refine c_seq ?_
         refine c_region ?_
         refine l_op (o_val (r_fa rfl fo76_5) ?_)
         refine l_op (o_val (r_ld (v := t.cs.v) H (i := 1) rfl rfl ct74 rfl) ?_)
         refine l_op (o_val (r_lens el74 rfl) ?_)
         refine l_op (o_val (r_bin (a := (t.cs.len : Int)) (b := 0) rfl rfl (fun _ => b_gtrB true (decide_eq_true (by omega)))) ?_)
         refine l_op (o_val (r_mv) ?_)
         refine l_yes rfl rfl rfl (o_val (r_mv) ?_)
         refine l_yes rfl rfl rfl (o_val (r_fa rfl fo76_5) ?_)
         refine l_yes rfl rfl rfl (o_val (r_ld (v := t.cs.v) H (i := 1) rfl rfl ct74 rfl) ?_)
         refine l_yes rfl rfl rfl (o_val (r_lens el74 rfl) ?_)
         have ah60 := ((show Gl.ok cavE 2 (⟨some ⟨b5, 0, none⟩, t.cs.len + 1, t.cs.len + 2, t.cs.l ++ [((0 : UInt8), (0 : Int))]⟩ : Gl Cav) _ from glBlk ([((0 : UInt8), (0 : Int))]) (H.has (.blk b5 (((t.cs.l ++ [((0 : UInt8), (0 : Int))]) ++ [((0 : UInt8), (0 : Int))]).flatMap cavE) 78) (by simp)) rfl (fun _ _ => rfl) (by rw [List.length_append, hcl]; rfl) (by omega) (by omega))).addr (by decide) (by first | omega | (dsimp only; omega))
         obtain ⟨ab58, ao59, ah60⟩ := ah60
         refine l_yes rfl rfl rfl (o_val (r_isN t.cs.len rfl rfl el74 ah60 (by omega) (by (try simp only [Sl.cut]); omega)) ?_)
         have he62 : ∃ c, (⟨some ⟨b5, 0, none⟩, t.cs.len + 1, t.cs.len + 2, t.cs.l ++ [((0 : UInt8), (0 : Int))]⟩ : Gl Cav).l[t.cs.len]? = some c := ⟨_, List.getElem?_eq_getElem (by have := ((show Gl.ok cavE 2 (⟨some ⟨b5, 0, none⟩, t.cs.len + 1, t.cs.len + 2, t.cs.l ++ [((0 : UInt8), (0 : Int))]⟩ : Gl Cav) _ from glBlk ([((0 : UInt8), (0 : Int))]) (H.has (.blk b5 (((t.cs.l ++ [((0 : UInt8), (0 : Int))]) ++ [((0 : UInt8), (0 : Int))]).flatMap cavE) 78) (by simp)) rfl (fun _ _ => rfl) (by rw [List.length_append, hcl]; rfl) (by omega) (by omega))).ln; (try dsimp only at this ⊢); omega)⟩
         obtain ⟨e61, he62⟩ := he62
         have hez63 := ((show Gl.ok cavE 2 (⟨some ⟨b5, 0, none⟩, t.cs.len + 1, t.cs.len + 2, t.cs.l ++ [((0 : UInt8), (0 : Int))]⟩ : Gl Cav) _ from glBlk ([((0 : UInt8), (0 : Int))]) (H.has (.blk b5 (((t.cs.l ++ [((0 : UInt8), (0 : Int))]) ++ [((0 : UInt8), (0 : Int))]).flatMap cavE) 78) (by simp)) rfl (fun _ _ => rfl) (by rw [List.length_append, hcl]; rfl) (by omega) (by omega))).sz e61 (List.mem_of_getElem? he62)
         refine l_yes rfl rfl rfl (o_val (r_ldRow (s := (⟨some ⟨b5, 0, none⟩, t.cs.len + 1, t.cs.len + 2, t.cs.l ++ [((0 : UInt8), (0 : Int))]⟩ : Gl Cav)) (k := t.cs.len) (show Gl.ok cavE 2 (⟨some ⟨b5, 0, none⟩, t.cs.len + 1, t.cs.len + 2, t.cs.l ++ [((0 : UInt8), (0 : Int))]⟩ : Gl Cav) _ from glBlk ([((0 : UInt8), (0 : Int))]) (H.has (.blk b5 (((t.cs.l ++ [((0 : UInt8), (0 : Int))]) ++ [((0 : UInt8), (0 : Int))]).flatMap cavE) 78) (by simp)) rfl (fun _ _ => rfl) (by rw [List.length_append, hcl]; rfl) (by omega) (by omega)) ah60 rfl rt78 (by decide) he62) ?_)
         refine l_yes rfl rfl rfl (o_val (r_bld' (cells := ([V8 (0 : UInt8), VI 0]).toArray) (pv := []) bd78 rfl rfl) ?_)
         refine l_yes rfl rfl rfl (o_val (r_neS egCav rfl rfl (eqCav e61 ((0 : UInt8), 0))) ?_)
         have hk64 : (!(decide (e61 = ((0 : UInt8), 0)))) = false := (by rw [decide_eq_true (snoc_get (l := t.cs.l) hcl he62 : e61 = ((0 : UInt8), (0 : Int)))]; rfl)
         refine l_op (o_val (r_pick rfl) ?_)
         first | refine l_end ?_ | refine l_nil ?_
         repeat refine c_seq ?_
         refine c_no (by exact congrArg Value.bool hk64) ?_
         refine c_skip ?_
         repeat refine c_seq ?_
         refine c_region ?_
         refine l_op (o_val (r_mv) ?_)
         refine l_op (o_val (r_bin (a := (i : Int)) (b := 1) rfl rfl (fun _ => b_add (by omega) (by omega))) ?_)
         refine l_op (o_val (r_as) ?_)
         first | refine l_end ?_ | refine l_nil ?_
         refine round_end (i + 1) ?_ ?_ ?_
         · exact ⟨rfl, rfl, rfl, rfl, rfl, show VI ((i : Int) + 1) = VI ((i + 1 : Nat) : Int) from congrArg VI (by omega), trivial⟩
         · refine ⟨?_, ?_⟩
           · try dsimp only
             exact by omega
           · exact H.sub (.cons_cons _ (.cons_cons _ (.cons_cons _ (.cons_cons _ (.cons_cons _ (List.nil_sublist _))))))
         · show 2 - (i + 1 : Nat) < 2 - i; omega
       ·
        refine l_op (o_callR Try.func70 rfl rfl rfl (less_n3 _ (⟨t.serial, t.tenant, t.rights, t.from_, t.until_, (⟨some ⟨b5, 0, none⟩, t.cs.len, t.cs.len + 2, t.cs.l⟩ : Gl Cav), t.tag⟩ : Tok) c (show Gl.ok cavE 2 (⟨some ⟨b5, 0, none⟩, t.cs.len, t.cs.len + 2, t.cs.l⟩ : Gl Cav) _ from glBlk ([((0 : UInt8), (0 : Int)), ((0 : UInt8), (0 : Int))]) (H.has (.blk b5 (((t.cs.l ++ [((0 : UInt8), (0 : Int))]) ++ [((0 : UInt8), (0 : Int))]).flatMap cavE) 78) (by simp)) (by simp) (fun _ _ => rfl) hcl (by omega) (by omega)) (show (t.tag).length = 32 from htag) (by first | omega | (dsimp only; omega) | simp) hc8 hc42 (by (try dsimp only); omega)) ?_)
        rintro _ w ⟨rfl, Hc⟩
        replace H : Hp _ w _ ([_, _, _, _, _, _, _]) := H.call Hc
        clear Hc
        refine l_op (o_val (r_mv) ?_)
        refine l_op (o_val (r_ext rfl rfl) ?_)
        refine l_op (o_val (r_ext rfl rfl) ?_)
        refine l_op (o_alloc H zc76 (fun b65 w H hb65 => ?_))
        replace H : Hp _ w _ ([_, _, _, _, _, _, _, .blk b65 ([V64 (0 : UInt64), .string ⟨(([] : List UInt8)).toArray⟩, V8 (0 : UInt8), VI 0, VI 0, .slice none 0 0] ++ (List.replicate 32 (0 : UInt8)).map V8) 76]) := H
        refine l_op (o_stW (C' := [V64 (0 : UInt64), .string ⟨(([] : List UInt8)).toArray⟩, V8 (0 : UInt8), VI 0, VI 0, .slice none 0 0] ++ (List.replicate 32 (0 : UInt8)).map V8) H (i := 7) rfl rfl rfl cs76 (by simp [Value.oneCell']) (by rw [List.length_append, List.length_map, (show (List.replicate 32 (0 : UInt8)).length = 32 from (List.length_replicate ..))]; rfl) (by rw [List.length_append, List.length_map, (show (List.replicate 32 (0 : UInt8)).length = 32 from (List.length_replicate ..))]; rfl) (fun w H => ?_))
        replace H : Hp _ w _ [_, _, _, _, _, _, _, _] := H
        refine l_op (o_val (r_as) ?_)
        first | refine l_end ?_ | refine l_nil ?_
        repeat refine c_seq ?_
        refine c_region ?_
        refine l_op (o_val (r_ldA (C := [V64 t.serial, .string ⟨(t.tenant).toArray⟩, V8 t.rights, VI t.from_, VI t.until_, t.cs.v] ++ (t.tag).map V8) H (i := 1) rfl rfl rt76 (by rw [List.length_append, List.length_map, (show (t.tag).length = 32 from htag)]; rfl)) ?_)
        refine l_op (o_val (r_ldA (C := [V8 c.1, VI c.2]) H (i := 2) rfl rfl rt78 (by rfl)) ?_)
        refine l_op (o_callR Try.func71 rfl rfl rfl (lessr_n3 _ t c (hc.up H) (show (t.tag).length = 32 from htag) (by first | omega | (dsimp only; omega) | simp) hc8 hc42 (by (try dsimp only); omega)) ?_)
        rintro _ w ⟨rfl, Hc⟩
        replace H : Hp _ w _ ([_, _, _, _, _, _, _, _]) := H.call Hc
        clear Hc
        refine l_op (o_val (r_mv) ?_)
        refine l_op (o_val (r_ext rfl rfl) ?_)
        refine l_op (o_val (r_ext rfl rfl) ?_)
        refine l_op (o_alloc H zc76 (fun b66 w H hb66 => ?_))
        replace H : Hp _ w _ ([_, _, _, _, _, _, _, _, .blk b66 ([V64 (0 : UInt64), .string ⟨(([] : List UInt8)).toArray⟩, V8 (0 : UInt8), VI 0, VI 0, .slice none 0 0] ++ (List.replicate 32 (0 : UInt8)).map V8) 76]) := H
        refine l_op (o_stW (C' := [V64 (0 : UInt64), .string ⟨(([] : List UInt8)).toArray⟩, V8 (0 : UInt8), VI 0, VI 0, .slice none 0 0] ++ (List.replicate 32 (0 : UInt8)).map V8) H (i := 8) rfl rfl rfl cs76 (by simp [Value.oneCell']) (by rw [List.length_append, List.length_map, (show (List.replicate 32 (0 : UInt8)).length = 32 from (List.length_replicate ..))]; rfl) (by rw [List.length_append, List.length_map, (show (List.replicate 32 (0 : UInt8)).length = 32 from (List.length_replicate ..))]; rfl) (fun w H => ?_))
        replace H : Hp _ w _ [_, _, _, _, _, _, _, _, _] := H
        refine l_op (o_val (r_as) ?_)
        first | refine l_end ?_ | refine l_nil ?_
        repeat refine c_seq ?_
        refine c_region ?_
        refine l_op (o_val (r_ldA (C := [V64 t.serial, .string ⟨(t.tenant).toArray⟩, V8 t.rights, VI t.from_, VI t.until_, (⟨some ⟨b5, 0, none⟩, t.cs.len, t.cs.len + 2, t.cs.l⟩ : Gl Cav).v] ++ (t.tag).map V8) H (i := 4) rfl rfl rt76 (by rw [List.length_append, List.length_map, (show (t.tag).length = 32 from htag)]; rfl)) ?_)
        refine l_op (o_callR Try.func72 rfl rfl rfl (effect_ret _ (⟨t.serial, t.tenant, t.rights, t.from_, t.until_, (⟨some ⟨b5, 0, none⟩, t.cs.len, t.cs.len + 2, t.cs.l⟩ : Gl Cav), t.tag⟩ : Tok) (show Gl.ok cavE 2 (⟨some ⟨b5, 0, none⟩, t.cs.len, t.cs.len + 2, t.cs.l⟩ : Gl Cav) _ from glBlk ([((0 : UInt8), (0 : Int)), ((0 : UInt8), (0 : Int))]) (H.has (.blk b5 (((t.cs.l ++ [((0 : UInt8), (0 : Int))]) ++ [((0 : UInt8), (0 : Int))]).flatMap cavE) 78) (by simp)) (by simp) (fun _ _ => rfl) hcl (by omega) (by omega)) (show (t.tag).length = 32 from htag)) ?_)
        rintro _ w ⟨rfl, Hc⟩
        replace H : Hp _ w _ ([_, _, _, _, _, _, _, _, _]) := H.call Hc
        clear Hc
        refine l_op (o_val (r_mv) ?_)
        refine l_op (o_val (r_ext rfl rfl) ?_)
        refine l_op (o_val (r_ext rfl rfl) ?_)
        refine l_op (o_val (r_as) ?_)
        refine l_op (o_val (r_as) ?_)
        first | refine l_end ?_ | refine l_nil ?_
        repeat refine c_seq ?_
        refine c_region ?_
        refine l_op (o_val (r_ldA (C := [V64 t.serial, .string ⟨(t.tenant).toArray⟩, V8 t.rights, VI t.from_, VI t.until_, t.cs.v] ++ (t.tag).map V8) H (i := 1) rfl rfl rt76 (by rw [List.length_append, List.length_map, (show (t.tag).length = 32 from htag)]; rfl)) ?_)
        refine l_op (o_callR Try.func73 rfl rfl rfl (effect14_ret _ t (hc.up H) (show (t.tag).length = 32 from htag)) ?_)
        rintro _ w ⟨rfl, Hc⟩
        replace H : Hp _ w _ ([_, _, _, _, _, _, _, _, _]) := H.call Hc
        clear Hc
        refine l_op (o_val (r_mv) ?_)
        refine l_op (o_val (r_ext rfl rfl) ?_)
        refine l_op (o_val (r_ext rfl rfl) ?_)
        refine l_op (o_val (r_as) ?_)
        refine l_op (o_val (r_as) ?_)
        first | refine l_end ?_ | refine l_nil ?_
        repeat refine c_seq ?_
        refine wp_held (fun w => Hp w0 w [] [.blk b1 ((key).map V8) 31, .blk b2 ([V64 t.serial, .string ⟨(t.tenant).toArray⟩, V8 t.rights, VI t.from_, VI t.until_, t.cs.v] ++ (t.tag).map V8) 76, .blk b3 ([V8 c.1, VI c.2]) 78, .blk b5 (((t.cs.l ++ [((0 : UInt8), (0 : Int))]) ++ [((0 : UInt8), (0 : Int))]).flatMap cavE) 78, .blk b6 ([V64 t.serial, .string ⟨(t.tenant).toArray⟩, V8 t.rights, VI t.from_, VI t.until_, (⟨some ⟨b5, 0, none⟩, t.cs.len, t.cs.len + 2, t.cs.l⟩ : Gl Cav).v] ++ (t.tag).map V8) 76, .blk b40 ([V64 (0 : UInt64), .string ⟨(([] : List UInt8)).toArray⟩, V8 (0 : UInt8), VI 0, VI 0, .slice none 0 0] ++ (List.replicate 32 (0 : UInt8)).map V8) 76, .blk b41 ([V64 (0 : UInt64), .string ⟨(([] : List UInt8)).toArray⟩, V8 (0 : UInt8), VI 0, VI 0, .slice none 0 0] ++ (List.replicate 32 (0 : UInt8)).map V8) 76, .blk b65 ([V64 (0 : UInt64), .string ⟨(([] : List UInt8)).toArray⟩, V8 (0 : UInt8), VI 0, VI 0, .slice none 0 0] ++ (List.replicate 32 (0 : UInt8)).map V8) 76, .blk b66 ([V64 (0 : UInt64), .string ⟨(([] : List UInt8)).toArray⟩, V8 (0 : UInt8), VI 0, VI 0, .slice none 0 0] ++ (List.replicate 32 (0 : UInt8)).map V8) 76]) mixed ?_
        replace H := H.drew
        have HS := H
        refine t_take 0 rfl (by kernel_rfl) (by kernel_rfl) (by kernel_rfl) (fun _ _ _ h => h) (fun w HS => r_mv) HS ?_
        refine t_take 1 rfl (by kernel_rfl) (by kernel_rfl) (by kernel_rfl) (fun _ _ _ h => h) (fun w HS => r_mv) HS ?_
        refine t_take 2 rfl (by kernel_rfl) (by kernel_rfl) (by kernel_rfl) (fun _ _ _ h => h) (fun w HS => r_bin (a := 1) (b := 1) rfl rfl (fun _ => b_neqB false (decide_eq_false (by decide)))) HS ?_
        refine t_take 3 rfl (by kernel_rfl) (by kernel_rfl) (by kernel_rfl) (fun _ _ _ h => h) (fun w HS => r_mv) HS ?_
        refine t_takeg 4 rfl (by kernel_rfl) (by kernel_rfl) (by kernel_rfl) (fun _ _ _ h => h) (yielded_mk _ _ _ rfl _ rfl rfl) (fun w HS => r_mv) HS ?_
        refine t_takeg 5 rfl (by kernel_rfl) (by kernel_rfl) (by kernel_rfl) (fun _ _ _ h => h) (yielded_mk _ _ _ rfl _ rfl rfl) (fun w HS => r_mv) HS ?_
        refine t_takeg 6 rfl (by kernel_rfl) (by kernel_rfl) (by kernel_rfl) (fun _ _ _ h => h) (yielded_mk _ _ _ rfl _ rfl rfl) (fun w HS => r_bin (a := 2) (b := 2) rfl rfl (fun _ => b_neqB false (decide_eq_false (by decide)))) HS ?_
        refine t_take 7 rfl (by kernel_rfl) (by kernel_rfl) (by kernel_rfl) (fun _ _ _ h => h) (fun w HS => r_pick rfl) HS ?_
        refine t_take 8 rfl (by kernel_rfl) (by kernel_rfl) (by kernel_rfl) (fun _ _ _ h => h) (fun w HS => r_mv) HS ?_
        refine t_takeg 9 rfl (by kernel_rfl) (by kernel_rfl) (by kernel_rfl) (fun _ _ _ h => h) (yielded_mk _ _ _ rfl _ rfl rfl) (fun w HS => r_ldA (C := [V64 (0 : UInt64), .string ⟨(([] : List UInt8)).toArray⟩, V8 (0 : UInt8), VI 0, VI 0, .slice none 0 0] ++ (List.replicate 32 (0 : UInt8)).map V8) HS (i := 5) rfl rfl rt76 (by rw [List.length_append, List.length_map, (show (List.replicate 32 (0 : UInt8)).length = 32 from (List.length_replicate ..))]; rfl)) HS ?_
        refine t_takeg 10 rfl (by kernel_rfl) (by kernel_rfl) (by kernel_rfl) (fun _ _ _ h => h) (yielded_mk _ _ _ rfl _ rfl rfl) (fun w HS => r_ldA (C := [V64 (0 : UInt64), .string ⟨(([] : List UInt8)).toArray⟩, V8 (0 : UInt8), VI 0, VI 0, .slice none 0 0] ++ (List.replicate 32 (0 : UInt8)).map V8) HS (i := 6) rfl rfl rt76 (by rw [List.length_append, List.length_map, (show (List.replicate 32 (0 : UInt8)).length = 32 from (List.length_replicate ..))]; rfl)) HS ?_
        refine t_stepg 11 rfl (by kernel_rfl) (yielded_mk _ _ _ rfl _ rfl rfl) (o_callR Try.func74 rfl rfl rfl (same14_ret _ (⟨(0 : UInt64), ([] : List UInt8), (0 : UInt8), 0, 0, ⟨none, 0, 0, []⟩, List.replicate 32 (0 : UInt8)⟩ : Tok) (⟨(0 : UInt64), ([] : List UInt8), (0 : UInt8), 0, 0, ⟨none, 0, 0, []⟩, List.replicate 32 (0 : UInt8)⟩ : Tok) (Gl.ok_nil _) (show (List.replicate 32 (0 : UInt8)).length = 32 from (List.length_replicate ..)) (Gl.ok_nil _) (show (List.replicate 32 (0 : UInt8)).length = 32 from (List.length_replicate ..))) ?_)
        rintro _ w ⟨rfl, Hc⟩
        replace H : Hp _ w _ ([_, _, _, _, _, _, _, _, _]) := H.call Hc
        clear Hc
        have hk67 : (sameT (⟨(0 : UInt64), ([] : List UInt8), (0 : UInt8), 0, 0, ⟨none, 0, 0, []⟩, List.replicate 32 (0 : UInt8)⟩ : Tok) (⟨(0 : UInt64), ([] : List UInt8), (0 : UInt8), 0, 0, ⟨none, 0, 0, []⟩, List.replicate 32 (0 : UInt8)⟩ : Tok)) = true := (decide_eq_true (by first | rfl | (have e := hcs0 (by omega); show (⟨t.serial, t.tenant, t.rights, t.from_, t.until_, [], hmac key (framed [t.head])⟩ : TV) = ⟨t.serial, t.tenant, t.rights, t.from_, t.until_, t.cs.l, hmac key (framed [t.head])⟩; rw [e])))
        refine ⟨H, ?_⟩
        replace HS := H
        refine t_takeg 12 rfl (by kernel_rfl) (by kernel_rfl) (by kernel_rfl) (fun _ _ _ h => h) (yielded_mk _ _ _ rfl _ rfl rfl) (fun w HS => r_not rfl) HS ?_
        refine t_take 13 rfl (by kernel_rfl) (by kernel_rfl) (by kernel_rfl) (fun _ _ _ h => h) (fun w HS => r_pick rfl) HS ?_
        refine t_take 14 rfl (by kernel_rfl) (by kernel_rfl) (by kernel_rfl) (fun _ _ _ h => h) (fun w HS => r_mv) HS ?_
        refine t_takeg 15 rfl (by kernel_rfl) (by kernel_rfl) (by kernel_rfl) (fun _ _ _ h => h) (yielded_mk _ _ _ rfl _ rfl (by exact congrArg Value.bool (congrArg not hk67))) (fun w HS => r_ldA (C := [V64 (0 : UInt64), .string ⟨(([] : List UInt8)).toArray⟩, V8 (0 : UInt8), VI 0, VI 0, .slice none 0 0] ++ (List.replicate 32 (0 : UInt8)).map V8) HS (i := 7) rfl rfl rt76 (by rw [List.length_append, List.length_map, (show (List.replicate 32 (0 : UInt8)).length = 32 from (List.length_replicate ..))]; rfl)) HS ?_
        refine t_takeg 16 rfl (by kernel_rfl) (by kernel_rfl) (by kernel_rfl) (fun _ _ _ h => h) (yielded_mk _ _ _ rfl _ rfl (by exact congrArg Value.bool (congrArg not hk67))) (fun w HS => r_ldA (C := [V64 (0 : UInt64), .string ⟨(([] : List UInt8)).toArray⟩, V8 (0 : UInt8), VI 0, VI 0, .slice none 0 0] ++ (List.replicate 32 (0 : UInt8)).map V8) HS (i := 8) rfl rfl rt76 (by rw [List.length_append, List.length_map, (show (List.replicate 32 (0 : UInt8)).length = 32 from (List.length_replicate ..))]; rfl)) HS ?_
        refine t_stepg 17 rfl (by kernel_rfl) (yielded_mk _ _ _ rfl _ rfl (by exact congrArg Value.bool (congrArg not hk67))) (o_callR Try.func74 rfl rfl rfl (same14_ret _ (⟨(0 : UInt64), ([] : List UInt8), (0 : UInt8), 0, 0, ⟨none, 0, 0, []⟩, List.replicate 32 (0 : UInt8)⟩ : Tok) (⟨(0 : UInt64), ([] : List UInt8), (0 : UInt8), 0, 0, ⟨none, 0, 0, []⟩, List.replicate 32 (0 : UInt8)⟩ : Tok) (Gl.ok_nil _) (show (List.replicate 32 (0 : UInt8)).length = 32 from (List.length_replicate ..)) (Gl.ok_nil _) (show (List.replicate 32 (0 : UInt8)).length = 32 from (List.length_replicate ..))) ?_)
        rintro _ w ⟨rfl, Hc⟩
        replace H : Hp _ w _ ([_, _, _, _, _, _, _, _, _]) := H.call Hc
        clear Hc
        refine ⟨H, ?_⟩
        replace HS := H
        refine t_takeg 18 rfl (by kernel_rfl) (by kernel_rfl) (by kernel_rfl) (fun _ _ _ h => h) (yielded_mk _ _ _ rfl _ rfl (by exact congrArg Value.bool (congrArg not hk67))) (fun w HS => r_not rfl) HS ?_
        refine t_take 19 rfl (by kernel_rfl) (by kernel_rfl) (by kernel_rfl) (fun _ _ _ h => h) (fun w HS => r_pick (b := false) (congrArg Value.bool (congrArg not hk67))) HS ?_
        refine t_take 20 rfl (by kernel_rfl) (by kernel_rfl) (by kernel_rfl) (fun _ _ _ h => h) (fun w HS => r_mv) HS ?_
        refine t_takeg 21 rfl (by kernel_rfl) (by kernel_rfl) (by kernel_rfl) (fun _ _ _ h => h) (yielded_mk _ _ _ rfl _ rfl (by exact congrArg Value.bool (congrArg not hk67))) (fun w HS => r_mv) HS ?_
        refine t_takeg 22 rfl (by kernel_rfl) (by kernel_rfl) (by kernel_rfl) (fun _ _ _ h => h) (yielded_mk _ _ _ rfl _ rfl (by exact congrArg Value.bool (congrArg not hk67))) (fun w HS => r_mv) HS ?_
        refine t_takeg 23 rfl (by kernel_rfl) (by kernel_rfl) (by kernel_rfl) (fun _ _ _ h => h) (yielded_mk _ _ _ rfl _ rfl (by exact congrArg Value.bool (congrArg not hk67))) (fun w HS => r_bin (a := (((effF (t.rights) (t.until_) t.cs.l).1).toNat : Int)) (b := (((effF (t.rights) (t.until_) t.cs.l).1).toNat : Int)) rfl rfl (fun _ => b_neqB false (decide_eq_false (fun h => h rfl)))) HS ?_
        refine t_take 24 rfl (by kernel_rfl) (by kernel_rfl) (by kernel_rfl) (fun _ _ _ h => h) (fun w HS => r_pick (b := false) (congrArg Value.bool (congrArg not hk67))) HS ?_
        refine t_take 25 rfl (by kernel_rfl) (by kernel_rfl) (by kernel_rfl) (fun _ _ _ h => h) (fun w HS => r_mv) HS ?_
        refine t_takeg 26 rfl (by kernel_rfl) (by kernel_rfl) (by kernel_rfl) (fun _ _ _ h => h) (yielded_mk _ _ _ rfl _ rfl rfl) (fun w HS => r_mv) HS ?_
        refine t_takeg 27 rfl (by kernel_rfl) (by kernel_rfl) (by kernel_rfl) (fun _ _ _ h => h) (yielded_mk _ _ _ rfl _ rfl rfl) (fun w HS => r_mv) HS ?_
        refine t_takeg 28 rfl (by kernel_rfl) (by kernel_rfl) (by kernel_rfl) (fun _ _ _ h => h) (yielded_mk _ _ _ rfl _ rfl rfl) (fun w HS => r_bin (a := (effF (t.rights) (t.until_) t.cs.l).2) (b := (effF (t.rights) (t.until_) t.cs.l).2) rfl rfl (fun _ => b_neqB false (decide_eq_false (fun h => h rfl)))) HS ?_
        refine t_take 29 rfl (by kernel_rfl) (by kernel_rfl) (by kernel_rfl) (fun _ _ _ h => h) (fun w HS => r_pick rfl) HS ?_
        refine t_take 30 rfl (by kernel_rfl) (by kernel_rfl) (by kernel_rfl) (fun _ _ _ h => h) (fun w HS => r_mv) HS ?_
        refine t_takeg 31 rfl (by kernel_rfl) (by kernel_rfl) (by kernel_rfl) (fun _ _ _ h => h) (yielded_mk _ _ _ rfl _ rfl rfl) (fun w HS => r_ldA (C := [V64 t.serial, .string ⟨(t.tenant).toArray⟩, V8 t.rights, VI t.from_, VI t.until_, (⟨some ⟨b5, 0, none⟩, t.cs.len, t.cs.len + 2, t.cs.l⟩ : Gl Cav).v] ++ (t.tag).map V8) HS (i := 4) rfl rfl rt76 (by rw [List.length_append, List.length_map, (show (t.tag).length = 32 from htag)]; rfl)) HS ?_
        refine t_takeg 33 rfl (by kernel_rfl) (by kernel_rfl) (by kernel_rfl) (fun _ _ _ h => h) (yielded_mk _ _ _ rfl _ rfl rfl) (fun w HS => r_ldA (C := [V64 t.serial, .string ⟨(t.tenant).toArray⟩, V8 t.rights, VI t.from_, VI t.until_, t.cs.v] ++ (t.tag).map V8) HS (i := 1) rfl rfl rt76 (by rw [List.length_append, List.length_map, (show (t.tag).length = 32 from htag)]; rfl)) HS ?_
        refine t_stepg 32 rfl (by kernel_rfl) (yielded_mk _ _ _ rfl _ rfl rfl) (o_callR Try.func75 rfl rfl rfl (may_ret _ (⟨t.serial, t.tenant, t.rights, t.from_, t.until_, (⟨some ⟨b5, 0, none⟩, t.cs.len, t.cs.len + 2, t.cs.l⟩ : Gl Cav), t.tag⟩ : Tok) (show Gl.ok cavE 2 (⟨some ⟨b5, 0, none⟩, t.cs.len, t.cs.len + 2, t.cs.l⟩ : Gl Cav) _ from glBlk ([((0 : UInt8), (0 : Int)), ((0 : UInt8), (0 : Int))]) (H.has (.blk b5 (((t.cs.l ++ [((0 : UInt8), (0 : Int))]) ++ [((0 : UInt8), (0 : Int))]).flatMap cavE) 78) (by simp)) (by simp) (fun _ _ => rfl) hcl (by omega) (by omega)) (show (t.tag).length = 32 from htag) (by first | omega | (dsimp only; omega) | simp)) ?_)
        rintro _ w ⟨rfl, Hc⟩
        replace H : Hp _ w _ ([_, _, _, _, _, _, _, _, _]) := H.call Hc
        clear Hc
        refine ⟨H, ?_⟩
        replace HS := H
        refine t_stepg 34 rfl (by kernel_rfl) (yielded_mk _ _ _ rfl _ rfl rfl) (o_callR Try.func76 rfl rfl rfl (may14_ret _ t (hc.up H) (show (t.tag).length = 32 from htag) (by first | omega | (dsimp only; omega) | simp)) ?_)
        rintro _ w ⟨rfl, Hc⟩
        replace H : Hp _ w _ ([_, _, _, _, _, _, _, _, _]) := H.call Hc
        clear Hc
        refine ⟨H, ?_⟩
        replace HS := H
        refine t_takeg 35 rfl (by kernel_rfl) (by kernel_rfl) (by kernel_rfl) (fun _ _ _ h => h) (yielded_mk _ _ _ rfl _ rfl rfl) (fun w HS => r_bne Try.underlying4 rfl rfl) HS ?_
        have hk68 : (!((mayT (⟨t.serial, t.tenant, t.rights, t.from_, t.until_, (⟨some ⟨b5, 0, none⟩, t.cs.len, t.cs.len + 2, t.cs.l⟩ : Gl Cav), t.tag⟩ : Tok)) == (mayT t))) = false := (by show (!(mayT t == mayT t)) = false; simp)
        refine t_take 36 rfl (by kernel_rfl) (by kernel_rfl) (by kernel_rfl) (fun _ _ _ h => h) (fun w HS => r_pick rfl) HS ?_
        refine t_take 37 rfl (by kernel_rfl) (by kernel_rfl) (by kernel_rfl) (fun _ _ _ h => h) (fun w HS => r_mv) HS ?_
        refine t_takeg 38 rfl (by kernel_rfl) (by kernel_rfl) (by kernel_rfl) (fun _ _ _ h => h) (yielded_mk _ _ _ rfl _ rfl (by exact congrArg Value.bool hk68)) (fun w HS => r_ldAA (l := key) HS (i := 0) rfl rfl rt31 (show (key).length = 32 from hk)) HS ?_
        refine t_takeg 39 rfl (by kernel_rfl) (by kernel_rfl) (by kernel_rfl) (fun _ _ _ h => h) (yielded_mk _ _ _ rfl _ rfl (by exact congrArg Value.bool hk68)) (fun w HS => r_ldA (C := [V64 t.serial, .string ⟨(t.tenant).toArray⟩, V8 t.rights, VI t.from_, VI t.until_, (⟨some ⟨b5, 0, none⟩, t.cs.len, t.cs.len + 2, t.cs.l⟩ : Gl Cav).v] ++ (t.tag).map V8) HS (i := 4) rfl rfl rt76 (by rw [List.length_append, List.length_map, (show (t.tag).length = 32 from htag)]; rfl)) HS ?_
        refine t_takeg 40 rfl (by kernel_rfl) (by kernel_rfl) (by kernel_rfl) (fun _ _ _ h => h) (yielded_mk _ _ _ rfl _ rfl (by exact congrArg Value.bool hk68)) (fun w HS => r_mv) HS ?_
        refine t_takeg 42 rfl (by kernel_rfl) (by kernel_rfl) (by kernel_rfl) (fun _ _ _ h => h) (yielded_mk _ _ _ rfl _ rfl (by exact congrArg Value.bool hk68)) (fun w HS => r_ldAA (l := key) HS (i := 0) rfl rfl rt31 (show (key).length = 32 from hk)) HS ?_
        refine t_takeg 43 rfl (by kernel_rfl) (by kernel_rfl) (by kernel_rfl) (fun _ _ _ h => h) (yielded_mk _ _ _ rfl _ rfl (by exact congrArg Value.bool hk68)) (fun w HS => r_ldA (C := [V64 t.serial, .string ⟨(t.tenant).toArray⟩, V8 t.rights, VI t.from_, VI t.until_, t.cs.v] ++ (t.tag).map V8) HS (i := 1) rfl rfl rt76 (by rw [List.length_append, List.length_map, (show (t.tag).length = 32 from htag)]; rfl)) HS ?_
        refine t_takeg 44 rfl (by kernel_rfl) (by kernel_rfl) (by kernel_rfl) (fun _ _ _ h => h) (yielded_mk _ _ _ rfl _ rfl (by exact congrArg Value.bool hk68)) (fun w HS => r_mv) HS ?_
        refine t_stepg 41 rfl (by kernel_rfl) (yielded_mk _ _ _ rfl _ rfl (by exact congrArg Value.bool hk68)) (o_callR Try.func77 rfl rfl rfl (check14_ret _ (key) (show (key).length = 32 from hk) (⟨t.serial, t.tenant, t.rights, t.from_, t.until_, (⟨some ⟨b5, 0, none⟩, t.cs.len, t.cs.len + 2, t.cs.l⟩ : Gl Cav), t.tag⟩ : Tok) (show Gl.ok cavE 2 (⟨some ⟨b5, 0, none⟩, t.cs.len, t.cs.len + 2, t.cs.l⟩ : Gl Cav) _ from glBlk ([((0 : UInt8), (0 : Int)), ((0 : UInt8), (0 : Int))]) (H.has (.blk b5 (((t.cs.l ++ [((0 : UInt8), (0 : Int))]) ++ [((0 : UInt8), (0 : Int))]).flatMap cavE) 78) (by simp)) (by simp) (fun _ _ => rfl) hcl (by omega) (by omega)) (show (t.tag).length = 32 from htag) (by first | omega | (dsimp only; omega) | simp) (now)) ?_)
        rintro _ w ⟨rfl, Hc⟩
        replace H : Hp _ w _ ([_, _, _, _, _, _, _, _, _]) := H.call Hc
        clear Hc
        refine ⟨H, ?_⟩
        replace HS := H
        refine t_stepg 45 rfl (by kernel_rfl) (yielded_mk _ _ _ rfl _ rfl (by exact congrArg Value.bool hk68)) (o_callR Try.func78 rfl rfl rfl (check14r_ret _ (key) (show (key).length = 32 from hk) t (hc.up H) (show (t.tag).length = 32 from htag) (by first | omega | (dsimp only; omega) | simp) hb (now)) ?_)
        rintro _ w ⟨rfl, Hc⟩
        replace H : Hp _ w _ ([_, _, _, _, _, _, _, _, _]) := H.call Hc
        clear Hc
        refine ⟨H, ?_⟩
        replace HS := H
        refine t_takeg 46 rfl (by kernel_rfl) (by kernel_rfl) (by kernel_rfl) (fun _ _ _ h => h) (yielded_mk _ _ _ rfl _ rfl (by exact congrArg Value.bool hk68)) (fun w HS => r_bin (a := checkT (key) (⟨t.serial, t.tenant, t.rights, t.from_, t.until_, (⟨some ⟨b5, 0, none⟩, t.cs.len, t.cs.len + 2, t.cs.l⟩ : Gl Cav), t.tag⟩ : Tok) (now)) (b := checkT (key) t (now)) rfl rfl (fun _ => b_neqB false (decide_eq_false (fun h => h rfl)))) HS ?_
        refine t_take 47 rfl (by kernel_rfl) (by kernel_rfl) (by kernel_rfl) (fun _ _ _ h => h) (fun w HS => r_pick (b := false) (congrArg Value.bool hk68)) HS ?_
        refine t_take 48 rfl (by kernel_rfl) (by kernel_rfl) (by kernel_rfl) (fun _ _ _ h => h) (fun w HS => r_mv) HS ?_
        refine t_takeg 49 rfl (by kernel_rfl) (by kernel_rfl) (by kernel_rfl) (fun _ _ _ h => h) (yielded_mk _ _ _ rfl _ rfl rfl) (fun w HS => r_ldA (C := [V64 t.serial, .string ⟨(t.tenant).toArray⟩, V8 t.rights, VI t.from_, VI t.until_, (⟨some ⟨b5, 0, none⟩, t.cs.len, t.cs.len + 2, t.cs.l⟩ : Gl Cav).v] ++ (t.tag).map V8) HS (i := 4) rfl rfl rt76 (by rw [List.length_append, List.length_map, (show (t.tag).length = 32 from htag)]; rfl)) HS ?_
        refine t_takeg 50 rfl (by kernel_rfl) (by kernel_rfl) (by kernel_rfl) (fun _ _ _ h => h) (yielded_mk _ _ _ rfl _ rfl rfl) (fun w HS => r_ldA (C := [V64 t.serial, .string ⟨(t.tenant).toArray⟩, V8 t.rights, VI t.from_, VI t.until_, t.cs.v] ++ (t.tag).map V8) HS (i := 1) rfl rfl rt76 (by rw [List.length_append, List.length_map, (show (t.tag).length = 32 from htag)]; rfl)) HS ?_
        refine t_stepg 51 rfl (by kernel_rfl) (yielded_mk _ _ _ rfl _ rfl rfl) (o_callR Try.func74 rfl rfl rfl (same14_ret _ (⟨t.serial, t.tenant, t.rights, t.from_, t.until_, (⟨some ⟨b5, 0, none⟩, t.cs.len, t.cs.len + 2, t.cs.l⟩ : Gl Cav), t.tag⟩ : Tok) t (show Gl.ok cavE 2 (⟨some ⟨b5, 0, none⟩, t.cs.len, t.cs.len + 2, t.cs.l⟩ : Gl Cav) _ from glBlk ([((0 : UInt8), (0 : Int)), ((0 : UInt8), (0 : Int))]) (H.has (.blk b5 (((t.cs.l ++ [((0 : UInt8), (0 : Int))]) ++ [((0 : UInt8), (0 : Int))]).flatMap cavE) 78) (by simp)) (by simp) (fun _ _ => rfl) hcl (by omega) (by omega)) (show (t.tag).length = 32 from htag) (hc.up H) (show (t.tag).length = 32 from htag)) ?_)
        rintro _ w ⟨rfl, Hc⟩
        replace H : Hp _ w _ ([_, _, _, _, _, _, _, _, _]) := H.call Hc
        clear Hc
        have hk69 : (sameT (⟨t.serial, t.tenant, t.rights, t.from_, t.until_, (⟨some ⟨b5, 0, none⟩, t.cs.len, t.cs.len + 2, t.cs.l⟩ : Gl Cav), t.tag⟩ : Tok) t) = true := (decide_eq_true rfl)
        refine ⟨H, ?_⟩
        replace HS := H
        refine t_takeg 52 rfl (by kernel_rfl) (by kernel_rfl) (by kernel_rfl) (fun _ _ _ h => h) (yielded_mk _ _ _ rfl _ rfl rfl) (fun w HS => r_not rfl) HS ?_
        refine t_take 53 rfl (by kernel_rfl) (by kernel_rfl) (by kernel_rfl) (fun _ _ _ h => h) (fun w HS => r_pick rfl) HS ?_
        refine t_done (by kernel_rfl) ?_
        clear HS
        repeat refine c_seq ?_
        refine c_no (by exact congrArg Value.bool (congrArg not hk69)) ?_
        refine c_skip ?_
        repeat refine c_seq ?_
        refine c_region ?_
        refine l_op (o_val (r_as) ?_)
        first | refine l_end ?_ | refine l_nil ?_
        repeat refine c_seq ?_
        refine c_block ?_
        repeat refine c_seq ?_
        refine c_loop (fun (j : Nat) => [(3, VI now), (4, .pointer (some ⟨b1, 0, none⟩)), (5, .pointer (some ⟨b2, 0, none⟩)), (6, .pointer (some ⟨b3, 0, none⟩)), (9, .pointer (some ⟨b6, 0, none⟩)), (10, VI (i : Int)), (15, .pointer (some ⟨b65, 0, none⟩)), (23, VI (j : Int))])
          (fun (j : Nat) w => (j = 0) ∧ Hp w0 w [] ([.blk b1 ((key).map V8) 31, .blk b2 ([V64 t.serial, .string ⟨(t.tenant).toArray⟩, V8 t.rights, VI t.from_, VI t.until_, t.cs.v] ++ (t.tag).map V8) 76, .blk b3 ([V8 c.1, VI c.2]) 78, .blk b5 (((t.cs.l ++ [((0 : UInt8), (0 : Int))]) ++ [((0 : UInt8), (0 : Int))]).flatMap cavE) 78, .blk b6 ([V64 t.serial, .string ⟨(t.tenant).toArray⟩, V8 t.rights, VI t.from_, VI t.until_, (⟨some ⟨b5, 0, none⟩, t.cs.len, t.cs.len + 2, t.cs.l⟩ : Gl Cav).v] ++ (t.tag).map V8) 76, .blk b40 ([V64 (0 : UInt64), .string ⟨(([] : List UInt8)).toArray⟩, V8 (0 : UInt8), VI 0, VI 0, .slice none 0 0] ++ (List.replicate 32 (0 : UInt8)).map V8) 76, .blk b41 ([V64 (0 : UInt64), .string ⟨(([] : List UInt8)).toArray⟩, V8 (0 : UInt8), VI 0, VI 0, .slice none 0 0] ++ (List.replicate 32 (0 : UInt8)).map V8) 76, .blk b65 ([V64 (0 : UInt64), .string ⟨(([] : List UInt8)).toArray⟩, V8 (0 : UInt8), VI 0, VI 0, .slice none 0 0] ++ (List.replicate 32 (0 : UInt8)).map V8) 76, .blk b66 ([V64 (0 : UInt64), .string ⟨(([] : List UInt8)).toArray⟩, V8 (0 : UInt8), VI 0, VI 0, .slice none 0 0] ++ (List.replicate 32 (0 : UInt8)).map V8) 76]))
          (fun (j : Nat) => 0) 0 ⟨rfl, rfl, rfl, rfl, rfl, rfl, rfl, rfl, trivial⟩ ⟨rfl, H⟩ ?_
        clear H
        rintro j τ w ⟨hj, H⟩
        repeat refine c_seq ?_
        refine c_region ?_
        refine l_op (o_val (r_mv) ?_)
        refine l_op (o_val (r_fa rfl fo76_5) ?_)
        refine l_op (o_val (r_ld (v := .slice none 0 0) H (i := 7) rfl rfl ct74 rfl) ?_)
        refine l_op (o_val (r_lens el74 rfl) ?_)
        refine l_op (o_val (r_bin (a := (j : Int)) (b := 0) rfl rfl (fun _ => b_lssB false (decide_eq_false (by omega)))) ?_)
        first | refine l_end ?_ | refine l_nil ?_
        repeat refine c_seq ?_
        refine c_no rfl ?_
        refine c_exit ?_
        repeat refine c_seq ?_
        refine wp_held (fun w => Hp w0 w [] [.blk b1 ((key).map V8) 31, .blk b2 ([V64 t.serial, .string ⟨(t.tenant).toArray⟩, V8 t.rights, VI t.from_, VI t.until_, t.cs.v] ++ (t.tag).map V8) 76, .blk b3 ([V8 c.1, VI c.2]) 78, .blk b5 (((t.cs.l ++ [((0 : UInt8), (0 : Int))]) ++ [((0 : UInt8), (0 : Int))]).flatMap cavE) 78, .blk b6 ([V64 t.serial, .string ⟨(t.tenant).toArray⟩, V8 t.rights, VI t.from_, VI t.until_, (⟨some ⟨b5, 0, none⟩, t.cs.len, t.cs.len + 2, t.cs.l⟩ : Gl Cav).v] ++ (t.tag).map V8) 76, .blk b40 ([V64 (0 : UInt64), .string ⟨(([] : List UInt8)).toArray⟩, V8 (0 : UInt8), VI 0, VI 0, .slice none 0 0] ++ (List.replicate 32 (0 : UInt8)).map V8) 76, .blk b41 ([V64 (0 : UInt64), .string ⟨(([] : List UInt8)).toArray⟩, V8 (0 : UInt8), VI 0, VI 0, .slice none 0 0] ++ (List.replicate 32 (0 : UInt8)).map V8) 76, .blk b65 ([V64 (0 : UInt64), .string ⟨(([] : List UInt8)).toArray⟩, V8 (0 : UInt8), VI 0, VI 0, .slice none 0 0] ++ (List.replicate 32 (0 : UInt8)).map V8) 76, .blk b66 ([V64 (0 : UInt64), .string ⟨(([] : List UInt8)).toArray⟩, V8 (0 : UInt8), VI 0, VI 0, .slice none 0 0] ++ (List.replicate 32 (0 : UInt8)).map V8) 76]) mixed ?_
        replace H := H.drew
        have HS := H
        refine t_take 0 rfl (by kernel_rfl) (by kernel_rfl) (by kernel_rfl) (fun _ _ _ h => h) (fun w HS => r_fa rfl fo76_5) HS ?_
        refine t_take 1 rfl (by kernel_rfl) (by kernel_rfl) (by kernel_rfl) (fun _ _ _ h => h) (fun w HS => r_ld (v := (⟨some ⟨b5, 0, none⟩, t.cs.len, t.cs.len + 2, t.cs.l⟩ : Gl Cav).v) HS (i := 4) rfl rfl ct74 rfl) HS ?_
        refine t_take 2 rfl (by kernel_rfl) (by kernel_rfl) (by kernel_rfl) (fun _ _ _ h => h) (fun w HS => r_ldA (C := [V64 t.serial, .string ⟨(t.tenant).toArray⟩, V8 t.rights, VI t.from_, VI t.until_, (⟨some ⟨b5, 0, none⟩, t.cs.len, t.cs.len + 2, t.cs.l⟩ : Gl Cav).v] ++ (t.tag).map V8) HS (i := 4) rfl rfl rt76 (by rw [List.length_append, List.length_map, (show (t.tag).length = 32 from htag)]; rfl)) HS ?_
        refine t_step 3 rfl (by kernel_rfl) (o_callR Try.func79 rfl rfl rfl (cap2_s _ (⟨t.serial, t.tenant, t.rights, t.from_, t.until_, (⟨some ⟨b5, 0, none⟩, t.cs.len, t.cs.len + 2, t.cs.l⟩ : Gl Cav), t.tag⟩ : Tok) (show Gl.ok cavE 2 (⟨some ⟨b5, 0, none⟩, t.cs.len, t.cs.len + 2, t.cs.l⟩ : Gl Cav) _ from glBlk ([((0 : UInt8), (0 : Int)), ((0 : UInt8), (0 : Int))]) (H.has (.blk b5 (((t.cs.l ++ [((0 : UInt8), (0 : Int))]) ++ [((0 : UInt8), (0 : Int))]).flatMap cavE) 78) (by simp)) (by simp) (fun _ _ => rfl) hcl (by omega) (by omega)) (show (t.tag).length = 32 from htag) (by (try dsimp only); omega) (by (try dsimp only); omega)) ?_)
        rintro _ w ⟨rfl, Hc⟩
        replace H : Hp _ w _ ([_, _, _, _, _, _, _, _, _]) := H.call Hc
        clear Hc
        refine ⟨H, ?_⟩
        replace HS := H
        refine t_take 4 rfl (by kernel_rfl) (by kernel_rfl) (by kernel_rfl) (fun _ _ _ h => h) (fun w HS => r_slH (len := t.cs.len) (cap := t.cs.len + 2) (h := t.cs.len + 1) (m := t.cs.len + 2) (hv := some (VI ((t.cs.len : Int) + 1))) rfl el74 rfl rfl rfl (fun w => by exact sbh (t.cs.len + 1) (by omega) (by omega) w)) HS ?_
        refine t_take 5 rfl (by kernel_rfl) (by kernel_rfl) (by kernel_rfl) (fun _ _ _ h => h) (fun w HS => r_as) HS ?_
        refine t_done (by kernel_rfl) ?_
        clear HS
        repeat refine c_seq ?_
        refine c_region ?_
        refine l_op (o_val (r_fa rfl fo76_5) ?_)
        refine l_op (o_val (r_ld (v := t.cs.v) H (i := 1) rfl rfl ct74 rfl) ?_)
        refine l_op (o_val (r_lens el74 rfl) ?_)
        refine l_op (o_val (r_bin (a := (t.cs.len : Int)) (b := 0) rfl rfl (fun _ => b_gtrB true (decide_eq_true (by omega)))) ?_)
        refine l_op (o_val (r_mv) ?_)
        refine l_yes rfl rfl rfl (o_val (r_mv) ?_)
        refine l_yes rfl rfl rfl (o_val (r_fa rfl fo76_5) ?_)
        refine l_yes rfl rfl rfl (o_val (r_ld (v := t.cs.v) H (i := 1) rfl rfl ct74 rfl) ?_)
        refine l_yes rfl rfl rfl (o_val (r_lens el74 rfl) ?_)
        have ah72 := ((show Gl.ok cavE 2 (⟨some ⟨b5, 0, none⟩, t.cs.len + 1, t.cs.len + 2, t.cs.l ++ [((0 : UInt8), (0 : Int))]⟩ : Gl Cav) _ from glBlk ([((0 : UInt8), (0 : Int))]) (H.has (.blk b5 (((t.cs.l ++ [((0 : UInt8), (0 : Int))]) ++ [((0 : UInt8), (0 : Int))]).flatMap cavE) 78) (by simp)) rfl (fun _ _ => rfl) (by rw [List.length_append, hcl]; rfl) (by omega) (by omega))).addr (by decide) (by first | omega | (dsimp only; omega))
        obtain ⟨ab70, ao71, ah72⟩ := ah72
        refine l_yes rfl rfl rfl (o_val (r_isN t.cs.len rfl rfl el74 ah72 (by omega) (by (try simp only [Sl.cut]); omega)) ?_)
        have he74 : ∃ c, (⟨some ⟨b5, 0, none⟩, t.cs.len + 1, t.cs.len + 2, t.cs.l ++ [((0 : UInt8), (0 : Int))]⟩ : Gl Cav).l[t.cs.len]? = some c := ⟨_, List.getElem?_eq_getElem (by have := ((show Gl.ok cavE 2 (⟨some ⟨b5, 0, none⟩, t.cs.len + 1, t.cs.len + 2, t.cs.l ++ [((0 : UInt8), (0 : Int))]⟩ : Gl Cav) _ from glBlk ([((0 : UInt8), (0 : Int))]) (H.has (.blk b5 (((t.cs.l ++ [((0 : UInt8), (0 : Int))]) ++ [((0 : UInt8), (0 : Int))]).flatMap cavE) 78) (by simp)) rfl (fun _ _ => rfl) (by rw [List.length_append, hcl]; rfl) (by omega) (by omega))).ln; (try dsimp only at this ⊢); omega)⟩
        obtain ⟨e73, he74⟩ := he74
        have hez75 := ((show Gl.ok cavE 2 (⟨some ⟨b5, 0, none⟩, t.cs.len + 1, t.cs.len + 2, t.cs.l ++ [((0 : UInt8), (0 : Int))]⟩ : Gl Cav) _ from glBlk ([((0 : UInt8), (0 : Int))]) (H.has (.blk b5 (((t.cs.l ++ [((0 : UInt8), (0 : Int))]) ++ [((0 : UInt8), (0 : Int))]).flatMap cavE) 78) (by simp)) rfl (fun _ _ => rfl) (by rw [List.length_append, hcl]; rfl) (by omega) (by omega))).sz e73 (List.mem_of_getElem? he74)
        refine l_yes rfl rfl rfl (o_val (r_ldRow (s := (⟨some ⟨b5, 0, none⟩, t.cs.len + 1, t.cs.len + 2, t.cs.l ++ [((0 : UInt8), (0 : Int))]⟩ : Gl Cav)) (k := t.cs.len) (show Gl.ok cavE 2 (⟨some ⟨b5, 0, none⟩, t.cs.len + 1, t.cs.len + 2, t.cs.l ++ [((0 : UInt8), (0 : Int))]⟩ : Gl Cav) _ from glBlk ([((0 : UInt8), (0 : Int))]) (H.has (.blk b5 (((t.cs.l ++ [((0 : UInt8), (0 : Int))]) ++ [((0 : UInt8), (0 : Int))]).flatMap cavE) 78) (by simp)) rfl (fun _ _ => rfl) (by rw [List.length_append, hcl]; rfl) (by omega) (by omega)) ah72 rfl rt78 (by decide) he74) ?_)
        refine l_yes rfl rfl rfl (o_val (r_bld' (cells := ([V8 (0 : UInt8), VI 0]).toArray) (pv := []) bd78 rfl rfl) ?_)
        refine l_yes rfl rfl rfl (o_val (r_neS egCav rfl rfl (eqCav e73 ((0 : UInt8), 0))) ?_)
        have hk76 : (!(decide (e73 = ((0 : UInt8), 0)))) = false := (by rw [decide_eq_true (snoc_get (l := t.cs.l) hcl he74 : e73 = ((0 : UInt8), (0 : Int)))]; rfl)
        refine l_op (o_val (r_pick rfl) ?_)
        first | refine l_end ?_ | refine l_nil ?_
        repeat refine c_seq ?_
        refine c_no (by exact congrArg Value.bool hk76) ?_
        refine c_skip ?_
        repeat refine c_seq ?_
        refine c_region ?_
        refine l_op (o_val (r_mv) ?_)
        refine l_op (o_val (r_bin (a := (i : Int)) (b := 1) rfl rfl (fun _ => b_add (by omega) (by omega))) ?_)
        refine l_op (o_val (r_as) ?_)
        first | refine l_end ?_ | refine l_nil ?_
        refine round_end (i + 1) ?_ ?_ ?_
        · exact ⟨rfl, rfl, rfl, rfl, rfl, show VI ((i : Int) + 1) = VI ((i + 1 : Nat) : Int) from congrArg VI (by omega), trivial⟩
        · refine ⟨?_, ?_⟩
          · try dsimp only
            exact by omega
          · exact H.sub (.cons_cons _ (.cons_cons _ (.cons_cons _ (.cons_cons _ (.cons_cons _ (List.nil_sublist _))))))
        · show 2 - (i + 1 : Nat) < 2 - i; omega
      ·
       refine l_op (o_callR Try.func70 rfl rfl rfl (less_n2 _ (⟨t.serial, t.tenant, t.rights, t.from_, t.until_, (⟨some ⟨b5, 0, none⟩, t.cs.len, t.cs.len + 2, t.cs.l⟩ : Gl Cav), t.tag⟩ : Tok) c (show Gl.ok cavE 2 (⟨some ⟨b5, 0, none⟩, t.cs.len, t.cs.len + 2, t.cs.l⟩ : Gl Cav) _ from glBlk ([((0 : UInt8), (0 : Int)), ((0 : UInt8), (0 : Int))]) (H.has (.blk b5 (((t.cs.l ++ [((0 : UInt8), (0 : Int))]) ++ [((0 : UInt8), (0 : Int))]).flatMap cavE) 78) (by simp)) (by simp) (fun _ _ => rfl) hcl (by omega) (by omega)) (show (t.tag).length = 32 from htag) (by first | omega | (dsimp only; omega) | simp) hc8 hc42) ?_)
       rintro _ w ⟨rfl, Hc⟩
       replace H : Hp _ w _ ([_, _, _, _, _, _, _]) := H.call Hc
       clear Hc
       refine l_op (o_val (r_mv) ?_)
       refine l_op (o_val (r_ext rfl rfl) ?_)
       refine l_op (o_val (r_ext rfl rfl) ?_)
       refine l_op (o_alloc H zc76 (fun b77 w H hb77 => ?_))
       replace H : Hp _ w _ ([_, _, _, _, _, _, _, .blk b77 ([V64 (0 : UInt64), .string ⟨(([] : List UInt8)).toArray⟩, V8 (0 : UInt8), VI 0, VI 0, .slice none 0 0] ++ (List.replicate 32 (0 : UInt8)).map V8) 76]) := H
       refine l_op (o_stW (C' := [V64 (0 : UInt64), .string ⟨(([] : List UInt8)).toArray⟩, V8 (0 : UInt8), VI 0, VI 0, .slice none 0 0] ++ (List.replicate 32 (0 : UInt8)).map V8) H (i := 7) rfl rfl rfl cs76 (by simp [Value.oneCell']) (by rw [List.length_append, List.length_map, (show (List.replicate 32 (0 : UInt8)).length = 32 from (List.length_replicate ..))]; rfl) (by rw [List.length_append, List.length_map, (show (List.replicate 32 (0 : UInt8)).length = 32 from (List.length_replicate ..))]; rfl) (fun w H => ?_))
       replace H : Hp _ w _ [_, _, _, _, _, _, _, _] := H
       refine l_op (o_val (r_as) ?_)
       first | refine l_end ?_ | refine l_nil ?_
       repeat refine c_seq ?_
       refine c_region ?_
       refine l_op (o_val (r_ldA (C := [V64 t.serial, .string ⟨(t.tenant).toArray⟩, V8 t.rights, VI t.from_, VI t.until_, t.cs.v] ++ (t.tag).map V8) H (i := 1) rfl rfl rt76 (by rw [List.length_append, List.length_map, (show (t.tag).length = 32 from htag)]; rfl)) ?_)
       refine l_op (o_val (r_ldA (C := [V8 c.1, VI c.2]) H (i := 2) rfl rfl rt78 (by rfl)) ?_)
       refine l_op (o_callR Try.func71 rfl rfl rfl (lessr_n2 _ t c (hc.up H) (show (t.tag).length = 32 from htag) (by first | omega | (dsimp only; omega) | simp) hc8 hc42) ?_)
       rintro _ w ⟨rfl, Hc⟩
       replace H : Hp _ w _ ([_, _, _, _, _, _, _, _]) := H.call Hc
       clear Hc
       refine l_op (o_val (r_mv) ?_)
       refine l_op (o_val (r_ext rfl rfl) ?_)
       refine l_op (o_val (r_ext rfl rfl) ?_)
       refine l_op (o_alloc H zc76 (fun b78 w H hb78 => ?_))
       replace H : Hp _ w _ ([_, _, _, _, _, _, _, _, .blk b78 ([V64 (0 : UInt64), .string ⟨(([] : List UInt8)).toArray⟩, V8 (0 : UInt8), VI 0, VI 0, .slice none 0 0] ++ (List.replicate 32 (0 : UInt8)).map V8) 76]) := H
       refine l_op (o_stW (C' := [V64 (0 : UInt64), .string ⟨(([] : List UInt8)).toArray⟩, V8 (0 : UInt8), VI 0, VI 0, .slice none 0 0] ++ (List.replicate 32 (0 : UInt8)).map V8) H (i := 8) rfl rfl rfl cs76 (by simp [Value.oneCell']) (by rw [List.length_append, List.length_map, (show (List.replicate 32 (0 : UInt8)).length = 32 from (List.length_replicate ..))]; rfl) (by rw [List.length_append, List.length_map, (show (List.replicate 32 (0 : UInt8)).length = 32 from (List.length_replicate ..))]; rfl) (fun w H => ?_))
       replace H : Hp _ w _ [_, _, _, _, _, _, _, _, _] := H
       refine l_op (o_val (r_as) ?_)
       first | refine l_end ?_ | refine l_nil ?_
       repeat refine c_seq ?_
       refine c_region ?_
       refine l_op (o_val (r_ldA (C := [V64 t.serial, .string ⟨(t.tenant).toArray⟩, V8 t.rights, VI t.from_, VI t.until_, (⟨some ⟨b5, 0, none⟩, t.cs.len, t.cs.len + 2, t.cs.l⟩ : Gl Cav).v] ++ (t.tag).map V8) H (i := 4) rfl rfl rt76 (by rw [List.length_append, List.length_map, (show (t.tag).length = 32 from htag)]; rfl)) ?_)
       refine l_op (o_callR Try.func72 rfl rfl rfl (effect_ret _ (⟨t.serial, t.tenant, t.rights, t.from_, t.until_, (⟨some ⟨b5, 0, none⟩, t.cs.len, t.cs.len + 2, t.cs.l⟩ : Gl Cav), t.tag⟩ : Tok) (show Gl.ok cavE 2 (⟨some ⟨b5, 0, none⟩, t.cs.len, t.cs.len + 2, t.cs.l⟩ : Gl Cav) _ from glBlk ([((0 : UInt8), (0 : Int)), ((0 : UInt8), (0 : Int))]) (H.has (.blk b5 (((t.cs.l ++ [((0 : UInt8), (0 : Int))]) ++ [((0 : UInt8), (0 : Int))]).flatMap cavE) 78) (by simp)) (by simp) (fun _ _ => rfl) hcl (by omega) (by omega)) (show (t.tag).length = 32 from htag)) ?_)
       rintro _ w ⟨rfl, Hc⟩
       replace H : Hp _ w _ ([_, _, _, _, _, _, _, _, _]) := H.call Hc
       clear Hc
       refine l_op (o_val (r_mv) ?_)
       refine l_op (o_val (r_ext rfl rfl) ?_)
       refine l_op (o_val (r_ext rfl rfl) ?_)
       refine l_op (o_val (r_as) ?_)
       refine l_op (o_val (r_as) ?_)
       first | refine l_end ?_ | refine l_nil ?_
       repeat refine c_seq ?_
       refine c_region ?_
       refine l_op (o_val (r_ldA (C := [V64 t.serial, .string ⟨(t.tenant).toArray⟩, V8 t.rights, VI t.from_, VI t.until_, t.cs.v] ++ (t.tag).map V8) H (i := 1) rfl rfl rt76 (by rw [List.length_append, List.length_map, (show (t.tag).length = 32 from htag)]; rfl)) ?_)
       refine l_op (o_callR Try.func73 rfl rfl rfl (effect14_ret _ t (hc.up H) (show (t.tag).length = 32 from htag)) ?_)
       rintro _ w ⟨rfl, Hc⟩
       replace H : Hp _ w _ ([_, _, _, _, _, _, _, _, _]) := H.call Hc
       clear Hc
       refine l_op (o_val (r_mv) ?_)
       refine l_op (o_val (r_ext rfl rfl) ?_)
       refine l_op (o_val (r_ext rfl rfl) ?_)
       refine l_op (o_val (r_as) ?_)
       refine l_op (o_val (r_as) ?_)
       first | refine l_end ?_ | refine l_nil ?_
       repeat refine c_seq ?_
       refine wp_held (fun w => Hp w0 w [] [.blk b1 ((key).map V8) 31, .blk b2 ([V64 t.serial, .string ⟨(t.tenant).toArray⟩, V8 t.rights, VI t.from_, VI t.until_, t.cs.v] ++ (t.tag).map V8) 76, .blk b3 ([V8 c.1, VI c.2]) 78, .blk b5 (((t.cs.l ++ [((0 : UInt8), (0 : Int))]) ++ [((0 : UInt8), (0 : Int))]).flatMap cavE) 78, .blk b6 ([V64 t.serial, .string ⟨(t.tenant).toArray⟩, V8 t.rights, VI t.from_, VI t.until_, (⟨some ⟨b5, 0, none⟩, t.cs.len, t.cs.len + 2, t.cs.l⟩ : Gl Cav).v] ++ (t.tag).map V8) 76, .blk b40 ([V64 (0 : UInt64), .string ⟨(([] : List UInt8)).toArray⟩, V8 (0 : UInt8), VI 0, VI 0, .slice none 0 0] ++ (List.replicate 32 (0 : UInt8)).map V8) 76, .blk b41 ([V64 (0 : UInt64), .string ⟨(([] : List UInt8)).toArray⟩, V8 (0 : UInt8), VI 0, VI 0, .slice none 0 0] ++ (List.replicate 32 (0 : UInt8)).map V8) 76, .blk b77 ([V64 (0 : UInt64), .string ⟨(([] : List UInt8)).toArray⟩, V8 (0 : UInt8), VI 0, VI 0, .slice none 0 0] ++ (List.replicate 32 (0 : UInt8)).map V8) 76, .blk b78 ([V64 (0 : UInt64), .string ⟨(([] : List UInt8)).toArray⟩, V8 (0 : UInt8), VI 0, VI 0, .slice none 0 0] ++ (List.replicate 32 (0 : UInt8)).map V8) 76]) mixed ?_
       replace H := H.drew
       have HS := H
       refine t_take 0 rfl (by kernel_rfl) (by kernel_rfl) (by kernel_rfl) (fun _ _ _ h => h) (fun w HS => r_mv) HS ?_
       refine t_take 1 rfl (by kernel_rfl) (by kernel_rfl) (by kernel_rfl) (fun _ _ _ h => h) (fun w HS => r_mv) HS ?_
       refine t_take 2 rfl (by kernel_rfl) (by kernel_rfl) (by kernel_rfl) (fun _ _ _ h => h) (fun w HS => r_bin (a := 1) (b := 1) rfl rfl (fun _ => b_neqB false (decide_eq_false (by decide)))) HS ?_
       refine t_take 3 rfl (by kernel_rfl) (by kernel_rfl) (by kernel_rfl) (fun _ _ _ h => h) (fun w HS => r_mv) HS ?_
       refine t_takeg 4 rfl (by kernel_rfl) (by kernel_rfl) (by kernel_rfl) (fun _ _ _ h => h) (yielded_mk _ _ _ rfl _ rfl rfl) (fun w HS => r_mv) HS ?_
       refine t_takeg 5 rfl (by kernel_rfl) (by kernel_rfl) (by kernel_rfl) (fun _ _ _ h => h) (yielded_mk _ _ _ rfl _ rfl rfl) (fun w HS => r_mv) HS ?_
       refine t_takeg 6 rfl (by kernel_rfl) (by kernel_rfl) (by kernel_rfl) (fun _ _ _ h => h) (yielded_mk _ _ _ rfl _ rfl rfl) (fun w HS => r_bin (a := 1) (b := 1) rfl rfl (fun _ => b_neqB false (decide_eq_false (by decide)))) HS ?_
       refine t_take 7 rfl (by kernel_rfl) (by kernel_rfl) (by kernel_rfl) (fun _ _ _ h => h) (fun w HS => r_pick rfl) HS ?_
       refine t_take 8 rfl (by kernel_rfl) (by kernel_rfl) (by kernel_rfl) (fun _ _ _ h => h) (fun w HS => r_mv) HS ?_
       refine t_takeg 9 rfl (by kernel_rfl) (by kernel_rfl) (by kernel_rfl) (fun _ _ _ h => h) (yielded_mk _ _ _ rfl _ rfl rfl) (fun w HS => r_ldA (C := [V64 (0 : UInt64), .string ⟨(([] : List UInt8)).toArray⟩, V8 (0 : UInt8), VI 0, VI 0, .slice none 0 0] ++ (List.replicate 32 (0 : UInt8)).map V8) HS (i := 5) rfl rfl rt76 (by rw [List.length_append, List.length_map, (show (List.replicate 32 (0 : UInt8)).length = 32 from (List.length_replicate ..))]; rfl)) HS ?_
       refine t_takeg 10 rfl (by kernel_rfl) (by kernel_rfl) (by kernel_rfl) (fun _ _ _ h => h) (yielded_mk _ _ _ rfl _ rfl rfl) (fun w HS => r_ldA (C := [V64 (0 : UInt64), .string ⟨(([] : List UInt8)).toArray⟩, V8 (0 : UInt8), VI 0, VI 0, .slice none 0 0] ++ (List.replicate 32 (0 : UInt8)).map V8) HS (i := 6) rfl rfl rt76 (by rw [List.length_append, List.length_map, (show (List.replicate 32 (0 : UInt8)).length = 32 from (List.length_replicate ..))]; rfl)) HS ?_
       refine t_stepg 11 rfl (by kernel_rfl) (yielded_mk _ _ _ rfl _ rfl rfl) (o_callR Try.func74 rfl rfl rfl (same14_ret _ (⟨(0 : UInt64), ([] : List UInt8), (0 : UInt8), 0, 0, ⟨none, 0, 0, []⟩, List.replicate 32 (0 : UInt8)⟩ : Tok) (⟨(0 : UInt64), ([] : List UInt8), (0 : UInt8), 0, 0, ⟨none, 0, 0, []⟩, List.replicate 32 (0 : UInt8)⟩ : Tok) (Gl.ok_nil _) (show (List.replicate 32 (0 : UInt8)).length = 32 from (List.length_replicate ..)) (Gl.ok_nil _) (show (List.replicate 32 (0 : UInt8)).length = 32 from (List.length_replicate ..))) ?_)
       rintro _ w ⟨rfl, Hc⟩
       replace H : Hp _ w _ ([_, _, _, _, _, _, _, _, _]) := H.call Hc
       clear Hc
       have hk79 : (sameT (⟨(0 : UInt64), ([] : List UInt8), (0 : UInt8), 0, 0, ⟨none, 0, 0, []⟩, List.replicate 32 (0 : UInt8)⟩ : Tok) (⟨(0 : UInt64), ([] : List UInt8), (0 : UInt8), 0, 0, ⟨none, 0, 0, []⟩, List.replicate 32 (0 : UInt8)⟩ : Tok)) = true := (decide_eq_true (by first | rfl | (have e := hcs0 (by omega); show (⟨t.serial, t.tenant, t.rights, t.from_, t.until_, [], hmac key (framed [t.head])⟩ : TV) = ⟨t.serial, t.tenant, t.rights, t.from_, t.until_, t.cs.l, hmac key (framed [t.head])⟩; rw [e])))
       refine ⟨H, ?_⟩
       replace HS := H
       refine t_takeg 12 rfl (by kernel_rfl) (by kernel_rfl) (by kernel_rfl) (fun _ _ _ h => h) (yielded_mk _ _ _ rfl _ rfl rfl) (fun w HS => r_not rfl) HS ?_
       refine t_take 13 rfl (by kernel_rfl) (by kernel_rfl) (by kernel_rfl) (fun _ _ _ h => h) (fun w HS => r_pick rfl) HS ?_
       refine t_take 14 rfl (by kernel_rfl) (by kernel_rfl) (by kernel_rfl) (fun _ _ _ h => h) (fun w HS => r_mv) HS ?_
       refine t_takeg 15 rfl (by kernel_rfl) (by kernel_rfl) (by kernel_rfl) (fun _ _ _ h => h) (yielded_mk _ _ _ rfl _ rfl (by exact congrArg Value.bool (congrArg not hk79))) (fun w HS => r_ldA (C := [V64 (0 : UInt64), .string ⟨(([] : List UInt8)).toArray⟩, V8 (0 : UInt8), VI 0, VI 0, .slice none 0 0] ++ (List.replicate 32 (0 : UInt8)).map V8) HS (i := 7) rfl rfl rt76 (by rw [List.length_append, List.length_map, (show (List.replicate 32 (0 : UInt8)).length = 32 from (List.length_replicate ..))]; rfl)) HS ?_
       refine t_takeg 16 rfl (by kernel_rfl) (by kernel_rfl) (by kernel_rfl) (fun _ _ _ h => h) (yielded_mk _ _ _ rfl _ rfl (by exact congrArg Value.bool (congrArg not hk79))) (fun w HS => r_ldA (C := [V64 (0 : UInt64), .string ⟨(([] : List UInt8)).toArray⟩, V8 (0 : UInt8), VI 0, VI 0, .slice none 0 0] ++ (List.replicate 32 (0 : UInt8)).map V8) HS (i := 8) rfl rfl rt76 (by rw [List.length_append, List.length_map, (show (List.replicate 32 (0 : UInt8)).length = 32 from (List.length_replicate ..))]; rfl)) HS ?_
       refine t_stepg 17 rfl (by kernel_rfl) (yielded_mk _ _ _ rfl _ rfl (by exact congrArg Value.bool (congrArg not hk79))) (o_callR Try.func74 rfl rfl rfl (same14_ret _ (⟨(0 : UInt64), ([] : List UInt8), (0 : UInt8), 0, 0, ⟨none, 0, 0, []⟩, List.replicate 32 (0 : UInt8)⟩ : Tok) (⟨(0 : UInt64), ([] : List UInt8), (0 : UInt8), 0, 0, ⟨none, 0, 0, []⟩, List.replicate 32 (0 : UInt8)⟩ : Tok) (Gl.ok_nil _) (show (List.replicate 32 (0 : UInt8)).length = 32 from (List.length_replicate ..)) (Gl.ok_nil _) (show (List.replicate 32 (0 : UInt8)).length = 32 from (List.length_replicate ..))) ?_)
       rintro _ w ⟨rfl, Hc⟩
       replace H : Hp _ w _ ([_, _, _, _, _, _, _, _, _]) := H.call Hc
       clear Hc
       refine ⟨H, ?_⟩
       replace HS := H
       refine t_takeg 18 rfl (by kernel_rfl) (by kernel_rfl) (by kernel_rfl) (fun _ _ _ h => h) (yielded_mk _ _ _ rfl _ rfl (by exact congrArg Value.bool (congrArg not hk79))) (fun w HS => r_not rfl) HS ?_
       refine t_take 19 rfl (by kernel_rfl) (by kernel_rfl) (by kernel_rfl) (fun _ _ _ h => h) (fun w HS => r_pick (b := false) (congrArg Value.bool (congrArg not hk79))) HS ?_
       refine t_take 20 rfl (by kernel_rfl) (by kernel_rfl) (by kernel_rfl) (fun _ _ _ h => h) (fun w HS => r_mv) HS ?_
       refine t_takeg 21 rfl (by kernel_rfl) (by kernel_rfl) (by kernel_rfl) (fun _ _ _ h => h) (yielded_mk _ _ _ rfl _ rfl (by exact congrArg Value.bool (congrArg not hk79))) (fun w HS => r_mv) HS ?_
       refine t_takeg 22 rfl (by kernel_rfl) (by kernel_rfl) (by kernel_rfl) (fun _ _ _ h => h) (yielded_mk _ _ _ rfl _ rfl (by exact congrArg Value.bool (congrArg not hk79))) (fun w HS => r_mv) HS ?_
       refine t_takeg 23 rfl (by kernel_rfl) (by kernel_rfl) (by kernel_rfl) (fun _ _ _ h => h) (yielded_mk _ _ _ rfl _ rfl (by exact congrArg Value.bool (congrArg not hk79))) (fun w HS => r_bin (a := (((effF (t.rights) (t.until_) t.cs.l).1).toNat : Int)) (b := (((effF (t.rights) (t.until_) t.cs.l).1).toNat : Int)) rfl rfl (fun _ => b_neqB false (decide_eq_false (fun h => h rfl)))) HS ?_
       refine t_take 24 rfl (by kernel_rfl) (by kernel_rfl) (by kernel_rfl) (fun _ _ _ h => h) (fun w HS => r_pick (b := false) (congrArg Value.bool (congrArg not hk79))) HS ?_
       refine t_take 25 rfl (by kernel_rfl) (by kernel_rfl) (by kernel_rfl) (fun _ _ _ h => h) (fun w HS => r_mv) HS ?_
       refine t_takeg 26 rfl (by kernel_rfl) (by kernel_rfl) (by kernel_rfl) (fun _ _ _ h => h) (yielded_mk _ _ _ rfl _ rfl rfl) (fun w HS => r_mv) HS ?_
       refine t_takeg 27 rfl (by kernel_rfl) (by kernel_rfl) (by kernel_rfl) (fun _ _ _ h => h) (yielded_mk _ _ _ rfl _ rfl rfl) (fun w HS => r_mv) HS ?_
       refine t_takeg 28 rfl (by kernel_rfl) (by kernel_rfl) (by kernel_rfl) (fun _ _ _ h => h) (yielded_mk _ _ _ rfl _ rfl rfl) (fun w HS => r_bin (a := (effF (t.rights) (t.until_) t.cs.l).2) (b := (effF (t.rights) (t.until_) t.cs.l).2) rfl rfl (fun _ => b_neqB false (decide_eq_false (fun h => h rfl)))) HS ?_
       refine t_take 29 rfl (by kernel_rfl) (by kernel_rfl) (by kernel_rfl) (fun _ _ _ h => h) (fun w HS => r_pick rfl) HS ?_
       refine t_take 30 rfl (by kernel_rfl) (by kernel_rfl) (by kernel_rfl) (fun _ _ _ h => h) (fun w HS => r_mv) HS ?_
       refine t_takeg 31 rfl (by kernel_rfl) (by kernel_rfl) (by kernel_rfl) (fun _ _ _ h => h) (yielded_mk _ _ _ rfl _ rfl rfl) (fun w HS => r_ldA (C := [V64 t.serial, .string ⟨(t.tenant).toArray⟩, V8 t.rights, VI t.from_, VI t.until_, (⟨some ⟨b5, 0, none⟩, t.cs.len, t.cs.len + 2, t.cs.l⟩ : Gl Cav).v] ++ (t.tag).map V8) HS (i := 4) rfl rfl rt76 (by rw [List.length_append, List.length_map, (show (t.tag).length = 32 from htag)]; rfl)) HS ?_
       refine t_takeg 33 rfl (by kernel_rfl) (by kernel_rfl) (by kernel_rfl) (fun _ _ _ h => h) (yielded_mk _ _ _ rfl _ rfl rfl) (fun w HS => r_ldA (C := [V64 t.serial, .string ⟨(t.tenant).toArray⟩, V8 t.rights, VI t.from_, VI t.until_, t.cs.v] ++ (t.tag).map V8) HS (i := 1) rfl rfl rt76 (by rw [List.length_append, List.length_map, (show (t.tag).length = 32 from htag)]; rfl)) HS ?_
       refine t_stepg 32 rfl (by kernel_rfl) (yielded_mk _ _ _ rfl _ rfl rfl) (o_callR Try.func75 rfl rfl rfl (may_ret _ (⟨t.serial, t.tenant, t.rights, t.from_, t.until_, (⟨some ⟨b5, 0, none⟩, t.cs.len, t.cs.len + 2, t.cs.l⟩ : Gl Cav), t.tag⟩ : Tok) (show Gl.ok cavE 2 (⟨some ⟨b5, 0, none⟩, t.cs.len, t.cs.len + 2, t.cs.l⟩ : Gl Cav) _ from glBlk ([((0 : UInt8), (0 : Int)), ((0 : UInt8), (0 : Int))]) (H.has (.blk b5 (((t.cs.l ++ [((0 : UInt8), (0 : Int))]) ++ [((0 : UInt8), (0 : Int))]).flatMap cavE) 78) (by simp)) (by simp) (fun _ _ => rfl) hcl (by omega) (by omega)) (show (t.tag).length = 32 from htag) (by first | omega | (dsimp only; omega) | simp)) ?_)
       rintro _ w ⟨rfl, Hc⟩
       replace H : Hp _ w _ ([_, _, _, _, _, _, _, _, _]) := H.call Hc
       clear Hc
       refine ⟨H, ?_⟩
       replace HS := H
       refine t_stepg 34 rfl (by kernel_rfl) (yielded_mk _ _ _ rfl _ rfl rfl) (o_callR Try.func76 rfl rfl rfl (may14_ret _ t (hc.up H) (show (t.tag).length = 32 from htag) (by first | omega | (dsimp only; omega) | simp)) ?_)
       rintro _ w ⟨rfl, Hc⟩
       replace H : Hp _ w _ ([_, _, _, _, _, _, _, _, _]) := H.call Hc
       clear Hc
       refine ⟨H, ?_⟩
       replace HS := H
       refine t_takeg 35 rfl (by kernel_rfl) (by kernel_rfl) (by kernel_rfl) (fun _ _ _ h => h) (yielded_mk _ _ _ rfl _ rfl rfl) (fun w HS => r_bne Try.underlying4 rfl rfl) HS ?_
       have hk80 : (!((mayT (⟨t.serial, t.tenant, t.rights, t.from_, t.until_, (⟨some ⟨b5, 0, none⟩, t.cs.len, t.cs.len + 2, t.cs.l⟩ : Gl Cav), t.tag⟩ : Tok)) == (mayT t))) = false := (by show (!(mayT t == mayT t)) = false; simp)
       refine t_take 36 rfl (by kernel_rfl) (by kernel_rfl) (by kernel_rfl) (fun _ _ _ h => h) (fun w HS => r_pick rfl) HS ?_
       refine t_take 37 rfl (by kernel_rfl) (by kernel_rfl) (by kernel_rfl) (fun _ _ _ h => h) (fun w HS => r_mv) HS ?_
       refine t_takeg 38 rfl (by kernel_rfl) (by kernel_rfl) (by kernel_rfl) (fun _ _ _ h => h) (yielded_mk _ _ _ rfl _ rfl (by exact congrArg Value.bool hk80)) (fun w HS => r_ldAA (l := key) HS (i := 0) rfl rfl rt31 (show (key).length = 32 from hk)) HS ?_
       refine t_takeg 39 rfl (by kernel_rfl) (by kernel_rfl) (by kernel_rfl) (fun _ _ _ h => h) (yielded_mk _ _ _ rfl _ rfl (by exact congrArg Value.bool hk80)) (fun w HS => r_ldA (C := [V64 t.serial, .string ⟨(t.tenant).toArray⟩, V8 t.rights, VI t.from_, VI t.until_, (⟨some ⟨b5, 0, none⟩, t.cs.len, t.cs.len + 2, t.cs.l⟩ : Gl Cav).v] ++ (t.tag).map V8) HS (i := 4) rfl rfl rt76 (by rw [List.length_append, List.length_map, (show (t.tag).length = 32 from htag)]; rfl)) HS ?_
       refine t_takeg 40 rfl (by kernel_rfl) (by kernel_rfl) (by kernel_rfl) (fun _ _ _ h => h) (yielded_mk _ _ _ rfl _ rfl (by exact congrArg Value.bool hk80)) (fun w HS => r_mv) HS ?_
       refine t_takeg 42 rfl (by kernel_rfl) (by kernel_rfl) (by kernel_rfl) (fun _ _ _ h => h) (yielded_mk _ _ _ rfl _ rfl (by exact congrArg Value.bool hk80)) (fun w HS => r_ldAA (l := key) HS (i := 0) rfl rfl rt31 (show (key).length = 32 from hk)) HS ?_
       refine t_takeg 43 rfl (by kernel_rfl) (by kernel_rfl) (by kernel_rfl) (fun _ _ _ h => h) (yielded_mk _ _ _ rfl _ rfl (by exact congrArg Value.bool hk80)) (fun w HS => r_ldA (C := [V64 t.serial, .string ⟨(t.tenant).toArray⟩, V8 t.rights, VI t.from_, VI t.until_, t.cs.v] ++ (t.tag).map V8) HS (i := 1) rfl rfl rt76 (by rw [List.length_append, List.length_map, (show (t.tag).length = 32 from htag)]; rfl)) HS ?_
       refine t_takeg 44 rfl (by kernel_rfl) (by kernel_rfl) (by kernel_rfl) (fun _ _ _ h => h) (yielded_mk _ _ _ rfl _ rfl (by exact congrArg Value.bool hk80)) (fun w HS => r_mv) HS ?_
       refine t_stepg 41 rfl (by kernel_rfl) (yielded_mk _ _ _ rfl _ rfl (by exact congrArg Value.bool hk80)) (o_callR Try.func77 rfl rfl rfl (check14_ret _ (key) (show (key).length = 32 from hk) (⟨t.serial, t.tenant, t.rights, t.from_, t.until_, (⟨some ⟨b5, 0, none⟩, t.cs.len, t.cs.len + 2, t.cs.l⟩ : Gl Cav), t.tag⟩ : Tok) (show Gl.ok cavE 2 (⟨some ⟨b5, 0, none⟩, t.cs.len, t.cs.len + 2, t.cs.l⟩ : Gl Cav) _ from glBlk ([((0 : UInt8), (0 : Int)), ((0 : UInt8), (0 : Int))]) (H.has (.blk b5 (((t.cs.l ++ [((0 : UInt8), (0 : Int))]) ++ [((0 : UInt8), (0 : Int))]).flatMap cavE) 78) (by simp)) (by simp) (fun _ _ => rfl) hcl (by omega) (by omega)) (show (t.tag).length = 32 from htag) (by first | omega | (dsimp only; omega) | simp) (now)) ?_)
       rintro _ w ⟨rfl, Hc⟩
       replace H : Hp _ w _ ([_, _, _, _, _, _, _, _, _]) := H.call Hc
       clear Hc
       refine ⟨H, ?_⟩
       replace HS := H
       refine t_stepg 45 rfl (by kernel_rfl) (yielded_mk _ _ _ rfl _ rfl (by exact congrArg Value.bool hk80)) (o_callR Try.func78 rfl rfl rfl (check14r_ret _ (key) (show (key).length = 32 from hk) t (hc.up H) (show (t.tag).length = 32 from htag) (by first | omega | (dsimp only; omega) | simp) hb (now)) ?_)
       rintro _ w ⟨rfl, Hc⟩
       replace H : Hp _ w _ ([_, _, _, _, _, _, _, _, _]) := H.call Hc
       clear Hc
       refine ⟨H, ?_⟩
       replace HS := H
       refine t_takeg 46 rfl (by kernel_rfl) (by kernel_rfl) (by kernel_rfl) (fun _ _ _ h => h) (yielded_mk _ _ _ rfl _ rfl (by exact congrArg Value.bool hk80)) (fun w HS => r_bin (a := checkT (key) (⟨t.serial, t.tenant, t.rights, t.from_, t.until_, (⟨some ⟨b5, 0, none⟩, t.cs.len, t.cs.len + 2, t.cs.l⟩ : Gl Cav), t.tag⟩ : Tok) (now)) (b := checkT (key) t (now)) rfl rfl (fun _ => b_neqB false (decide_eq_false (fun h => h rfl)))) HS ?_
       refine t_take 47 rfl (by kernel_rfl) (by kernel_rfl) (by kernel_rfl) (fun _ _ _ h => h) (fun w HS => r_pick (b := false) (congrArg Value.bool hk80)) HS ?_
       refine t_take 48 rfl (by kernel_rfl) (by kernel_rfl) (by kernel_rfl) (fun _ _ _ h => h) (fun w HS => r_mv) HS ?_
       refine t_takeg 49 rfl (by kernel_rfl) (by kernel_rfl) (by kernel_rfl) (fun _ _ _ h => h) (yielded_mk _ _ _ rfl _ rfl rfl) (fun w HS => r_ldA (C := [V64 t.serial, .string ⟨(t.tenant).toArray⟩, V8 t.rights, VI t.from_, VI t.until_, (⟨some ⟨b5, 0, none⟩, t.cs.len, t.cs.len + 2, t.cs.l⟩ : Gl Cav).v] ++ (t.tag).map V8) HS (i := 4) rfl rfl rt76 (by rw [List.length_append, List.length_map, (show (t.tag).length = 32 from htag)]; rfl)) HS ?_
       refine t_takeg 50 rfl (by kernel_rfl) (by kernel_rfl) (by kernel_rfl) (fun _ _ _ h => h) (yielded_mk _ _ _ rfl _ rfl rfl) (fun w HS => r_ldA (C := [V64 t.serial, .string ⟨(t.tenant).toArray⟩, V8 t.rights, VI t.from_, VI t.until_, t.cs.v] ++ (t.tag).map V8) HS (i := 1) rfl rfl rt76 (by rw [List.length_append, List.length_map, (show (t.tag).length = 32 from htag)]; rfl)) HS ?_
       refine t_stepg 51 rfl (by kernel_rfl) (yielded_mk _ _ _ rfl _ rfl rfl) (o_callR Try.func74 rfl rfl rfl (same14_ret _ (⟨t.serial, t.tenant, t.rights, t.from_, t.until_, (⟨some ⟨b5, 0, none⟩, t.cs.len, t.cs.len + 2, t.cs.l⟩ : Gl Cav), t.tag⟩ : Tok) t (show Gl.ok cavE 2 (⟨some ⟨b5, 0, none⟩, t.cs.len, t.cs.len + 2, t.cs.l⟩ : Gl Cav) _ from glBlk ([((0 : UInt8), (0 : Int)), ((0 : UInt8), (0 : Int))]) (H.has (.blk b5 (((t.cs.l ++ [((0 : UInt8), (0 : Int))]) ++ [((0 : UInt8), (0 : Int))]).flatMap cavE) 78) (by simp)) (by simp) (fun _ _ => rfl) hcl (by omega) (by omega)) (show (t.tag).length = 32 from htag) (hc.up H) (show (t.tag).length = 32 from htag)) ?_)
       rintro _ w ⟨rfl, Hc⟩
       replace H : Hp _ w _ ([_, _, _, _, _, _, _, _, _]) := H.call Hc
       clear Hc
       have hk81 : (sameT (⟨t.serial, t.tenant, t.rights, t.from_, t.until_, (⟨some ⟨b5, 0, none⟩, t.cs.len, t.cs.len + 2, t.cs.l⟩ : Gl Cav), t.tag⟩ : Tok) t) = true := (decide_eq_true rfl)
       refine ⟨H, ?_⟩
       replace HS := H
       refine t_takeg 52 rfl (by kernel_rfl) (by kernel_rfl) (by kernel_rfl) (fun _ _ _ h => h) (yielded_mk _ _ _ rfl _ rfl rfl) (fun w HS => r_not rfl) HS ?_
       refine t_take 53 rfl (by kernel_rfl) (by kernel_rfl) (by kernel_rfl) (fun _ _ _ h => h) (fun w HS => r_pick rfl) HS ?_
       refine t_done (by kernel_rfl) ?_
       clear HS
       repeat refine c_seq ?_
       refine c_no (by exact congrArg Value.bool (congrArg not hk81)) ?_
       refine c_skip ?_
       repeat refine c_seq ?_
       refine c_region ?_
       refine l_op (o_val (r_as) ?_)
       first | refine l_end ?_ | refine l_nil ?_
       repeat refine c_seq ?_
       refine c_block ?_
       repeat refine c_seq ?_
       refine c_loop (fun (j : Nat) => [(3, VI now), (4, .pointer (some ⟨b1, 0, none⟩)), (5, .pointer (some ⟨b2, 0, none⟩)), (6, .pointer (some ⟨b3, 0, none⟩)), (9, .pointer (some ⟨b6, 0, none⟩)), (10, VI (i : Int)), (15, .pointer (some ⟨b77, 0, none⟩)), (23, VI (j : Int))])
         (fun (j : Nat) w => (j = 0) ∧ Hp w0 w [] ([.blk b1 ((key).map V8) 31, .blk b2 ([V64 t.serial, .string ⟨(t.tenant).toArray⟩, V8 t.rights, VI t.from_, VI t.until_, t.cs.v] ++ (t.tag).map V8) 76, .blk b3 ([V8 c.1, VI c.2]) 78, .blk b5 (((t.cs.l ++ [((0 : UInt8), (0 : Int))]) ++ [((0 : UInt8), (0 : Int))]).flatMap cavE) 78, .blk b6 ([V64 t.serial, .string ⟨(t.tenant).toArray⟩, V8 t.rights, VI t.from_, VI t.until_, (⟨some ⟨b5, 0, none⟩, t.cs.len, t.cs.len + 2, t.cs.l⟩ : Gl Cav).v] ++ (t.tag).map V8) 76, .blk b40 ([V64 (0 : UInt64), .string ⟨(([] : List UInt8)).toArray⟩, V8 (0 : UInt8), VI 0, VI 0, .slice none 0 0] ++ (List.replicate 32 (0 : UInt8)).map V8) 76, .blk b41 ([V64 (0 : UInt64), .string ⟨(([] : List UInt8)).toArray⟩, V8 (0 : UInt8), VI 0, VI 0, .slice none 0 0] ++ (List.replicate 32 (0 : UInt8)).map V8) 76, .blk b77 ([V64 (0 : UInt64), .string ⟨(([] : List UInt8)).toArray⟩, V8 (0 : UInt8), VI 0, VI 0, .slice none 0 0] ++ (List.replicate 32 (0 : UInt8)).map V8) 76, .blk b78 ([V64 (0 : UInt64), .string ⟨(([] : List UInt8)).toArray⟩, V8 (0 : UInt8), VI 0, VI 0, .slice none 0 0] ++ (List.replicate 32 (0 : UInt8)).map V8) 76]))
         (fun (j : Nat) => 0) 0 ⟨rfl, rfl, rfl, rfl, rfl, rfl, rfl, rfl, trivial⟩ ⟨rfl, H⟩ ?_
       clear H
       rintro j τ w ⟨hj, H⟩
       repeat refine c_seq ?_
       refine c_region ?_
       refine l_op (o_val (r_mv) ?_)
       refine l_op (o_val (r_fa rfl fo76_5) ?_)
       refine l_op (o_val (r_ld (v := .slice none 0 0) H (i := 7) rfl rfl ct74 rfl) ?_)
       refine l_op (o_val (r_lens el74 rfl) ?_)
       refine l_op (o_val (r_bin (a := (j : Int)) (b := 0) rfl rfl (fun _ => b_lssB false (decide_eq_false (by omega)))) ?_)
       first | refine l_end ?_ | refine l_nil ?_
       repeat refine c_seq ?_
       refine c_no rfl ?_
       refine c_exit ?_
       repeat refine c_seq ?_
       refine wp_held (fun w => Hp w0 w [] [.blk b1 ((key).map V8) 31, .blk b2 ([V64 t.serial, .string ⟨(t.tenant).toArray⟩, V8 t.rights, VI t.from_, VI t.until_, t.cs.v] ++ (t.tag).map V8) 76, .blk b3 ([V8 c.1, VI c.2]) 78, .blk b5 (((t.cs.l ++ [((0 : UInt8), (0 : Int))]) ++ [((0 : UInt8), (0 : Int))]).flatMap cavE) 78, .blk b6 ([V64 t.serial, .string ⟨(t.tenant).toArray⟩, V8 t.rights, VI t.from_, VI t.until_, (⟨some ⟨b5, 0, none⟩, t.cs.len, t.cs.len + 2, t.cs.l⟩ : Gl Cav).v] ++ (t.tag).map V8) 76, .blk b40 ([V64 (0 : UInt64), .string ⟨(([] : List UInt8)).toArray⟩, V8 (0 : UInt8), VI 0, VI 0, .slice none 0 0] ++ (List.replicate 32 (0 : UInt8)).map V8) 76, .blk b41 ([V64 (0 : UInt64), .string ⟨(([] : List UInt8)).toArray⟩, V8 (0 : UInt8), VI 0, VI 0, .slice none 0 0] ++ (List.replicate 32 (0 : UInt8)).map V8) 76, .blk b77 ([V64 (0 : UInt64), .string ⟨(([] : List UInt8)).toArray⟩, V8 (0 : UInt8), VI 0, VI 0, .slice none 0 0] ++ (List.replicate 32 (0 : UInt8)).map V8) 76, .blk b78 ([V64 (0 : UInt64), .string ⟨(([] : List UInt8)).toArray⟩, V8 (0 : UInt8), VI 0, VI 0, .slice none 0 0] ++ (List.replicate 32 (0 : UInt8)).map V8) 76]) mixed ?_
       replace H := H.drew
       have HS := H
       refine t_take 0 rfl (by kernel_rfl) (by kernel_rfl) (by kernel_rfl) (fun _ _ _ h => h) (fun w HS => r_fa rfl fo76_5) HS ?_
       refine t_take 1 rfl (by kernel_rfl) (by kernel_rfl) (by kernel_rfl) (fun _ _ _ h => h) (fun w HS => r_ld (v := (⟨some ⟨b5, 0, none⟩, t.cs.len, t.cs.len + 2, t.cs.l⟩ : Gl Cav).v) HS (i := 4) rfl rfl ct74 rfl) HS ?_
       refine t_take 2 rfl (by kernel_rfl) (by kernel_rfl) (by kernel_rfl) (fun _ _ _ h => h) (fun w HS => r_ldA (C := [V64 t.serial, .string ⟨(t.tenant).toArray⟩, V8 t.rights, VI t.from_, VI t.until_, (⟨some ⟨b5, 0, none⟩, t.cs.len, t.cs.len + 2, t.cs.l⟩ : Gl Cav).v] ++ (t.tag).map V8) HS (i := 4) rfl rfl rt76 (by rw [List.length_append, List.length_map, (show (t.tag).length = 32 from htag)]; rfl)) HS ?_
       refine t_step 3 rfl (by kernel_rfl) (o_callR Try.func79 rfl rfl rfl (cap2_s _ (⟨t.serial, t.tenant, t.rights, t.from_, t.until_, (⟨some ⟨b5, 0, none⟩, t.cs.len, t.cs.len + 2, t.cs.l⟩ : Gl Cav), t.tag⟩ : Tok) (show Gl.ok cavE 2 (⟨some ⟨b5, 0, none⟩, t.cs.len, t.cs.len + 2, t.cs.l⟩ : Gl Cav) _ from glBlk ([((0 : UInt8), (0 : Int)), ((0 : UInt8), (0 : Int))]) (H.has (.blk b5 (((t.cs.l ++ [((0 : UInt8), (0 : Int))]) ++ [((0 : UInt8), (0 : Int))]).flatMap cavE) 78) (by simp)) (by simp) (fun _ _ => rfl) hcl (by omega) (by omega)) (show (t.tag).length = 32 from htag) (by (try dsimp only); omega) (by (try dsimp only); omega)) ?_)
       rintro _ w ⟨rfl, Hc⟩
       replace H : Hp _ w _ ([_, _, _, _, _, _, _, _, _]) := H.call Hc
       clear Hc
       refine ⟨H, ?_⟩
       replace HS := H
       refine t_take 4 rfl (by kernel_rfl) (by kernel_rfl) (by kernel_rfl) (fun _ _ _ h => h) (fun w HS => r_slH (len := t.cs.len) (cap := t.cs.len + 2) (h := t.cs.len + 1) (m := t.cs.len + 2) (hv := some (VI ((t.cs.len : Int) + 1))) rfl el74 rfl rfl rfl (fun w => by exact sbh (t.cs.len + 1) (by omega) (by omega) w)) HS ?_
       refine t_take 5 rfl (by kernel_rfl) (by kernel_rfl) (by kernel_rfl) (fun _ _ _ h => h) (fun w HS => r_as) HS ?_
       refine t_done (by kernel_rfl) ?_
       clear HS
       repeat refine c_seq ?_
       refine c_region ?_
       refine l_op (o_val (r_fa rfl fo76_5) ?_)
       refine l_op (o_val (r_ld (v := t.cs.v) H (i := 1) rfl rfl ct74 rfl) ?_)
       refine l_op (o_val (r_lens el74 rfl) ?_)
       refine l_op (o_val (r_bin (a := (t.cs.len : Int)) (b := 0) rfl rfl (fun _ => b_gtrB true (decide_eq_true (by omega)))) ?_)
       refine l_op (o_val (r_mv) ?_)
       refine l_yes rfl rfl rfl (o_val (r_mv) ?_)
       refine l_yes rfl rfl rfl (o_val (r_fa rfl fo76_5) ?_)
       refine l_yes rfl rfl rfl (o_val (r_ld (v := t.cs.v) H (i := 1) rfl rfl ct74 rfl) ?_)
       refine l_yes rfl rfl rfl (o_val (r_lens el74 rfl) ?_)
       have ah84 := ((show Gl.ok cavE 2 (⟨some ⟨b5, 0, none⟩, t.cs.len + 1, t.cs.len + 2, t.cs.l ++ [((0 : UInt8), (0 : Int))]⟩ : Gl Cav) _ from glBlk ([((0 : UInt8), (0 : Int))]) (H.has (.blk b5 (((t.cs.l ++ [((0 : UInt8), (0 : Int))]) ++ [((0 : UInt8), (0 : Int))]).flatMap cavE) 78) (by simp)) rfl (fun _ _ => rfl) (by rw [List.length_append, hcl]; rfl) (by omega) (by omega))).addr (by decide) (by first | omega | (dsimp only; omega))
       obtain ⟨ab82, ao83, ah84⟩ := ah84
       refine l_yes rfl rfl rfl (o_val (r_isN t.cs.len rfl rfl el74 ah84 (by omega) (by (try simp only [Sl.cut]); omega)) ?_)
       have he86 : ∃ c, (⟨some ⟨b5, 0, none⟩, t.cs.len + 1, t.cs.len + 2, t.cs.l ++ [((0 : UInt8), (0 : Int))]⟩ : Gl Cav).l[t.cs.len]? = some c := ⟨_, List.getElem?_eq_getElem (by have := ((show Gl.ok cavE 2 (⟨some ⟨b5, 0, none⟩, t.cs.len + 1, t.cs.len + 2, t.cs.l ++ [((0 : UInt8), (0 : Int))]⟩ : Gl Cav) _ from glBlk ([((0 : UInt8), (0 : Int))]) (H.has (.blk b5 (((t.cs.l ++ [((0 : UInt8), (0 : Int))]) ++ [((0 : UInt8), (0 : Int))]).flatMap cavE) 78) (by simp)) rfl (fun _ _ => rfl) (by rw [List.length_append, hcl]; rfl) (by omega) (by omega))).ln; (try dsimp only at this ⊢); omega)⟩
       obtain ⟨e85, he86⟩ := he86
       have hez87 := ((show Gl.ok cavE 2 (⟨some ⟨b5, 0, none⟩, t.cs.len + 1, t.cs.len + 2, t.cs.l ++ [((0 : UInt8), (0 : Int))]⟩ : Gl Cav) _ from glBlk ([((0 : UInt8), (0 : Int))]) (H.has (.blk b5 (((t.cs.l ++ [((0 : UInt8), (0 : Int))]) ++ [((0 : UInt8), (0 : Int))]).flatMap cavE) 78) (by simp)) rfl (fun _ _ => rfl) (by rw [List.length_append, hcl]; rfl) (by omega) (by omega))).sz e85 (List.mem_of_getElem? he86)
       refine l_yes rfl rfl rfl (o_val (r_ldRow (s := (⟨some ⟨b5, 0, none⟩, t.cs.len + 1, t.cs.len + 2, t.cs.l ++ [((0 : UInt8), (0 : Int))]⟩ : Gl Cav)) (k := t.cs.len) (show Gl.ok cavE 2 (⟨some ⟨b5, 0, none⟩, t.cs.len + 1, t.cs.len + 2, t.cs.l ++ [((0 : UInt8), (0 : Int))]⟩ : Gl Cav) _ from glBlk ([((0 : UInt8), (0 : Int))]) (H.has (.blk b5 (((t.cs.l ++ [((0 : UInt8), (0 : Int))]) ++ [((0 : UInt8), (0 : Int))]).flatMap cavE) 78) (by simp)) rfl (fun _ _ => rfl) (by rw [List.length_append, hcl]; rfl) (by omega) (by omega)) ah84 rfl rt78 (by decide) he86) ?_)
       refine l_yes rfl rfl rfl (o_val (r_bld' (cells := ([V8 (0 : UInt8), VI 0]).toArray) (pv := []) bd78 rfl rfl) ?_)
       refine l_yes rfl rfl rfl (o_val (r_neS egCav rfl rfl (eqCav e85 ((0 : UInt8), 0))) ?_)
       have hk88 : (!(decide (e85 = ((0 : UInt8), 0)))) = false := (by rw [decide_eq_true (snoc_get (l := t.cs.l) hcl he86 : e85 = ((0 : UInt8), (0 : Int)))]; rfl)
       refine l_op (o_val (r_pick rfl) ?_)
       first | refine l_end ?_ | refine l_nil ?_
       repeat refine c_seq ?_
       refine c_no (by exact congrArg Value.bool hk88) ?_
       refine c_skip ?_
       repeat refine c_seq ?_
       refine c_region ?_
       refine l_op (o_val (r_mv) ?_)
       refine l_op (o_val (r_bin (a := (i : Int)) (b := 1) rfl rfl (fun _ => b_add (by omega) (by omega))) ?_)
       refine l_op (o_val (r_as) ?_)
       first | refine l_end ?_ | refine l_nil ?_
       refine round_end (i + 1) ?_ ?_ ?_
       · exact ⟨rfl, rfl, rfl, rfl, rfl, show VI ((i : Int) + 1) = VI ((i + 1 : Nat) : Int) from congrArg VI (by omega), trivial⟩
       · refine ⟨?_, ?_⟩
         · try dsimp only
           exact by omega
         · exact H.sub (.cons_cons _ (.cons_cons _ (.cons_cons _ (.cons_cons _ (.cons_cons _ (List.nil_sublist _))))))
       · show 2 - (i + 1 : Nat) < 2 - i; omega
    ·
     refine l_op (o_callR Try.func68 rfl rfl rfl (issue_n1 _ (key) (show (key).length = 32 from hk) (⟨t.serial, t.tenant, t.rights, t.from_, t.until_, (⟨some ⟨b5, 0, none⟩, t.cs.len, t.cs.len + 2, t.cs.l⟩ : Gl Cav), t.tag⟩ : Tok) (show Gl.ok cavE 2 (⟨some ⟨b5, 0, none⟩, t.cs.len, t.cs.len + 2, t.cs.l⟩ : Gl Cav) _ from glBlk ([((0 : UInt8), (0 : Int)), ((0 : UInt8), (0 : Int))]) (H.has (.blk b5 (((t.cs.l ++ [((0 : UInt8), (0 : Int))]) ++ [((0 : UInt8), (0 : Int))]).flatMap cavE) 78) (by simp)) (by simp) (fun _ _ => rfl) hcl (by omega) (by omega)) (show (t.tag).length = 32 from htag) (by first | omega | (dsimp only; omega) | simp) hc8) ?_)
     rintro _ w ⟨rfl, Hc⟩
     replace H : Hp _ w _ ([_, _, _, _, _]) := H.call Hc
     clear Hc
     refine l_op (o_val (r_mv) ?_)
     refine l_op (o_val (r_ext rfl rfl) ?_)
     refine l_op (o_val (r_ext rfl rfl) ?_)
     refine l_op (o_alloc H zc76 (fun b89 w H hb89 => ?_))
     replace H : Hp _ w _ ([_, _, _, _, _, .blk b89 ([V64 (0 : UInt64), .string ⟨(([] : List UInt8)).toArray⟩, V8 (0 : UInt8), VI 0, VI 0, .slice none 0 0] ++ (List.replicate 32 (0 : UInt8)).map V8) 76]) := H
     refine l_op (o_stW (C' := [V64 (0 : UInt64), .string ⟨(([] : List UInt8)).toArray⟩, V8 (0 : UInt8), VI 0, VI 0, .slice none 0 0] ++ (List.replicate 32 (0 : UInt8)).map V8) H (i := 5) rfl rfl rfl cs76 (by simp [Value.oneCell']) (by rw [List.length_append, List.length_map, (show (List.replicate 32 (0 : UInt8)).length = 32 from (List.length_replicate ..))]; rfl) (by rw [List.length_append, List.length_map, (show (List.replicate 32 (0 : UInt8)).length = 32 from (List.length_replicate ..))]; rfl) (fun w H => ?_))
     replace H : Hp _ w _ [_, _, _, _, _, _] := H
     refine l_op (o_val (r_as) ?_)
     first | refine l_end ?_ | refine l_nil ?_
     repeat refine c_seq ?_
     refine c_region ?_
     refine l_op (o_val (r_ldAA (l := key) H (i := 0) rfl rfl rt31 (show (key).length = 32 from hk)) ?_)
     refine l_op (o_val (r_ldA (C := [V64 t.serial, .string ⟨(t.tenant).toArray⟩, V8 t.rights, VI t.from_, VI t.until_, t.cs.v] ++ (t.tag).map V8) H (i := 1) rfl rfl rt76 (by rw [List.length_append, List.length_map, (show (t.tag).length = 32 from htag)]; rfl)) ?_)
     refine l_op (o_callR Try.func69 rfl rfl rfl (issuer_n1 _ (key) (show (key).length = 32 from hk) t (hc.up H) (show (t.tag).length = 32 from htag) (by first | omega | (dsimp only; omega) | simp) hc8) ?_)
     rintro _ w ⟨rfl, Hc⟩
     replace H : Hp _ w _ ([_, _, _, _, _, _]) := H.call Hc
     clear Hc
     refine l_op (o_val (r_mv) ?_)
     refine l_op (o_val (r_ext rfl rfl) ?_)
     refine l_op (o_val (r_ext rfl rfl) ?_)
     refine l_op (o_alloc H zc76 (fun b90 w H hb90 => ?_))
     replace H : Hp _ w _ ([_, _, _, _, _, _, .blk b90 ([V64 (0 : UInt64), .string ⟨(([] : List UInt8)).toArray⟩, V8 (0 : UInt8), VI 0, VI 0, .slice none 0 0] ++ (List.replicate 32 (0 : UInt8)).map V8) 76]) := H
     refine l_op (o_stW (C' := [V64 (0 : UInt64), .string ⟨(([] : List UInt8)).toArray⟩, V8 (0 : UInt8), VI 0, VI 0, .slice none 0 0] ++ (List.replicate 32 (0 : UInt8)).map V8) H (i := 6) rfl rfl rfl cs76 (by simp [Value.oneCell']) (by rw [List.length_append, List.length_map, (show (List.replicate 32 (0 : UInt8)).length = 32 from (List.length_replicate ..))]; rfl) (by rw [List.length_append, List.length_map, (show (List.replicate 32 (0 : UInt8)).length = 32 from (List.length_replicate ..))]; rfl) (fun w H => ?_))
     replace H : Hp _ w _ [_, _, _, _, _, _, _] := H
     refine l_op (o_val (r_as) ?_)
     first | refine l_end ?_ | refine l_nil ?_
     repeat refine c_seq ?_
     refine c_region ?_
     refine l_op (o_val (r_ldA (C := [V64 t.serial, .string ⟨(t.tenant).toArray⟩, V8 t.rights, VI t.from_, VI t.until_, (⟨some ⟨b5, 0, none⟩, t.cs.len, t.cs.len + 2, t.cs.l⟩ : Gl Cav).v] ++ (t.tag).map V8) H (i := 4) rfl rfl rt76 (by rw [List.length_append, List.length_map, (show (t.tag).length = 32 from htag)]; rfl)) ?_)
     refine l_op (o_val (r_ldA (C := [V8 c.1, VI c.2]) H (i := 2) rfl rfl rt78 (by rfl)) ?_)
     refine l_op (o_callR Try.func70 rfl rfl rfl (less_n1 _ (⟨t.serial, t.tenant, t.rights, t.from_, t.until_, (⟨some ⟨b5, 0, none⟩, t.cs.len, t.cs.len + 2, t.cs.l⟩ : Gl Cav), t.tag⟩ : Tok) c (show Gl.ok cavE 2 (⟨some ⟨b5, 0, none⟩, t.cs.len, t.cs.len + 2, t.cs.l⟩ : Gl Cav) _ from glBlk ([((0 : UInt8), (0 : Int)), ((0 : UInt8), (0 : Int))]) (H.has (.blk b5 (((t.cs.l ++ [((0 : UInt8), (0 : Int))]) ++ [((0 : UInt8), (0 : Int))]).flatMap cavE) 78) (by simp)) (by simp) (fun _ _ => rfl) hcl (by omega) (by omega)) (show (t.tag).length = 32 from htag) (by first | omega | (dsimp only; omega) | simp) hc8) ?_)
     rintro _ w ⟨rfl, Hc⟩
     replace H : Hp _ w _ ([_, _, _, _, _, _, _]) := H.call Hc
     clear Hc
     refine l_op (o_val (r_mv) ?_)
     refine l_op (o_val (r_ext rfl rfl) ?_)
     refine l_op (o_val (r_ext rfl rfl) ?_)
     refine l_op (o_alloc H zc76 (fun b91 w H hb91 => ?_))
     replace H : Hp _ w _ ([_, _, _, _, _, _, _, .blk b91 ([V64 (0 : UInt64), .string ⟨(([] : List UInt8)).toArray⟩, V8 (0 : UInt8), VI 0, VI 0, .slice none 0 0] ++ (List.replicate 32 (0 : UInt8)).map V8) 76]) := H
     refine l_op (o_stW (C' := [V64 (0 : UInt64), .string ⟨(([] : List UInt8)).toArray⟩, V8 (0 : UInt8), VI 0, VI 0, .slice none 0 0] ++ (List.replicate 32 (0 : UInt8)).map V8) H (i := 7) rfl rfl rfl cs76 (by simp [Value.oneCell']) (by rw [List.length_append, List.length_map, (show (List.replicate 32 (0 : UInt8)).length = 32 from (List.length_replicate ..))]; rfl) (by rw [List.length_append, List.length_map, (show (List.replicate 32 (0 : UInt8)).length = 32 from (List.length_replicate ..))]; rfl) (fun w H => ?_))
     replace H : Hp _ w _ [_, _, _, _, _, _, _, _] := H
     refine l_op (o_val (r_as) ?_)
     first | refine l_end ?_ | refine l_nil ?_
     repeat refine c_seq ?_
     refine c_region ?_
     refine l_op (o_val (r_ldA (C := [V64 t.serial, .string ⟨(t.tenant).toArray⟩, V8 t.rights, VI t.from_, VI t.until_, t.cs.v] ++ (t.tag).map V8) H (i := 1) rfl rfl rt76 (by rw [List.length_append, List.length_map, (show (t.tag).length = 32 from htag)]; rfl)) ?_)
     refine l_op (o_val (r_ldA (C := [V8 c.1, VI c.2]) H (i := 2) rfl rfl rt78 (by rfl)) ?_)
     refine l_op (o_callR Try.func71 rfl rfl rfl (lessr_n1 _ t c (hc.up H) (show (t.tag).length = 32 from htag) (by first | omega | (dsimp only; omega) | simp) hc8) ?_)
     rintro _ w ⟨rfl, Hc⟩
     replace H : Hp _ w _ ([_, _, _, _, _, _, _, _]) := H.call Hc
     clear Hc
     refine l_op (o_val (r_mv) ?_)
     refine l_op (o_val (r_ext rfl rfl) ?_)
     refine l_op (o_val (r_ext rfl rfl) ?_)
     refine l_op (o_alloc H zc76 (fun b92 w H hb92 => ?_))
     replace H : Hp _ w _ ([_, _, _, _, _, _, _, _, .blk b92 ([V64 (0 : UInt64), .string ⟨(([] : List UInt8)).toArray⟩, V8 (0 : UInt8), VI 0, VI 0, .slice none 0 0] ++ (List.replicate 32 (0 : UInt8)).map V8) 76]) := H
     refine l_op (o_stW (C' := [V64 (0 : UInt64), .string ⟨(([] : List UInt8)).toArray⟩, V8 (0 : UInt8), VI 0, VI 0, .slice none 0 0] ++ (List.replicate 32 (0 : UInt8)).map V8) H (i := 8) rfl rfl rfl cs76 (by simp [Value.oneCell']) (by rw [List.length_append, List.length_map, (show (List.replicate 32 (0 : UInt8)).length = 32 from (List.length_replicate ..))]; rfl) (by rw [List.length_append, List.length_map, (show (List.replicate 32 (0 : UInt8)).length = 32 from (List.length_replicate ..))]; rfl) (fun w H => ?_))
     replace H : Hp _ w _ [_, _, _, _, _, _, _, _, _] := H
     refine l_op (o_val (r_as) ?_)
     first | refine l_end ?_ | refine l_nil ?_
     repeat refine c_seq ?_
     refine c_region ?_
     refine l_op (o_val (r_ldA (C := [V64 t.serial, .string ⟨(t.tenant).toArray⟩, V8 t.rights, VI t.from_, VI t.until_, (⟨some ⟨b5, 0, none⟩, t.cs.len, t.cs.len + 2, t.cs.l⟩ : Gl Cav).v] ++ (t.tag).map V8) H (i := 4) rfl rfl rt76 (by rw [List.length_append, List.length_map, (show (t.tag).length = 32 from htag)]; rfl)) ?_)
     refine l_op (o_callR Try.func72 rfl rfl rfl (effect_ret _ (⟨t.serial, t.tenant, t.rights, t.from_, t.until_, (⟨some ⟨b5, 0, none⟩, t.cs.len, t.cs.len + 2, t.cs.l⟩ : Gl Cav), t.tag⟩ : Tok) (show Gl.ok cavE 2 (⟨some ⟨b5, 0, none⟩, t.cs.len, t.cs.len + 2, t.cs.l⟩ : Gl Cav) _ from glBlk ([((0 : UInt8), (0 : Int)), ((0 : UInt8), (0 : Int))]) (H.has (.blk b5 (((t.cs.l ++ [((0 : UInt8), (0 : Int))]) ++ [((0 : UInt8), (0 : Int))]).flatMap cavE) 78) (by simp)) (by simp) (fun _ _ => rfl) hcl (by omega) (by omega)) (show (t.tag).length = 32 from htag)) ?_)
     rintro _ w ⟨rfl, Hc⟩
     replace H : Hp _ w _ ([_, _, _, _, _, _, _, _, _]) := H.call Hc
     clear Hc
     refine l_op (o_val (r_mv) ?_)
     refine l_op (o_val (r_ext rfl rfl) ?_)
     refine l_op (o_val (r_ext rfl rfl) ?_)
     refine l_op (o_val (r_as) ?_)
     refine l_op (o_val (r_as) ?_)
     first | refine l_end ?_ | refine l_nil ?_
     repeat refine c_seq ?_
     refine c_region ?_
     refine l_op (o_val (r_ldA (C := [V64 t.serial, .string ⟨(t.tenant).toArray⟩, V8 t.rights, VI t.from_, VI t.until_, t.cs.v] ++ (t.tag).map V8) H (i := 1) rfl rfl rt76 (by rw [List.length_append, List.length_map, (show (t.tag).length = 32 from htag)]; rfl)) ?_)
     refine l_op (o_callR Try.func73 rfl rfl rfl (effect14_ret _ t (hc.up H) (show (t.tag).length = 32 from htag)) ?_)
     rintro _ w ⟨rfl, Hc⟩
     replace H : Hp _ w _ ([_, _, _, _, _, _, _, _, _]) := H.call Hc
     clear Hc
     refine l_op (o_val (r_mv) ?_)
     refine l_op (o_val (r_ext rfl rfl) ?_)
     refine l_op (o_val (r_ext rfl rfl) ?_)
     refine l_op (o_val (r_as) ?_)
     refine l_op (o_val (r_as) ?_)
     first | refine l_end ?_ | refine l_nil ?_
     repeat refine c_seq ?_
     refine wp_held (fun w => Hp w0 w [] [.blk b1 ((key).map V8) 31, .blk b2 ([V64 t.serial, .string ⟨(t.tenant).toArray⟩, V8 t.rights, VI t.from_, VI t.until_, t.cs.v] ++ (t.tag).map V8) 76, .blk b3 ([V8 c.1, VI c.2]) 78, .blk b5 (((t.cs.l ++ [((0 : UInt8), (0 : Int))]) ++ [((0 : UInt8), (0 : Int))]).flatMap cavE) 78, .blk b6 ([V64 t.serial, .string ⟨(t.tenant).toArray⟩, V8 t.rights, VI t.from_, VI t.until_, (⟨some ⟨b5, 0, none⟩, t.cs.len, t.cs.len + 2, t.cs.l⟩ : Gl Cav).v] ++ (t.tag).map V8) 76, .blk b89 ([V64 (0 : UInt64), .string ⟨(([] : List UInt8)).toArray⟩, V8 (0 : UInt8), VI 0, VI 0, .slice none 0 0] ++ (List.replicate 32 (0 : UInt8)).map V8) 76, .blk b90 ([V64 (0 : UInt64), .string ⟨(([] : List UInt8)).toArray⟩, V8 (0 : UInt8), VI 0, VI 0, .slice none 0 0] ++ (List.replicate 32 (0 : UInt8)).map V8) 76, .blk b91 ([V64 (0 : UInt64), .string ⟨(([] : List UInt8)).toArray⟩, V8 (0 : UInt8), VI 0, VI 0, .slice none 0 0] ++ (List.replicate 32 (0 : UInt8)).map V8) 76, .blk b92 ([V64 (0 : UInt64), .string ⟨(([] : List UInt8)).toArray⟩, V8 (0 : UInt8), VI 0, VI 0, .slice none 0 0] ++ (List.replicate 32 (0 : UInt8)).map V8) 76]) mixed ?_
     replace H := H.drew
     have HS := H
     refine t_take 0 rfl (by kernel_rfl) (by kernel_rfl) (by kernel_rfl) (fun _ _ _ h => h) (fun w HS => r_mv) HS ?_
     refine t_take 1 rfl (by kernel_rfl) (by kernel_rfl) (by kernel_rfl) (fun _ _ _ h => h) (fun w HS => r_mv) HS ?_
     refine t_take 2 rfl (by kernel_rfl) (by kernel_rfl) (by kernel_rfl) (fun _ _ _ h => h) (fun w HS => r_bin (a := 1) (b := 1) rfl rfl (fun _ => b_neqB false (decide_eq_false (by decide)))) HS ?_
     refine t_take 3 rfl (by kernel_rfl) (by kernel_rfl) (by kernel_rfl) (fun _ _ _ h => h) (fun w HS => r_mv) HS ?_
     refine t_takeg 4 rfl (by kernel_rfl) (by kernel_rfl) (by kernel_rfl) (fun _ _ _ h => h) (yielded_mk _ _ _ rfl _ rfl rfl) (fun w HS => r_mv) HS ?_
     refine t_takeg 5 rfl (by kernel_rfl) (by kernel_rfl) (by kernel_rfl) (fun _ _ _ h => h) (yielded_mk _ _ _ rfl _ rfl rfl) (fun w HS => r_mv) HS ?_
     refine t_takeg 6 rfl (by kernel_rfl) (by kernel_rfl) (by kernel_rfl) (fun _ _ _ h => h) (yielded_mk _ _ _ rfl _ rfl rfl) (fun w HS => r_bin (a := 1) (b := 1) rfl rfl (fun _ => b_neqB false (decide_eq_false (by decide)))) HS ?_
     refine t_take 7 rfl (by kernel_rfl) (by kernel_rfl) (by kernel_rfl) (fun _ _ _ h => h) (fun w HS => r_pick rfl) HS ?_
     refine t_take 8 rfl (by kernel_rfl) (by kernel_rfl) (by kernel_rfl) (fun _ _ _ h => h) (fun w HS => r_mv) HS ?_
     refine t_takeg 9 rfl (by kernel_rfl) (by kernel_rfl) (by kernel_rfl) (fun _ _ _ h => h) (yielded_mk _ _ _ rfl _ rfl rfl) (fun w HS => r_ldA (C := [V64 (0 : UInt64), .string ⟨(([] : List UInt8)).toArray⟩, V8 (0 : UInt8), VI 0, VI 0, .slice none 0 0] ++ (List.replicate 32 (0 : UInt8)).map V8) HS (i := 5) rfl rfl rt76 (by rw [List.length_append, List.length_map, (show (List.replicate 32 (0 : UInt8)).length = 32 from (List.length_replicate ..))]; rfl)) HS ?_
     refine t_takeg 10 rfl (by kernel_rfl) (by kernel_rfl) (by kernel_rfl) (fun _ _ _ h => h) (yielded_mk _ _ _ rfl _ rfl rfl) (fun w HS => r_ldA (C := [V64 (0 : UInt64), .string ⟨(([] : List UInt8)).toArray⟩, V8 (0 : UInt8), VI 0, VI 0, .slice none 0 0] ++ (List.replicate 32 (0 : UInt8)).map V8) HS (i := 6) rfl rfl rt76 (by rw [List.length_append, List.length_map, (show (List.replicate 32 (0 : UInt8)).length = 32 from (List.length_replicate ..))]; rfl)) HS ?_
     refine t_stepg 11 rfl (by kernel_rfl) (yielded_mk _ _ _ rfl _ rfl rfl) (o_callR Try.func74 rfl rfl rfl (same14_ret _ (⟨(0 : UInt64), ([] : List UInt8), (0 : UInt8), 0, 0, ⟨none, 0, 0, []⟩, List.replicate 32 (0 : UInt8)⟩ : Tok) (⟨(0 : UInt64), ([] : List UInt8), (0 : UInt8), 0, 0, ⟨none, 0, 0, []⟩, List.replicate 32 (0 : UInt8)⟩ : Tok) (Gl.ok_nil _) (show (List.replicate 32 (0 : UInt8)).length = 32 from (List.length_replicate ..)) (Gl.ok_nil _) (show (List.replicate 32 (0 : UInt8)).length = 32 from (List.length_replicate ..))) ?_)
     rintro _ w ⟨rfl, Hc⟩
     replace H : Hp _ w _ ([_, _, _, _, _, _, _, _, _]) := H.call Hc
     clear Hc
     have hk93 : (sameT (⟨(0 : UInt64), ([] : List UInt8), (0 : UInt8), 0, 0, ⟨none, 0, 0, []⟩, List.replicate 32 (0 : UInt8)⟩ : Tok) (⟨(0 : UInt64), ([] : List UInt8), (0 : UInt8), 0, 0, ⟨none, 0, 0, []⟩, List.replicate 32 (0 : UInt8)⟩ : Tok)) = true := (decide_eq_true (by first | rfl | (have e := hcs0 (by omega); show (⟨t.serial, t.tenant, t.rights, t.from_, t.until_, [], hmac key (framed [t.head])⟩ : TV) = ⟨t.serial, t.tenant, t.rights, t.from_, t.until_, t.cs.l, hmac key (framed [t.head])⟩; rw [e])))
     refine ⟨H, ?_⟩
     replace HS := H
     refine t_takeg 12 rfl (by kernel_rfl) (by kernel_rfl) (by kernel_rfl) (fun _ _ _ h => h) (yielded_mk _ _ _ rfl _ rfl rfl) (fun w HS => r_not rfl) HS ?_
     refine t_take 13 rfl (by kernel_rfl) (by kernel_rfl) (by kernel_rfl) (fun _ _ _ h => h) (fun w HS => r_pick rfl) HS ?_
     refine t_take 14 rfl (by kernel_rfl) (by kernel_rfl) (by kernel_rfl) (fun _ _ _ h => h) (fun w HS => r_mv) HS ?_
     refine t_takeg 15 rfl (by kernel_rfl) (by kernel_rfl) (by kernel_rfl) (fun _ _ _ h => h) (yielded_mk _ _ _ rfl _ rfl (by exact congrArg Value.bool (congrArg not hk93))) (fun w HS => r_ldA (C := [V64 (0 : UInt64), .string ⟨(([] : List UInt8)).toArray⟩, V8 (0 : UInt8), VI 0, VI 0, .slice none 0 0] ++ (List.replicate 32 (0 : UInt8)).map V8) HS (i := 7) rfl rfl rt76 (by rw [List.length_append, List.length_map, (show (List.replicate 32 (0 : UInt8)).length = 32 from (List.length_replicate ..))]; rfl)) HS ?_
     refine t_takeg 16 rfl (by kernel_rfl) (by kernel_rfl) (by kernel_rfl) (fun _ _ _ h => h) (yielded_mk _ _ _ rfl _ rfl (by exact congrArg Value.bool (congrArg not hk93))) (fun w HS => r_ldA (C := [V64 (0 : UInt64), .string ⟨(([] : List UInt8)).toArray⟩, V8 (0 : UInt8), VI 0, VI 0, .slice none 0 0] ++ (List.replicate 32 (0 : UInt8)).map V8) HS (i := 8) rfl rfl rt76 (by rw [List.length_append, List.length_map, (show (List.replicate 32 (0 : UInt8)).length = 32 from (List.length_replicate ..))]; rfl)) HS ?_
     refine t_stepg 17 rfl (by kernel_rfl) (yielded_mk _ _ _ rfl _ rfl (by exact congrArg Value.bool (congrArg not hk93))) (o_callR Try.func74 rfl rfl rfl (same14_ret _ (⟨(0 : UInt64), ([] : List UInt8), (0 : UInt8), 0, 0, ⟨none, 0, 0, []⟩, List.replicate 32 (0 : UInt8)⟩ : Tok) (⟨(0 : UInt64), ([] : List UInt8), (0 : UInt8), 0, 0, ⟨none, 0, 0, []⟩, List.replicate 32 (0 : UInt8)⟩ : Tok) (Gl.ok_nil _) (show (List.replicate 32 (0 : UInt8)).length = 32 from (List.length_replicate ..)) (Gl.ok_nil _) (show (List.replicate 32 (0 : UInt8)).length = 32 from (List.length_replicate ..))) ?_)
     rintro _ w ⟨rfl, Hc⟩
     replace H : Hp _ w _ ([_, _, _, _, _, _, _, _, _]) := H.call Hc
     clear Hc
     refine ⟨H, ?_⟩
     replace HS := H
     refine t_takeg 18 rfl (by kernel_rfl) (by kernel_rfl) (by kernel_rfl) (fun _ _ _ h => h) (yielded_mk _ _ _ rfl _ rfl (by exact congrArg Value.bool (congrArg not hk93))) (fun w HS => r_not rfl) HS ?_
     refine t_take 19 rfl (by kernel_rfl) (by kernel_rfl) (by kernel_rfl) (fun _ _ _ h => h) (fun w HS => r_pick (b := false) (congrArg Value.bool (congrArg not hk93))) HS ?_
     refine t_take 20 rfl (by kernel_rfl) (by kernel_rfl) (by kernel_rfl) (fun _ _ _ h => h) (fun w HS => r_mv) HS ?_
     refine t_takeg 21 rfl (by kernel_rfl) (by kernel_rfl) (by kernel_rfl) (fun _ _ _ h => h) (yielded_mk _ _ _ rfl _ rfl (by exact congrArg Value.bool (congrArg not hk93))) (fun w HS => r_mv) HS ?_
     refine t_takeg 22 rfl (by kernel_rfl) (by kernel_rfl) (by kernel_rfl) (fun _ _ _ h => h) (yielded_mk _ _ _ rfl _ rfl (by exact congrArg Value.bool (congrArg not hk93))) (fun w HS => r_mv) HS ?_
     refine t_takeg 23 rfl (by kernel_rfl) (by kernel_rfl) (by kernel_rfl) (fun _ _ _ h => h) (yielded_mk _ _ _ rfl _ rfl (by exact congrArg Value.bool (congrArg not hk93))) (fun w HS => r_bin (a := (((effF (t.rights) (t.until_) t.cs.l).1).toNat : Int)) (b := (((effF (t.rights) (t.until_) t.cs.l).1).toNat : Int)) rfl rfl (fun _ => b_neqB false (decide_eq_false (fun h => h rfl)))) HS ?_
     refine t_take 24 rfl (by kernel_rfl) (by kernel_rfl) (by kernel_rfl) (fun _ _ _ h => h) (fun w HS => r_pick (b := false) (congrArg Value.bool (congrArg not hk93))) HS ?_
     refine t_take 25 rfl (by kernel_rfl) (by kernel_rfl) (by kernel_rfl) (fun _ _ _ h => h) (fun w HS => r_mv) HS ?_
     refine t_takeg 26 rfl (by kernel_rfl) (by kernel_rfl) (by kernel_rfl) (fun _ _ _ h => h) (yielded_mk _ _ _ rfl _ rfl rfl) (fun w HS => r_mv) HS ?_
     refine t_takeg 27 rfl (by kernel_rfl) (by kernel_rfl) (by kernel_rfl) (fun _ _ _ h => h) (yielded_mk _ _ _ rfl _ rfl rfl) (fun w HS => r_mv) HS ?_
     refine t_takeg 28 rfl (by kernel_rfl) (by kernel_rfl) (by kernel_rfl) (fun _ _ _ h => h) (yielded_mk _ _ _ rfl _ rfl rfl) (fun w HS => r_bin (a := (effF (t.rights) (t.until_) t.cs.l).2) (b := (effF (t.rights) (t.until_) t.cs.l).2) rfl rfl (fun _ => b_neqB false (decide_eq_false (fun h => h rfl)))) HS ?_
     refine t_take 29 rfl (by kernel_rfl) (by kernel_rfl) (by kernel_rfl) (fun _ _ _ h => h) (fun w HS => r_pick rfl) HS ?_
     refine t_take 30 rfl (by kernel_rfl) (by kernel_rfl) (by kernel_rfl) (fun _ _ _ h => h) (fun w HS => r_mv) HS ?_
     refine t_takeg 31 rfl (by kernel_rfl) (by kernel_rfl) (by kernel_rfl) (fun _ _ _ h => h) (yielded_mk _ _ _ rfl _ rfl rfl) (fun w HS => r_ldA (C := [V64 t.serial, .string ⟨(t.tenant).toArray⟩, V8 t.rights, VI t.from_, VI t.until_, (⟨some ⟨b5, 0, none⟩, t.cs.len, t.cs.len + 2, t.cs.l⟩ : Gl Cav).v] ++ (t.tag).map V8) HS (i := 4) rfl rfl rt76 (by rw [List.length_append, List.length_map, (show (t.tag).length = 32 from htag)]; rfl)) HS ?_
     refine t_takeg 33 rfl (by kernel_rfl) (by kernel_rfl) (by kernel_rfl) (fun _ _ _ h => h) (yielded_mk _ _ _ rfl _ rfl rfl) (fun w HS => r_ldA (C := [V64 t.serial, .string ⟨(t.tenant).toArray⟩, V8 t.rights, VI t.from_, VI t.until_, t.cs.v] ++ (t.tag).map V8) HS (i := 1) rfl rfl rt76 (by rw [List.length_append, List.length_map, (show (t.tag).length = 32 from htag)]; rfl)) HS ?_
     refine t_stepg 32 rfl (by kernel_rfl) (yielded_mk _ _ _ rfl _ rfl rfl) (o_callR Try.func75 rfl rfl rfl (may_ret _ (⟨t.serial, t.tenant, t.rights, t.from_, t.until_, (⟨some ⟨b5, 0, none⟩, t.cs.len, t.cs.len + 2, t.cs.l⟩ : Gl Cav), t.tag⟩ : Tok) (show Gl.ok cavE 2 (⟨some ⟨b5, 0, none⟩, t.cs.len, t.cs.len + 2, t.cs.l⟩ : Gl Cav) _ from glBlk ([((0 : UInt8), (0 : Int)), ((0 : UInt8), (0 : Int))]) (H.has (.blk b5 (((t.cs.l ++ [((0 : UInt8), (0 : Int))]) ++ [((0 : UInt8), (0 : Int))]).flatMap cavE) 78) (by simp)) (by simp) (fun _ _ => rfl) hcl (by omega) (by omega)) (show (t.tag).length = 32 from htag) (by first | omega | (dsimp only; omega) | simp)) ?_)
     rintro _ w ⟨rfl, Hc⟩
     replace H : Hp _ w _ ([_, _, _, _, _, _, _, _, _]) := H.call Hc
     clear Hc
     refine ⟨H, ?_⟩
     replace HS := H
     refine t_stepg 34 rfl (by kernel_rfl) (yielded_mk _ _ _ rfl _ rfl rfl) (o_callR Try.func76 rfl rfl rfl (may14_ret _ t (hc.up H) (show (t.tag).length = 32 from htag) (by first | omega | (dsimp only; omega) | simp)) ?_)
     rintro _ w ⟨rfl, Hc⟩
     replace H : Hp _ w _ ([_, _, _, _, _, _, _, _, _]) := H.call Hc
     clear Hc
     refine ⟨H, ?_⟩
     replace HS := H
     refine t_takeg 35 rfl (by kernel_rfl) (by kernel_rfl) (by kernel_rfl) (fun _ _ _ h => h) (yielded_mk _ _ _ rfl _ rfl rfl) (fun w HS => r_bne Try.underlying4 rfl rfl) HS ?_
     have hk94 : (!((mayT (⟨t.serial, t.tenant, t.rights, t.from_, t.until_, (⟨some ⟨b5, 0, none⟩, t.cs.len, t.cs.len + 2, t.cs.l⟩ : Gl Cav), t.tag⟩ : Tok)) == (mayT t))) = false := (by show (!(mayT t == mayT t)) = false; simp)
     refine t_take 36 rfl (by kernel_rfl) (by kernel_rfl) (by kernel_rfl) (fun _ _ _ h => h) (fun w HS => r_pick rfl) HS ?_
     refine t_take 37 rfl (by kernel_rfl) (by kernel_rfl) (by kernel_rfl) (fun _ _ _ h => h) (fun w HS => r_mv) HS ?_
     refine t_takeg 38 rfl (by kernel_rfl) (by kernel_rfl) (by kernel_rfl) (fun _ _ _ h => h) (yielded_mk _ _ _ rfl _ rfl (by exact congrArg Value.bool hk94)) (fun w HS => r_ldAA (l := key) HS (i := 0) rfl rfl rt31 (show (key).length = 32 from hk)) HS ?_
     refine t_takeg 39 rfl (by kernel_rfl) (by kernel_rfl) (by kernel_rfl) (fun _ _ _ h => h) (yielded_mk _ _ _ rfl _ rfl (by exact congrArg Value.bool hk94)) (fun w HS => r_ldA (C := [V64 t.serial, .string ⟨(t.tenant).toArray⟩, V8 t.rights, VI t.from_, VI t.until_, (⟨some ⟨b5, 0, none⟩, t.cs.len, t.cs.len + 2, t.cs.l⟩ : Gl Cav).v] ++ (t.tag).map V8) HS (i := 4) rfl rfl rt76 (by rw [List.length_append, List.length_map, (show (t.tag).length = 32 from htag)]; rfl)) HS ?_
     refine t_takeg 40 rfl (by kernel_rfl) (by kernel_rfl) (by kernel_rfl) (fun _ _ _ h => h) (yielded_mk _ _ _ rfl _ rfl (by exact congrArg Value.bool hk94)) (fun w HS => r_mv) HS ?_
     refine t_takeg 42 rfl (by kernel_rfl) (by kernel_rfl) (by kernel_rfl) (fun _ _ _ h => h) (yielded_mk _ _ _ rfl _ rfl (by exact congrArg Value.bool hk94)) (fun w HS => r_ldAA (l := key) HS (i := 0) rfl rfl rt31 (show (key).length = 32 from hk)) HS ?_
     refine t_takeg 43 rfl (by kernel_rfl) (by kernel_rfl) (by kernel_rfl) (fun _ _ _ h => h) (yielded_mk _ _ _ rfl _ rfl (by exact congrArg Value.bool hk94)) (fun w HS => r_ldA (C := [V64 t.serial, .string ⟨(t.tenant).toArray⟩, V8 t.rights, VI t.from_, VI t.until_, t.cs.v] ++ (t.tag).map V8) HS (i := 1) rfl rfl rt76 (by rw [List.length_append, List.length_map, (show (t.tag).length = 32 from htag)]; rfl)) HS ?_
     refine t_takeg 44 rfl (by kernel_rfl) (by kernel_rfl) (by kernel_rfl) (fun _ _ _ h => h) (yielded_mk _ _ _ rfl _ rfl (by exact congrArg Value.bool hk94)) (fun w HS => r_mv) HS ?_
     refine t_stepg 41 rfl (by kernel_rfl) (yielded_mk _ _ _ rfl _ rfl (by exact congrArg Value.bool hk94)) (o_callR Try.func77 rfl rfl rfl (check14_ret _ (key) (show (key).length = 32 from hk) (⟨t.serial, t.tenant, t.rights, t.from_, t.until_, (⟨some ⟨b5, 0, none⟩, t.cs.len, t.cs.len + 2, t.cs.l⟩ : Gl Cav), t.tag⟩ : Tok) (show Gl.ok cavE 2 (⟨some ⟨b5, 0, none⟩, t.cs.len, t.cs.len + 2, t.cs.l⟩ : Gl Cav) _ from glBlk ([((0 : UInt8), (0 : Int)), ((0 : UInt8), (0 : Int))]) (H.has (.blk b5 (((t.cs.l ++ [((0 : UInt8), (0 : Int))]) ++ [((0 : UInt8), (0 : Int))]).flatMap cavE) 78) (by simp)) (by simp) (fun _ _ => rfl) hcl (by omega) (by omega)) (show (t.tag).length = 32 from htag) (by first | omega | (dsimp only; omega) | simp) (now)) ?_)
     rintro _ w ⟨rfl, Hc⟩
     replace H : Hp _ w _ ([_, _, _, _, _, _, _, _, _]) := H.call Hc
     clear Hc
     refine ⟨H, ?_⟩
     replace HS := H
     refine t_stepg 45 rfl (by kernel_rfl) (yielded_mk _ _ _ rfl _ rfl (by exact congrArg Value.bool hk94)) (o_callR Try.func78 rfl rfl rfl (check14r_ret _ (key) (show (key).length = 32 from hk) t (hc.up H) (show (t.tag).length = 32 from htag) (by first | omega | (dsimp only; omega) | simp) hb (now)) ?_)
     rintro _ w ⟨rfl, Hc⟩
     replace H : Hp _ w _ ([_, _, _, _, _, _, _, _, _]) := H.call Hc
     clear Hc
     refine ⟨H, ?_⟩
     replace HS := H
     refine t_takeg 46 rfl (by kernel_rfl) (by kernel_rfl) (by kernel_rfl) (fun _ _ _ h => h) (yielded_mk _ _ _ rfl _ rfl (by exact congrArg Value.bool hk94)) (fun w HS => r_bin (a := checkT (key) (⟨t.serial, t.tenant, t.rights, t.from_, t.until_, (⟨some ⟨b5, 0, none⟩, t.cs.len, t.cs.len + 2, t.cs.l⟩ : Gl Cav), t.tag⟩ : Tok) (now)) (b := checkT (key) t (now)) rfl rfl (fun _ => b_neqB false (decide_eq_false (fun h => h rfl)))) HS ?_
     refine t_take 47 rfl (by kernel_rfl) (by kernel_rfl) (by kernel_rfl) (fun _ _ _ h => h) (fun w HS => r_pick (b := false) (congrArg Value.bool hk94)) HS ?_
     refine t_take 48 rfl (by kernel_rfl) (by kernel_rfl) (by kernel_rfl) (fun _ _ _ h => h) (fun w HS => r_mv) HS ?_
     refine t_takeg 49 rfl (by kernel_rfl) (by kernel_rfl) (by kernel_rfl) (fun _ _ _ h => h) (yielded_mk _ _ _ rfl _ rfl rfl) (fun w HS => r_ldA (C := [V64 t.serial, .string ⟨(t.tenant).toArray⟩, V8 t.rights, VI t.from_, VI t.until_, (⟨some ⟨b5, 0, none⟩, t.cs.len, t.cs.len + 2, t.cs.l⟩ : Gl Cav).v] ++ (t.tag).map V8) HS (i := 4) rfl rfl rt76 (by rw [List.length_append, List.length_map, (show (t.tag).length = 32 from htag)]; rfl)) HS ?_
     refine t_takeg 50 rfl (by kernel_rfl) (by kernel_rfl) (by kernel_rfl) (fun _ _ _ h => h) (yielded_mk _ _ _ rfl _ rfl rfl) (fun w HS => r_ldA (C := [V64 t.serial, .string ⟨(t.tenant).toArray⟩, V8 t.rights, VI t.from_, VI t.until_, t.cs.v] ++ (t.tag).map V8) HS (i := 1) rfl rfl rt76 (by rw [List.length_append, List.length_map, (show (t.tag).length = 32 from htag)]; rfl)) HS ?_
     refine t_stepg 51 rfl (by kernel_rfl) (yielded_mk _ _ _ rfl _ rfl rfl) (o_callR Try.func74 rfl rfl rfl (same14_ret _ (⟨t.serial, t.tenant, t.rights, t.from_, t.until_, (⟨some ⟨b5, 0, none⟩, t.cs.len, t.cs.len + 2, t.cs.l⟩ : Gl Cav), t.tag⟩ : Tok) t (show Gl.ok cavE 2 (⟨some ⟨b5, 0, none⟩, t.cs.len, t.cs.len + 2, t.cs.l⟩ : Gl Cav) _ from glBlk ([((0 : UInt8), (0 : Int)), ((0 : UInt8), (0 : Int))]) (H.has (.blk b5 (((t.cs.l ++ [((0 : UInt8), (0 : Int))]) ++ [((0 : UInt8), (0 : Int))]).flatMap cavE) 78) (by simp)) (by simp) (fun _ _ => rfl) hcl (by omega) (by omega)) (show (t.tag).length = 32 from htag) (hc.up H) (show (t.tag).length = 32 from htag)) ?_)
     rintro _ w ⟨rfl, Hc⟩
     replace H : Hp _ w _ ([_, _, _, _, _, _, _, _, _]) := H.call Hc
     clear Hc
     have hk95 : (sameT (⟨t.serial, t.tenant, t.rights, t.from_, t.until_, (⟨some ⟨b5, 0, none⟩, t.cs.len, t.cs.len + 2, t.cs.l⟩ : Gl Cav), t.tag⟩ : Tok) t) = true := (decide_eq_true rfl)
     refine ⟨H, ?_⟩
     replace HS := H
     refine t_takeg 52 rfl (by kernel_rfl) (by kernel_rfl) (by kernel_rfl) (fun _ _ _ h => h) (yielded_mk _ _ _ rfl _ rfl rfl) (fun w HS => r_not rfl) HS ?_
     refine t_take 53 rfl (by kernel_rfl) (by kernel_rfl) (by kernel_rfl) (fun _ _ _ h => h) (fun w HS => r_pick rfl) HS ?_
     refine t_done (by kernel_rfl) ?_
     clear HS
     repeat refine c_seq ?_
     refine c_no (by exact congrArg Value.bool (congrArg not hk95)) ?_
     refine c_skip ?_
     repeat refine c_seq ?_
     refine c_region ?_
     refine l_op (o_val (r_as) ?_)
     first | refine l_end ?_ | refine l_nil ?_
     repeat refine c_seq ?_
     refine c_block ?_
     repeat refine c_seq ?_
     refine c_loop (fun (j : Nat) => [(3, VI now), (4, .pointer (some ⟨b1, 0, none⟩)), (5, .pointer (some ⟨b2, 0, none⟩)), (6, .pointer (some ⟨b3, 0, none⟩)), (9, .pointer (some ⟨b6, 0, none⟩)), (10, VI (i : Int)), (15, .pointer (some ⟨b91, 0, none⟩)), (23, VI (j : Int))])
       (fun (j : Nat) w => (j = 0) ∧ Hp w0 w [] ([.blk b1 ((key).map V8) 31, .blk b2 ([V64 t.serial, .string ⟨(t.tenant).toArray⟩, V8 t.rights, VI t.from_, VI t.until_, t.cs.v] ++ (t.tag).map V8) 76, .blk b3 ([V8 c.1, VI c.2]) 78, .blk b5 (((t.cs.l ++ [((0 : UInt8), (0 : Int))]) ++ [((0 : UInt8), (0 : Int))]).flatMap cavE) 78, .blk b6 ([V64 t.serial, .string ⟨(t.tenant).toArray⟩, V8 t.rights, VI t.from_, VI t.until_, (⟨some ⟨b5, 0, none⟩, t.cs.len, t.cs.len + 2, t.cs.l⟩ : Gl Cav).v] ++ (t.tag).map V8) 76, .blk b89 ([V64 (0 : UInt64), .string ⟨(([] : List UInt8)).toArray⟩, V8 (0 : UInt8), VI 0, VI 0, .slice none 0 0] ++ (List.replicate 32 (0 : UInt8)).map V8) 76, .blk b90 ([V64 (0 : UInt64), .string ⟨(([] : List UInt8)).toArray⟩, V8 (0 : UInt8), VI 0, VI 0, .slice none 0 0] ++ (List.replicate 32 (0 : UInt8)).map V8) 76, .blk b91 ([V64 (0 : UInt64), .string ⟨(([] : List UInt8)).toArray⟩, V8 (0 : UInt8), VI 0, VI 0, .slice none 0 0] ++ (List.replicate 32 (0 : UInt8)).map V8) 76, .blk b92 ([V64 (0 : UInt64), .string ⟨(([] : List UInt8)).toArray⟩, V8 (0 : UInt8), VI 0, VI 0, .slice none 0 0] ++ (List.replicate 32 (0 : UInt8)).map V8) 76]))
       (fun (j : Nat) => 0) 0 ⟨rfl, rfl, rfl, rfl, rfl, rfl, rfl, rfl, trivial⟩ ⟨rfl, H⟩ ?_
     clear H
     rintro j τ w ⟨hj, H⟩
     repeat refine c_seq ?_
     refine c_region ?_
     refine l_op (o_val (r_mv) ?_)
     refine l_op (o_val (r_fa rfl fo76_5) ?_)
     refine l_op (o_val (r_ld (v := .slice none 0 0) H (i := 7) rfl rfl ct74 rfl) ?_)
     refine l_op (o_val (r_lens el74 rfl) ?_)
     refine l_op (o_val (r_bin (a := (j : Int)) (b := 0) rfl rfl (fun _ => b_lssB false (decide_eq_false (by omega)))) ?_)
     first | refine l_end ?_ | refine l_nil ?_
     repeat refine c_seq ?_
     refine c_no rfl ?_
     refine c_exit ?_
     repeat refine c_seq ?_
     refine wp_held (fun w => Hp w0 w [] [.blk b1 ((key).map V8) 31, .blk b2 ([V64 t.serial, .string ⟨(t.tenant).toArray⟩, V8 t.rights, VI t.from_, VI t.until_, t.cs.v] ++ (t.tag).map V8) 76, .blk b3 ([V8 c.1, VI c.2]) 78, .blk b5 (((t.cs.l ++ [((0 : UInt8), (0 : Int))]) ++ [((0 : UInt8), (0 : Int))]).flatMap cavE) 78, .blk b6 ([V64 t.serial, .string ⟨(t.tenant).toArray⟩, V8 t.rights, VI t.from_, VI t.until_, (⟨some ⟨b5, 0, none⟩, t.cs.len, t.cs.len + 2, t.cs.l⟩ : Gl Cav).v] ++ (t.tag).map V8) 76, .blk b89 ([V64 (0 : UInt64), .string ⟨(([] : List UInt8)).toArray⟩, V8 (0 : UInt8), VI 0, VI 0, .slice none 0 0] ++ (List.replicate 32 (0 : UInt8)).map V8) 76, .blk b90 ([V64 (0 : UInt64), .string ⟨(([] : List UInt8)).toArray⟩, V8 (0 : UInt8), VI 0, VI 0, .slice none 0 0] ++ (List.replicate 32 (0 : UInt8)).map V8) 76, .blk b91 ([V64 (0 : UInt64), .string ⟨(([] : List UInt8)).toArray⟩, V8 (0 : UInt8), VI 0, VI 0, .slice none 0 0] ++ (List.replicate 32 (0 : UInt8)).map V8) 76, .blk b92 ([V64 (0 : UInt64), .string ⟨(([] : List UInt8)).toArray⟩, V8 (0 : UInt8), VI 0, VI 0, .slice none 0 0] ++ (List.replicate 32 (0 : UInt8)).map V8) 76]) mixed ?_
     replace H := H.drew
     have HS := H
     refine t_take 0 rfl (by kernel_rfl) (by kernel_rfl) (by kernel_rfl) (fun _ _ _ h => h) (fun w HS => r_fa rfl fo76_5) HS ?_
     refine t_take 1 rfl (by kernel_rfl) (by kernel_rfl) (by kernel_rfl) (fun _ _ _ h => h) (fun w HS => r_ld (v := (⟨some ⟨b5, 0, none⟩, t.cs.len, t.cs.len + 2, t.cs.l⟩ : Gl Cav).v) HS (i := 4) rfl rfl ct74 rfl) HS ?_
     refine t_take 2 rfl (by kernel_rfl) (by kernel_rfl) (by kernel_rfl) (fun _ _ _ h => h) (fun w HS => r_ldA (C := [V64 t.serial, .string ⟨(t.tenant).toArray⟩, V8 t.rights, VI t.from_, VI t.until_, (⟨some ⟨b5, 0, none⟩, t.cs.len, t.cs.len + 2, t.cs.l⟩ : Gl Cav).v] ++ (t.tag).map V8) HS (i := 4) rfl rfl rt76 (by rw [List.length_append, List.length_map, (show (t.tag).length = 32 from htag)]; rfl)) HS ?_
     by_cases hc96 : t.cs.len = 0
     ·
      refine t_step 3 rfl (by kernel_rfl) (o_callR Try.func79 rfl rfl rfl (cap2_z _ (⟨t.serial, t.tenant, t.rights, t.from_, t.until_, (⟨some ⟨b5, 0, none⟩, t.cs.len, t.cs.len + 2, t.cs.l⟩ : Gl Cav), t.tag⟩ : Tok) (show Gl.ok cavE 2 (⟨some ⟨b5, 0, none⟩, t.cs.len, t.cs.len + 2, t.cs.l⟩ : Gl Cav) _ from glBlk ([((0 : UInt8), (0 : Int)), ((0 : UInt8), (0 : Int))]) (H.has (.blk b5 (((t.cs.l ++ [((0 : UInt8), (0 : Int))]) ++ [((0 : UInt8), (0 : Int))]).flatMap cavE) 78) (by simp)) (by simp) (fun _ _ => rfl) hcl (by omega) (by omega)) (show (t.tag).length = 32 from htag) (by (try dsimp only); omega)) ?_)
      rintro _ w ⟨rfl, Hc⟩
      replace H : Hp _ w _ ([_, _, _, _, _, _, _, _, _]) := H.call Hc
      clear Hc
      refine ⟨H, ?_⟩
      replace HS := H
      refine t_take 4 rfl (by kernel_rfl) (by kernel_rfl) (by kernel_rfl) (fun _ _ _ h => h) (fun w HS => r_slH (len := t.cs.len) (cap := t.cs.len + 2) (h := 0) (m := t.cs.len + 2) (hv := some (VI 0)) rfl el74 rfl rfl rfl (fun w => by exact sbh (0) (by omega) (by omega) w)) HS ?_
      refine t_take 5 rfl (by kernel_rfl) (by kernel_rfl) (by kernel_rfl) (fun _ _ _ h => h) (fun w HS => r_as) HS ?_
      refine t_done (by kernel_rfl) ?_
      clear HS
      repeat refine c_seq ?_
      refine c_region ?_
      refine l_op (o_val (r_fa rfl fo76_5) ?_)
      refine l_op (o_val (r_ld (v := t.cs.v) H (i := 1) rfl rfl ct74 rfl) ?_)
      refine l_op (o_val (r_lens el74 rfl) ?_)
      refine l_op (o_val (r_bin (a := (t.cs.len : Int)) (b := 0) rfl rfl (fun _ => b_gtrB false (decide_eq_false (by omega)))) ?_)
      refine l_op (o_val (r_mv) ?_)
      refine l_no rfl rfl rfl rfl ?_
      refine l_no rfl rfl rfl rfl ?_
      refine l_no rfl rfl rfl rfl ?_
      refine l_no rfl rfl rfl rfl ?_
      refine l_no rfl rfl rfl rfl ?_
      refine l_no rfl rfl rfl rfl ?_
      refine l_no rfl rfl rfl rfl ?_
      refine l_no rfl rfl rfl rfl ?_
      refine l_op (o_val (r_pick rfl) ?_)
      first | refine l_end ?_ | refine l_nil ?_
      repeat refine c_seq ?_
      refine c_no rfl ?_
      refine c_skip ?_
      repeat refine c_seq ?_
      refine c_region ?_
      refine l_op (o_val (r_mv) ?_)
      refine l_op (o_val (r_bin (a := (i : Int)) (b := 1) rfl rfl (fun _ => b_add (by omega) (by omega))) ?_)
      refine l_op (o_val (r_as) ?_)
      first | refine l_end ?_ | refine l_nil ?_
      refine round_end (i + 1) ?_ ?_ ?_
      · exact ⟨rfl, rfl, rfl, rfl, rfl, show VI ((i : Int) + 1) = VI ((i + 1 : Nat) : Int) from congrArg VI (by omega), trivial⟩
      · refine ⟨?_, ?_⟩
        · try dsimp only
          exact by omega
        · exact H.sub (.cons_cons _ (.cons_cons _ (.cons_cons _ (.cons_cons _ (.cons_cons _ (List.nil_sublist _))))))
      · show 2 - (i + 1 : Nat) < 2 - i; omega
     ·
      refine t_step 3 rfl (by kernel_rfl) (o_callR Try.func79 rfl rfl rfl (cap2_s _ (⟨t.serial, t.tenant, t.rights, t.from_, t.until_, (⟨some ⟨b5, 0, none⟩, t.cs.len, t.cs.len + 2, t.cs.l⟩ : Gl Cav), t.tag⟩ : Tok) (show Gl.ok cavE 2 (⟨some ⟨b5, 0, none⟩, t.cs.len, t.cs.len + 2, t.cs.l⟩ : Gl Cav) _ from glBlk ([((0 : UInt8), (0 : Int)), ((0 : UInt8), (0 : Int))]) (H.has (.blk b5 (((t.cs.l ++ [((0 : UInt8), (0 : Int))]) ++ [((0 : UInt8), (0 : Int))]).flatMap cavE) 78) (by simp)) (by simp) (fun _ _ => rfl) hcl (by omega) (by omega)) (show (t.tag).length = 32 from htag) (by (try dsimp only); omega) (by (try dsimp only); omega)) ?_)
      rintro _ w ⟨rfl, Hc⟩
      replace H : Hp _ w _ ([_, _, _, _, _, _, _, _, _]) := H.call Hc
      clear Hc
      refine ⟨H, ?_⟩
      replace HS := H
      refine t_take 4 rfl (by kernel_rfl) (by kernel_rfl) (by kernel_rfl) (fun _ _ _ h => h) (fun w HS => r_slH (len := t.cs.len) (cap := t.cs.len + 2) (h := t.cs.len + 1) (m := t.cs.len + 2) (hv := some (VI ((t.cs.len : Int) + 1))) rfl el74 rfl rfl rfl (fun w => by exact sbh (t.cs.len + 1) (by omega) (by omega) w)) HS ?_
      refine t_take 5 rfl (by kernel_rfl) (by kernel_rfl) (by kernel_rfl) (fun _ _ _ h => h) (fun w HS => r_as) HS ?_
      refine t_done (by kernel_rfl) ?_
      clear HS
      repeat refine c_seq ?_
      refine c_region ?_
      refine l_op (o_val (r_fa rfl fo76_5) ?_)
      refine l_op (o_val (r_ld (v := t.cs.v) H (i := 1) rfl rfl ct74 rfl) ?_)
      refine l_op (o_val (r_lens el74 rfl) ?_)
      refine l_op (o_val (r_bin (a := (t.cs.len : Int)) (b := 0) rfl rfl (fun _ => b_gtrB true (decide_eq_true (by omega)))) ?_)
      refine l_op (o_val (r_mv) ?_)
      refine l_yes rfl rfl rfl (o_val (r_mv) ?_)
      refine l_yes rfl rfl rfl (o_val (r_fa rfl fo76_5) ?_)
      refine l_yes rfl rfl rfl (o_val (r_ld (v := t.cs.v) H (i := 1) rfl rfl ct74 rfl) ?_)
      refine l_yes rfl rfl rfl (o_val (r_lens el74 rfl) ?_)
      have ah99 := ((show Gl.ok cavE 2 (⟨some ⟨b5, 0, none⟩, t.cs.len + 1, t.cs.len + 2, t.cs.l ++ [((0 : UInt8), (0 : Int))]⟩ : Gl Cav) _ from glBlk ([((0 : UInt8), (0 : Int))]) (H.has (.blk b5 (((t.cs.l ++ [((0 : UInt8), (0 : Int))]) ++ [((0 : UInt8), (0 : Int))]).flatMap cavE) 78) (by simp)) rfl (fun _ _ => rfl) (by rw [List.length_append, hcl]; rfl) (by omega) (by omega))).addr (by decide) (by first | omega | (dsimp only; omega))
      obtain ⟨ab97, ao98, ah99⟩ := ah99
      refine l_yes rfl rfl rfl (o_val (r_isN t.cs.len rfl rfl el74 ah99 (by omega) (by (try simp only [Sl.cut]); omega)) ?_)
      have he101 : ∃ c, (⟨some ⟨b5, 0, none⟩, t.cs.len + 1, t.cs.len + 2, t.cs.l ++ [((0 : UInt8), (0 : Int))]⟩ : Gl Cav).l[t.cs.len]? = some c := ⟨_, List.getElem?_eq_getElem (by have := ((show Gl.ok cavE 2 (⟨some ⟨b5, 0, none⟩, t.cs.len + 1, t.cs.len + 2, t.cs.l ++ [((0 : UInt8), (0 : Int))]⟩ : Gl Cav) _ from glBlk ([((0 : UInt8), (0 : Int))]) (H.has (.blk b5 (((t.cs.l ++ [((0 : UInt8), (0 : Int))]) ++ [((0 : UInt8), (0 : Int))]).flatMap cavE) 78) (by simp)) rfl (fun _ _ => rfl) (by rw [List.length_append, hcl]; rfl) (by omega) (by omega))).ln; (try dsimp only at this ⊢); omega)⟩
      obtain ⟨e100, he101⟩ := he101
      have hez102 := ((show Gl.ok cavE 2 (⟨some ⟨b5, 0, none⟩, t.cs.len + 1, t.cs.len + 2, t.cs.l ++ [((0 : UInt8), (0 : Int))]⟩ : Gl Cav) _ from glBlk ([((0 : UInt8), (0 : Int))]) (H.has (.blk b5 (((t.cs.l ++ [((0 : UInt8), (0 : Int))]) ++ [((0 : UInt8), (0 : Int))]).flatMap cavE) 78) (by simp)) rfl (fun _ _ => rfl) (by rw [List.length_append, hcl]; rfl) (by omega) (by omega))).sz e100 (List.mem_of_getElem? he101)
      refine l_yes rfl rfl rfl (o_val (r_ldRow (s := (⟨some ⟨b5, 0, none⟩, t.cs.len + 1, t.cs.len + 2, t.cs.l ++ [((0 : UInt8), (0 : Int))]⟩ : Gl Cav)) (k := t.cs.len) (show Gl.ok cavE 2 (⟨some ⟨b5, 0, none⟩, t.cs.len + 1, t.cs.len + 2, t.cs.l ++ [((0 : UInt8), (0 : Int))]⟩ : Gl Cav) _ from glBlk ([((0 : UInt8), (0 : Int))]) (H.has (.blk b5 (((t.cs.l ++ [((0 : UInt8), (0 : Int))]) ++ [((0 : UInt8), (0 : Int))]).flatMap cavE) 78) (by simp)) rfl (fun _ _ => rfl) (by rw [List.length_append, hcl]; rfl) (by omega) (by omega)) ah99 rfl rt78 (by decide) he101) ?_)
      refine l_yes rfl rfl rfl (o_val (r_bld' (cells := ([V8 (0 : UInt8), VI 0]).toArray) (pv := []) bd78 rfl rfl) ?_)
      refine l_yes rfl rfl rfl (o_val (r_neS egCav rfl rfl (eqCav e100 ((0 : UInt8), 0))) ?_)
      have hk103 : (!(decide (e100 = ((0 : UInt8), 0)))) = false := (by rw [decide_eq_true (snoc_get (l := t.cs.l) hcl he101 : e100 = ((0 : UInt8), (0 : Int)))]; rfl)
      refine l_op (o_val (r_pick rfl) ?_)
      first | refine l_end ?_ | refine l_nil ?_
      repeat refine c_seq ?_
      refine c_no (by exact congrArg Value.bool hk103) ?_
      refine c_skip ?_
      repeat refine c_seq ?_
      refine c_region ?_
      refine l_op (o_val (r_mv) ?_)
      refine l_op (o_val (r_bin (a := (i : Int)) (b := 1) rfl rfl (fun _ => b_add (by omega) (by omega))) ?_)
      refine l_op (o_val (r_as) ?_)
      first | refine l_end ?_ | refine l_nil ?_
      refine round_end (i + 1) ?_ ?_ ?_
      · exact ⟨rfl, rfl, rfl, rfl, rfl, show VI ((i : Int) + 1) = VI ((i + 1 : Nat) : Int) from congrArg VI (by omega), trivial⟩
      · refine ⟨?_, ?_⟩
        · try dsimp only
          exact by omega
        · exact H.sub (.cons_cons _ (.cons_cons _ (.cons_cons _ (.cons_cons _ (.cons_cons _ (List.nil_sublist _))))))
      · show 2 - (i + 1 : Nat) < 2 - i; omega
   ·
    repeat refine c_seq ?_
    refine c_no (by exact congrArg Value.bool (decide_eq_false hc7)) ?_
    refine c_exit ?_
    repeat refine c_seq ?_
    refine c_region ?_
    refine l_op (o_val (r_as) ?_)
    first | refine l_end ?_ | refine l_nil ?_
    refine c_ret ?_
    try dsimp only [Exit.then, Exit.inBlock]
    refine e_ret1 (v := .bool true) Try.results18 rfl ?_
    refine ⟨_, rfl, ?_⟩
    exact ⟨rfl, H.sub (List.nil_sublist _)⟩
  ·
   repeat refine c_seq ?_
   refine c_yes (by exact congrArg Value.bool (congrArg not (decide_eq_false hc4))) ?_
   repeat refine c_seq ?_
   refine c_region ?_
   refine l_op (o_val (r_as) ?_)
   first | refine l_end ?_ | refine l_nil ?_
   refine c_ret ?_
   try dsimp only [Exit.then, Exit.inBlock]
   refine e_ret1 (v := .bool true) Try.results18 rfl ?_
   refine ⟨_, rfl, ?_⟩
   exact ⟨rfl, H.sub (List.nil_sublist _)⟩
end Go.Proofs.Ytjmbbhnpfmblpaa
