/- Lemmas for the statement CapForged, part 5: rules of operations, walks through functions, plain laws. -/
import Derived.Test.YtjmbbhnpfmblpaaCapForgedG4
namespace Go.Proofs.Ytjmbbhnpfmblpaa
open Go
set_option maxRecDepth 100000
theorem bytes14_ok (w0 : World) (t : Tok) (hc : t.cs.ok cavE 2 w0) (htag : t.tag.length = 32) (hn : t.tenant.length ≤ 65536) (hb : t.bd) (hm : mayT t = true) :
    Ret Try.prog 82 [.agg ([V64 t.serial, .string ⟨(t.tenant).toArray⟩, V8 t.rights, VI t.from_, VI t.until_, t.cs.v] ++ (t.tag).map V8).toArray] w0 fun v w' => ∃ a n k, v = .tuple #[.slice (hd a) n k, VI 0] ∧ n ≤ t.tenant.length + 200 ∧ Hp w0 w' [] [.own a n k (t.bytes.map V8) 5 1] := by
  refine ret_mk Try.func82 rfl Try.ntmps82 (by simp) ?_
  have H := Hp.refl w0 []
  have hcl := hc.ln
  have hxl := hc.le
  have hxm := hc.mx
  have hmL : maxLen = 9223372036854775807 := rfl
  have h8 := ((mayT_iff t).1 hm).2.2.1
  repeat refine c_seq ?_
  refine c_region ?_
  refine l_op (o_box (v := .agg ([V64 t.serial, .string ⟨(t.tenant).toArray⟩, V8 t.rights, VI t.from_, VI t.until_, t.cs.v] ++ (t.tag).map V8).toArray) H rfl (fun b1 w H hb1 => ?_))
  replace H : Hp _ w _ ([.blk b1 ([V64 t.serial, .string ⟨(t.tenant).toArray⟩, V8 t.rights, VI t.from_, VI t.until_, t.cs.v] ++ (t.tag).map V8) 76]) := H
  refine l_op (o_val (r_as) ?_)
  refine l_op (o_val (r_as) ?_)
  first | refine l_end ?_ | refine l_nil ?_
  repeat refine c_seq ?_
  refine c_region ?_
  refine l_op (o_val (r_ldA (C := [V64 t.serial, .string ⟨(t.tenant).toArray⟩, V8 t.rights, VI t.from_, VI t.until_, t.cs.v] ++ (t.tag).map V8) H (i := 0) rfl rfl rt76 (by rw [List.length_append, List.length_map, (show (t.tag).length = 32 from htag)]; rfl)) ?_)
  refine l_op (o_callR Try.func76 rfl rfl rfl (may14_ret _ t (hc.up H) (show (t.tag).length = 32 from htag) (by first | omega | (dsimp only; omega) | simp)) ?_)
  rintro _ w ⟨rfl, Hc⟩
  replace H : Hp _ w _ ([_]) := H.call Hc
  clear Hc
  have hk2 : (mayT t) = true := hm
  refine l_op (o_val (r_not rfl) ?_)
  first | refine l_end ?_ | refine l_nil ?_
  repeat refine c_seq ?_
  refine c_no (by exact congrArg Value.bool (congrArg not hk2)) ?_
  refine c_skip ?_
  repeat refine c_seq ?_
  refine wp_held (fun w => Hp w0 w [] [.blk b1 ([V64 t.serial, .string ⟨(t.tenant).toArray⟩, V8 t.rights, VI t.from_, VI t.until_, t.cs.v] ++ (t.tag).map V8) 76]) mixed ?_
  replace H := H.drew
  have HS := H
  refine t_take 1 rfl (by kernel_rfl) (by kernel_rfl) (by kernel_rfl) (fun _ _ _ h => h) (fun w HS => r_ldA (C := [V64 t.serial, .string ⟨(t.tenant).toArray⟩, V8 t.rights, VI t.from_, VI t.until_, t.cs.v] ++ (t.tag).map V8) HS (i := 0) rfl rfl rt76 (by rw [List.length_append, List.length_map, (show (t.tag).length = 32 from htag)]; rfl)) HS ?_
  refine t_take 4 rfl (by kernel_rfl) (by kernel_rfl) (by kernel_rfl) (fun _ _ _ h => h) (fun w HS => r_fa rfl fo76_5) HS ?_
  refine t_take 5 rfl (by kernel_rfl) (by kernel_rfl) (by kernel_rfl) (fun _ _ _ h => h) (fun w HS => r_ld (v := t.cs.v) HS (i := 0) rfl rfl ct74 rfl) HS ?_
  refine t_take 6 rfl (by kernel_rfl) (by kernel_rfl) (by kernel_rfl) (fun _ _ _ h => h) (fun w HS => r_lens el74 rfl) HS ?_
  refine t_take 7 rfl (by kernel_rfl) (by kernel_rfl) (by kernel_rfl) (fun _ _ _ h => h) (fun w HS => r_conv (v := ((UInt8.ofNat t.cs.len).toNat : Int)) Try.underlying3 Try.underlying5 rfl (w_u8_N t.cs.len (by omega))) HS ?_
  refine t_all [0, 2, 8] (by kernel_rfl) (by simp) (all_cons (w_op 0 rfl ?_) (all_cons (w_op 2 rfl ?_) (all_cons (w_op 8 rfl ?_) (all_nil))))
  ·
   refine (o_bslB ([(1 : UInt8)]) H sl29 zc5 rfl rfl (by decide) (fun b3 w H hb3 => ?_))
   replace H : Hp _ w _ ([_, .own (some b3) 1 1 (([(1 : UInt8)]).map V8) 5 1]) := H
   refine ⟨H.sub (.cons_cons _ (List.nil_sublist _)), ?_⟩
   replace HS := H.sub (.cons_cons _ (List.nil_sublist _))
   refine t_all [2, 8] (by kernel_rfl) (by simp) (all_cons (w_op 2 rfl ?_) (all_cons (w_op 8 rfl ?_) (all_nil)))
   ·
    refine (o_callR Try.func126 rfl rfl rfl (head14_ret _ t (hc.up H) (show (t.tag).length = 32 from htag) (by first | omega | (dsimp only; omega) | simp) hb) ?_)
    rintro _ w ⟨a4, n5, c6, rfl, hn7, hh8, Hc⟩
    replace H : Hp _ w _ ([_, _, .own a4 n5 c6 ((t.head).map V8) 5 1]) := H.call Hc
    clear Hc
    try dsimp only at hn7
    refine ⟨H.sub (.cons_cons _ (List.nil_sublist _)), ?_⟩
    replace HS := H.sub (.cons_cons _ (List.nil_sublist _))
    refine t_all [3, 8] (by kernel_rfl) (by simp) (all_cons (w_op 3 rfl ?_) (all_cons (w_op 8 rfl ?_) (all_nil)))
    ·
     refine (o_appB (s := ⟨hd a4, n5, c6, t.head⟩) (l' := [(1 : UInt8)] ++ t.head) (len' := 1 + n5) rfl rfl H (i := 1) rfl sl29 Try.underlying29 rfl rfl (H.slOwn (i := 2) rfl) (by omega) (fun a9 c10 w H => ?_))
     replace H : Hp _ w _ ([_, .own a9 (1 + n5) c10 (([(1 : UInt8)] ++ t.head).map V8) 5 1, _]) := H
     refine ⟨H.sub (.cons_cons _ (List.nil_sublist _)), ?_⟩
     replace HS := H.sub (.cons_cons _ (List.nil_sublist _))
     refine t_step 8 rfl (by kernel_rfl) (o_bslB ([UInt8.ofNat t.cs.len]) H sl29 zc5 rfl rfl (by decide) (fun b11 w H hb11 => ?_))
     replace H : Hp _ w _ ([_, _, _, .own (some b11) 1 1 (([UInt8.ofNat t.cs.len]).map V8) 5 1]) := H
     refine ⟨H.sub (.cons_cons _ (List.nil_sublist _)), ?_⟩
     replace HS := H.sub (.cons_cons _ (List.nil_sublist _))
     refine t_step 9 rfl (by kernel_rfl) (o_appB (s := ⟨hd (some b11), 1, 1, [UInt8.ofNat t.cs.len]⟩) (l' := [(1 : UInt8)] ++ t.head ++ ([UInt8.ofNat t.cs.len])) (len' := 1 + n5 + 1) rfl rfl H (i := 1) rfl sl29 Try.underlying29 rfl rfl (H.slOwn (i := 3) rfl) (by omega) (fun a12 c13 w H => ?_))
     replace H : Hp _ w _ ([_, .own a12 (1 + n5 + 1) c13 (([(1 : UInt8)] ++ t.head ++ ([UInt8.ofNat t.cs.len])).map V8) 5 1, _, _]) := H
     refine ⟨H.sub (.cons_cons _ (List.nil_sublist _)), ?_⟩
     replace HS := H.sub (.cons_cons _ (List.nil_sublist _))
     refine t_take 10 rfl (by kernel_rfl) (by kernel_rfl) (by kernel_rfl) (fun _ _ _ h => h) (fun w HS => r_as) HS ?_
     refine t_done (by kernel_rfl) ?_
     clear HS
     repeat refine c_seq ?_
     refine c_region ?_
     refine l_op (o_val (r_as) ?_)
     first | refine l_end ?_ | refine l_nil ?_
     repeat refine c_seq ?_
     refine c_block ?_
     repeat refine c_seq ?_
     refine c_loop4 (fun (i : Nat) (a : Option Nat) (ln : Nat) (k : Nat) => [(1, .pointer (some ⟨b1, 0, none⟩)), (4, .slice (hd a) ln k), (5, VI (i : Int))])
       (fun (i : Nat) (a : Option Nat) (ln : Nat) (k : Nat) w => (i ≤ t.cs.len ∧ ln ≤ t.tenant.length + 66 + 9 * i) ∧ Hp w0 w [] ([.blk b1 ([V64 t.serial, .string ⟨(t.tenant).toArray⟩, V8 t.rights, VI t.from_, VI t.until_, t.cs.v] ++ (t.tag).map V8) 76, .own a ln k (([1] ++ t.head ++ [UInt8.ofNat t.cs.len] ++ cavsB (t.cs.l.take i)).map V8) 5 1, .own a4 n5 c6 ((t.head).map V8) 5 1, .own (some b11) 1 1 (([UInt8.ofNat t.cs.len]).map V8) 5 1]))
       (fun (i : Nat) (a : Option Nat) (ln : Nat) (k : Nat) => t.cs.len - i) 0 a12 (1 + n5 + 1) c13 ⟨rfl, rfl, rfl, trivial⟩ ⟨⟨Nat.zero_le _, by omega⟩, (by rw [show cavsB (t.cs.l.take 0) = [] from rfl, List.append_nil]; exact H)⟩ ?_
     clear H
     rintro i a ln k τ w ⟨⟨hi, hln⟩, H⟩
     repeat refine c_seq ?_
     refine c_region ?_
     refine l_op (o_val (r_mv) ?_)
     refine l_op (o_val (r_fa rfl fo76_5) ?_)
     refine l_op (o_val (r_ld (v := t.cs.v) H (i := 0) rfl rfl ct74 rfl) ?_)
     refine l_op (o_val (r_lens el74 rfl) ?_)
     refine l_op (o_val (r_bin (a := (i : Int)) (b := (t.cs.len : Int)) rfl rfl (fun _ => b_lss)) ?_)
     first | refine l_end ?_ | refine l_nil ?_
     by_cases hc14 : (i : Int) < (t.cs.len : Int)
     ·
      repeat refine c_seq ?_
      refine c_yes (by exact congrArg Value.bool (decide_eq_true hc14)) ?_
      refine c_skip ?_
      repeat refine c_seq ?_
      refine c_block ?_
      repeat refine c_seq ?_
      refine c_region ?_
      refine l_op (o_val (r_mv) ?_)
      refine l_op (o_val (r_fa rfl fo76_5) ?_)
      refine l_op (o_val (r_ld (v := t.cs.v) H (i := 0) rfl rfl ct74 rfl) ?_)
      refine l_op (o_val (r_mv) ?_)
      have ah17 := ((hc.up H)).addr (by decide) (by first | omega | (dsimp only; omega))
      obtain ⟨ab15, ao16, ah17⟩ := ah17
      refine l_op (o_val (r_isN i rfl rfl el74 ah17 (by omega) (by (try simp only [Sl.cut]); omega)) ?_)
      have he19 : ∃ c, t.cs.l[i]? = some c := ⟨_, List.getElem?_eq_getElem (by have := ((hc.up H)).ln; (try dsimp only at this ⊢); omega)⟩
      obtain ⟨e18, he19⟩ := he19
      have hez20 := ((hc.up H)).sz e18 (List.mem_of_getElem? he19)
      refine l_op (o_val (r_ldRow (s := t.cs) (k := i) (hc.up H) ah17 rfl rt78 (by decide) he19) ?_)
      refine l_op (o_callR Try.func120 rfl rfl rfl (caveat14_ret _ e18 (hb.cs _ (List.mem_of_getElem? (by assumption)))) ?_)
      rintro _ w ⟨a21, c22, rfl, Hc⟩
      replace H : Hp _ w _ ([_, _, _, _, .own a21 9 c22 ((cavB e18).map V8) 5 1]) := H.call Hc
      clear Hc
      refine l_op (o_appB (s := ⟨hd a21, 9, c22, cavB e18⟩) (l' := [1] ++ t.head ++ [UInt8.ofNat t.cs.len] ++ cavsB (t.cs.l.take i) ++ (cavB e18)) (len' := ln + 9) rfl rfl H (i := 1) rfl sl29 Try.underlying29 rfl rfl (H.slOwn (i := 4) rfl) (by omega) (fun a23 c24 w H => ?_))
      replace H : Hp _ w _ ([_, .own a23 (ln + 9) c24 (([1] ++ t.head ++ [UInt8.ofNat t.cs.len] ++ cavsB (t.cs.l.take i) ++ (cavB e18)).map V8) 5 1, _, _, _]) := H
      refine l_op (o_val (r_as) ?_)
      first | refine l_end ?_ | refine l_nil ?_
      repeat refine c_seq ?_
      refine c_region ?_
      refine l_op (o_val (r_mv) ?_)
      refine l_op (o_val (r_bin (a := (i : Int)) (b := 1) rfl rfl (fun _ => b_add (by omega) (by omega))) ?_)
      refine l_op (o_val (r_as) ?_)
      first | refine l_end ?_ | refine l_nil ?_
      rw [List.append_assoc, cavsB_succ t.cs.l i e18 he19] at H
      refine round_end (i + 1, a23, ln + 9, c24) ?_ ?_ ?_
      · exact ⟨rfl, rfl, show VI ((i : Int) + 1) = VI ((i + 1 : Nat) : Int) from congrArg VI (by omega), trivial⟩
      · refine ⟨?_, ?_⟩
        · try dsimp only
          exact ⟨by omega, by omega⟩
        · exact H.sub (.cons_cons _ (.cons_cons _ (.cons_cons _ (.cons_cons _ (List.nil_sublist _)))))
      · show t.cs.len - (i + 1 : Nat) < t.cs.len - i; omega
     ·
      repeat refine c_seq ?_
      refine c_no (by exact congrArg Value.bool (decide_eq_false hc14)) ?_
      refine c_exit ?_
      repeat refine c_seq ?_
      refine c_region ?_
      refine l_op (o_val (r_mv) ?_)
      refine l_op (o_val (r_fa rfl fo76_6) ?_)
      refine l_op (o_val (r_slAo (o := 6) (h := 32) (m := 32) (lv := none) (hv := none) (mv := none) rfl ar31 rfl rfl rfl (fun w => sbn w)) ?_)
      refine l_op (o_appB (s := (⟨some ⟨b1, 6, none⟩, 32, 32, t.tag⟩ : Sl)) (l' := [1] ++ t.head ++ [UInt8.ofNat t.cs.len] ++ cavsB (t.cs.l.take i) ++ t.tag) (len' := ln + 32) rfl rfl H (i := 1) rfl sl29 Try.underlying29 rfl rfl (H.slTail (i := 0) (o := 6) (pre := [V64 t.serial, .string ⟨(t.tenant).toArray⟩, V8 t.rights, VI t.from_, VI t.until_, t.cs.v]) rfl rfl (show (t.tag).length = 32 from htag) (by decide)) (by omega) (fun a25 c26 w H => ?_))
      replace H : Hp _ w _ ([_, .own a25 (ln + 32) c26 (([1] ++ t.head ++ [UInt8.ofNat t.cs.len] ++ cavsB (t.cs.l.take i) ++ t.tag).map V8) 5 1, _, _]) := H
      refine l_op (o_val (r_as) ?_)
      refine l_op (o_val (r_as) ?_)
      first | refine l_end ?_ | refine l_nil ?_
      refine c_ret ?_
      try dsimp only [Exit.then, Exit.inBlock]
      refine e_retN (vs := [.slice (hd a25) (ln + 32) c26, VI 0]) _ Try.results82 rfl (resT (v := .slice (hd a25) (ln + 32) c26) rfl (resT (v := VI 0) rfl (resZ))) ?_
      refine ⟨_, rfl, ?_⟩
      have hi2 : i = t.cs.len := by omega
      refine ⟨_, _, _, rfl, by omega, ?_⟩
      rw [List.take_of_length_le (by have := hc.ln; omega)] at H
      exact H.sub (.cons _ (.cons_cons _ (List.nil_sublist _)))
    ·
     refine (o_bslB ([UInt8.ofNat t.cs.len]) H sl29 zc5 rfl rfl (by decide) (fun b27 w H hb27 => ?_))
     replace H : Hp _ w _ ([_, _, _, .own (some b27) 1 1 (([UInt8.ofNat t.cs.len]).map V8) 5 1]) := H
     refine ⟨H.sub (.cons_cons _ (List.nil_sublist _)), ?_⟩
     replace HS := H.sub (.cons_cons _ (List.nil_sublist _))
     refine t_step 3 rfl (by kernel_rfl) (o_appB (s := ⟨hd a4, n5, c6, t.head⟩) (l' := [(1 : UInt8)] ++ t.head) (len' := 1 + n5) rfl rfl H (i := 1) rfl sl29 Try.underlying29 rfl rfl (H.slOwn (i := 2) rfl) (by omega) (fun a28 c29 w H => ?_))
     replace H : Hp _ w _ ([_, .own a28 (1 + n5) c29 (([(1 : UInt8)] ++ t.head).map V8) 5 1, _, _]) := H
     refine ⟨H.sub (.cons_cons _ (List.nil_sublist _)), ?_⟩
     replace HS := H.sub (.cons_cons _ (List.nil_sublist _))
     refine t_step 9 rfl (by kernel_rfl) (o_appB (s := ⟨hd (some b27), 1, 1, [UInt8.ofNat t.cs.len]⟩) (l' := [(1 : UInt8)] ++ t.head ++ ([UInt8.ofNat t.cs.len])) (len' := 1 + n5 + 1) rfl rfl H (i := 1) rfl sl29 Try.underlying29 rfl rfl (H.slOwn (i := 3) rfl) (by omega) (fun a30 c31 w H => ?_))
     replace H : Hp _ w _ ([_, .own a30 (1 + n5 + 1) c31 (([(1 : UInt8)] ++ t.head ++ ([UInt8.ofNat t.cs.len])).map V8) 5 1, _, _]) := H
     refine ⟨H.sub (.cons_cons _ (List.nil_sublist _)), ?_⟩
     replace HS := H.sub (.cons_cons _ (List.nil_sublist _))
     refine t_take 10 rfl (by kernel_rfl) (by kernel_rfl) (by kernel_rfl) (fun _ _ _ h => h) (fun w HS => r_as) HS ?_
     refine t_done (by kernel_rfl) ?_
     clear HS
     repeat refine c_seq ?_
     refine c_region ?_
     refine l_op (o_val (r_as) ?_)
     first | refine l_end ?_ | refine l_nil ?_
     repeat refine c_seq ?_
     refine c_block ?_
     repeat refine c_seq ?_
     refine c_loop4 (fun (i : Nat) (a : Option Nat) (ln : Nat) (k : Nat) => [(1, .pointer (some ⟨b1, 0, none⟩)), (4, .slice (hd a) ln k), (5, VI (i : Int))])
       (fun (i : Nat) (a : Option Nat) (ln : Nat) (k : Nat) w => (i ≤ t.cs.len ∧ ln ≤ t.tenant.length + 66 + 9 * i) ∧ Hp w0 w [] ([.blk b1 ([V64 t.serial, .string ⟨(t.tenant).toArray⟩, V8 t.rights, VI t.from_, VI t.until_, t.cs.v] ++ (t.tag).map V8) 76, .own a ln k (([1] ++ t.head ++ [UInt8.ofNat t.cs.len] ++ cavsB (t.cs.l.take i)).map V8) 5 1, .own a4 n5 c6 ((t.head).map V8) 5 1, .own (some b27) 1 1 (([UInt8.ofNat t.cs.len]).map V8) 5 1]))
       (fun (i : Nat) (a : Option Nat) (ln : Nat) (k : Nat) => t.cs.len - i) 0 a30 (1 + n5 + 1) c31 ⟨rfl, rfl, rfl, trivial⟩ ⟨⟨Nat.zero_le _, by omega⟩, (by rw [show cavsB (t.cs.l.take 0) = [] from rfl, List.append_nil]; exact H)⟩ ?_
     clear H
     rintro i a ln k τ w ⟨⟨hi, hln⟩, H⟩
     repeat refine c_seq ?_
     refine c_region ?_
     refine l_op (o_val (r_mv) ?_)
     refine l_op (o_val (r_fa rfl fo76_5) ?_)
     refine l_op (o_val (r_ld (v := t.cs.v) H (i := 0) rfl rfl ct74 rfl) ?_)
     refine l_op (o_val (r_lens el74 rfl) ?_)
     refine l_op (o_val (r_bin (a := (i : Int)) (b := (t.cs.len : Int)) rfl rfl (fun _ => b_lss)) ?_)
     first | refine l_end ?_ | refine l_nil ?_
     by_cases hc32 : (i : Int) < (t.cs.len : Int)
     ·
      repeat refine c_seq ?_
      refine c_yes (by exact congrArg Value.bool (decide_eq_true hc32)) ?_
      refine c_skip ?_
      repeat refine c_seq ?_
      refine c_block ?_
      repeat refine c_seq ?_
      refine c_region ?_
      refine l_op (o_val (r_mv) ?_)
      refine l_op (o_val (r_fa rfl fo76_5) ?_)
      refine l_op (o_val (r_ld (v := t.cs.v) H (i := 0) rfl rfl ct74 rfl) ?_)
      refine l_op (o_val (r_mv) ?_)
      have ah35 := ((hc.up H)).addr (by decide) (by first | omega | (dsimp only; omega))
      obtain ⟨ab33, ao34, ah35⟩ := ah35
      refine l_op (o_val (r_isN i rfl rfl el74 ah35 (by omega) (by (try simp only [Sl.cut]); omega)) ?_)
      have he37 : ∃ c, t.cs.l[i]? = some c := ⟨_, List.getElem?_eq_getElem (by have := ((hc.up H)).ln; (try dsimp only at this ⊢); omega)⟩
      obtain ⟨e36, he37⟩ := he37
      have hez38 := ((hc.up H)).sz e36 (List.mem_of_getElem? he37)
      refine l_op (o_val (r_ldRow (s := t.cs) (k := i) (hc.up H) ah35 rfl rt78 (by decide) he37) ?_)
      refine l_op (o_callR Try.func120 rfl rfl rfl (caveat14_ret _ e36 (hb.cs _ (List.mem_of_getElem? (by assumption)))) ?_)
      rintro _ w ⟨a39, c40, rfl, Hc⟩
      replace H : Hp _ w _ ([_, _, _, _, .own a39 9 c40 ((cavB e36).map V8) 5 1]) := H.call Hc
      clear Hc
      refine l_op (o_appB (s := ⟨hd a39, 9, c40, cavB e36⟩) (l' := [1] ++ t.head ++ [UInt8.ofNat t.cs.len] ++ cavsB (t.cs.l.take i) ++ (cavB e36)) (len' := ln + 9) rfl rfl H (i := 1) rfl sl29 Try.underlying29 rfl rfl (H.slOwn (i := 4) rfl) (by omega) (fun a41 c42 w H => ?_))
      replace H : Hp _ w _ ([_, .own a41 (ln + 9) c42 (([1] ++ t.head ++ [UInt8.ofNat t.cs.len] ++ cavsB (t.cs.l.take i) ++ (cavB e36)).map V8) 5 1, _, _, _]) := H
      refine l_op (o_val (r_as) ?_)
      first | refine l_end ?_ | refine l_nil ?_
      repeat refine c_seq ?_
      refine c_region ?_
      refine l_op (o_val (r_mv) ?_)
      refine l_op (o_val (r_bin (a := (i : Int)) (b := 1) rfl rfl (fun _ => b_add (by omega) (by omega))) ?_)
      refine l_op (o_val (r_as) ?_)
      first | refine l_end ?_ | refine l_nil ?_
      rw [List.append_assoc, cavsB_succ t.cs.l i e36 he37] at H
      refine round_end (i + 1, a41, ln + 9, c42) ?_ ?_ ?_
      · exact ⟨rfl, rfl, show VI ((i : Int) + 1) = VI ((i + 1 : Nat) : Int) from congrArg VI (by omega), trivial⟩
      · refine ⟨?_, ?_⟩
        · try dsimp only
          exact ⟨by omega, by omega⟩
        · exact H.sub (.cons_cons _ (.cons_cons _ (.cons_cons _ (.cons_cons _ (List.nil_sublist _)))))
      · show t.cs.len - (i + 1 : Nat) < t.cs.len - i; omega
     ·
      repeat refine c_seq ?_
      refine c_no (by exact congrArg Value.bool (decide_eq_false hc32)) ?_
      refine c_exit ?_
      repeat refine c_seq ?_
      refine c_region ?_
      refine l_op (o_val (r_mv) ?_)
      refine l_op (o_val (r_fa rfl fo76_6) ?_)
      refine l_op (o_val (r_slAo (o := 6) (h := 32) (m := 32) (lv := none) (hv := none) (mv := none) rfl ar31 rfl rfl rfl (fun w => sbn w)) ?_)
      refine l_op (o_appB (s := (⟨some ⟨b1, 6, none⟩, 32, 32, t.tag⟩ : Sl)) (l' := [1] ++ t.head ++ [UInt8.ofNat t.cs.len] ++ cavsB (t.cs.l.take i) ++ t.tag) (len' := ln + 32) rfl rfl H (i := 1) rfl sl29 Try.underlying29 rfl rfl (H.slTail (i := 0) (o := 6) (pre := [V64 t.serial, .string ⟨(t.tenant).toArray⟩, V8 t.rights, VI t.from_, VI t.until_, t.cs.v]) rfl rfl (show (t.tag).length = 32 from htag) (by decide)) (by omega) (fun a43 c44 w H => ?_))
      replace H : Hp _ w _ ([_, .own a43 (ln + 32) c44 (([1] ++ t.head ++ [UInt8.ofNat t.cs.len] ++ cavsB (t.cs.l.take i) ++ t.tag).map V8) 5 1, _, _]) := H
      refine l_op (o_val (r_as) ?_)
      refine l_op (o_val (r_as) ?_)
      first | refine l_end ?_ | refine l_nil ?_
      refine c_ret ?_
      try dsimp only [Exit.then, Exit.inBlock]
      refine e_retN (vs := [.slice (hd a43) (ln + 32) c44, VI 0]) _ Try.results82 rfl (resT (v := .slice (hd a43) (ln + 32) c44) rfl (resT (v := VI 0) rfl (resZ))) ?_
      refine ⟨_, rfl, ?_⟩
      have hi2 : i = t.cs.len := by omega
      refine ⟨_, _, _, rfl, by omega, ?_⟩
      rw [List.take_of_length_le (by have := hc.ln; omega)] at H
      exact H.sub (.cons _ (.cons_cons _ (List.nil_sublist _)))
   ·
    refine (o_bslB ([UInt8.ofNat t.cs.len]) H sl29 zc5 rfl rfl (by decide) (fun b45 w H hb45 => ?_))
    replace H : Hp _ w _ ([_, _, .own (some b45) 1 1 (([UInt8.ofNat t.cs.len]).map V8) 5 1]) := H
    refine ⟨H.sub (.cons_cons _ (List.nil_sublist _)), ?_⟩
    replace HS := H.sub (.cons_cons _ (List.nil_sublist _))
    refine t_step 2 rfl (by kernel_rfl) (o_callR Try.func126 rfl rfl rfl (head14_ret _ t (hc.up H) (show (t.tag).length = 32 from htag) (by first | omega | (dsimp only; omega) | simp) hb) ?_)
    rintro _ w ⟨a46, n47, c48, rfl, hn49, hh50, Hc⟩
    replace H : Hp _ w _ ([_, _, _, .own a46 n47 c48 ((t.head).map V8) 5 1]) := H.call Hc
    clear Hc
    try dsimp only at hn49
    refine ⟨H.sub (.cons_cons _ (List.nil_sublist _)), ?_⟩
    replace HS := H.sub (.cons_cons _ (List.nil_sublist _))
    refine t_step 3 rfl (by kernel_rfl) (o_appB (s := ⟨hd a46, n47, c48, t.head⟩) (l' := [(1 : UInt8)] ++ t.head) (len' := 1 + n47) rfl rfl H (i := 1) rfl sl29 Try.underlying29 rfl rfl (H.slOwn (i := 3) rfl) (by omega) (fun a51 c52 w H => ?_))
    replace H : Hp _ w _ ([_, .own a51 (1 + n47) c52 (([(1 : UInt8)] ++ t.head).map V8) 5 1, _, _]) := H
    refine ⟨H.sub (.cons_cons _ (List.nil_sublist _)), ?_⟩
    replace HS := H.sub (.cons_cons _ (List.nil_sublist _))
    refine t_step 9 rfl (by kernel_rfl) (o_appB (s := ⟨hd (some b45), 1, 1, [UInt8.ofNat t.cs.len]⟩) (l' := [(1 : UInt8)] ++ t.head ++ ([UInt8.ofNat t.cs.len])) (len' := 1 + n47 + 1) rfl rfl H (i := 1) rfl sl29 Try.underlying29 rfl rfl (H.slOwn (i := 2) rfl) (by omega) (fun a53 c54 w H => ?_))
    replace H : Hp _ w _ ([_, .own a53 (1 + n47 + 1) c54 (([(1 : UInt8)] ++ t.head ++ ([UInt8.ofNat t.cs.len])).map V8) 5 1, _, _]) := H
    refine ⟨H.sub (.cons_cons _ (List.nil_sublist _)), ?_⟩
    replace HS := H.sub (.cons_cons _ (List.nil_sublist _))
    refine t_take 10 rfl (by kernel_rfl) (by kernel_rfl) (by kernel_rfl) (fun _ _ _ h => h) (fun w HS => r_as) HS ?_
    refine t_done (by kernel_rfl) ?_
    clear HS
    repeat refine c_seq ?_
    refine c_region ?_
    refine l_op (o_val (r_as) ?_)
    first | refine l_end ?_ | refine l_nil ?_
    repeat refine c_seq ?_
    refine c_block ?_
    repeat refine c_seq ?_
    refine c_loop4 (fun (i : Nat) (a : Option Nat) (ln : Nat) (k : Nat) => [(1, .pointer (some ⟨b1, 0, none⟩)), (4, .slice (hd a) ln k), (5, VI (i : Int))])
      (fun (i : Nat) (a : Option Nat) (ln : Nat) (k : Nat) w => (i ≤ t.cs.len ∧ ln ≤ t.tenant.length + 66 + 9 * i) ∧ Hp w0 w [] ([.blk b1 ([V64 t.serial, .string ⟨(t.tenant).toArray⟩, V8 t.rights, VI t.from_, VI t.until_, t.cs.v] ++ (t.tag).map V8) 76, .own a ln k (([1] ++ t.head ++ [UInt8.ofNat t.cs.len] ++ cavsB (t.cs.l.take i)).map V8) 5 1, .own (some b45) 1 1 (([UInt8.ofNat t.cs.len]).map V8) 5 1, .own a46 n47 c48 ((t.head).map V8) 5 1]))
      (fun (i : Nat) (a : Option Nat) (ln : Nat) (k : Nat) => t.cs.len - i) 0 a53 (1 + n47 + 1) c54 ⟨rfl, rfl, rfl, trivial⟩ ⟨⟨Nat.zero_le _, by omega⟩, (by rw [show cavsB (t.cs.l.take 0) = [] from rfl, List.append_nil]; exact H)⟩ ?_
    clear H
    rintro i a ln k τ w ⟨⟨hi, hln⟩, H⟩
    repeat refine c_seq ?_
    refine c_region ?_
    refine l_op (o_val (r_mv) ?_)
    refine l_op (o_val (r_fa rfl fo76_5) ?_)
    refine l_op (o_val (r_ld (v := t.cs.v) H (i := 0) rfl rfl ct74 rfl) ?_)
    refine l_op (o_val (r_lens el74 rfl) ?_)
    refine l_op (o_val (r_bin (a := (i : Int)) (b := (t.cs.len : Int)) rfl rfl (fun _ => b_lss)) ?_)
    first | refine l_end ?_ | refine l_nil ?_
    by_cases hc55 : (i : Int) < (t.cs.len : Int)
    ·
     repeat refine c_seq ?_
     refine c_yes (by exact congrArg Value.bool (decide_eq_true hc55)) ?_
     refine c_skip ?_
     repeat refine c_seq ?_
     refine c_block ?_
     repeat refine c_seq ?_
     refine c_region ?_
     refine l_op (o_val (r_mv) ?_)
     refine l_op (o_val (r_fa rfl fo76_5) ?_)
     refine l_op (o_val (r_ld (v := t.cs.v) H (i := 0) rfl rfl ct74 rfl) ?_)
     refine l_op (o_val (r_mv) ?_)
     have ah58 := ((hc.up H)).addr (by decide) (by first | omega | (dsimp only; omega))
     obtain ⟨ab56, ao57, ah58⟩ := ah58
     refine l_op (o_val (r_isN i rfl rfl el74 ah58 (by omega) (by (try simp only [Sl.cut]); omega)) ?_)
     have he60 : ∃ c, t.cs.l[i]? = some c := ⟨_, List.getElem?_eq_getElem (by have := ((hc.up H)).ln; (try dsimp only at this ⊢); omega)⟩
     obtain ⟨e59, he60⟩ := he60
     have hez61 := ((hc.up H)).sz e59 (List.mem_of_getElem? he60)
     refine l_op (o_val (r_ldRow (s := t.cs) (k := i) (hc.up H) ah58 rfl rt78 (by decide) he60) ?_)
     refine l_op (o_callR Try.func120 rfl rfl rfl (caveat14_ret _ e59 (hb.cs _ (List.mem_of_getElem? (by assumption)))) ?_)
     rintro _ w ⟨a62, c63, rfl, Hc⟩
     replace H : Hp _ w _ ([_, _, _, _, .own a62 9 c63 ((cavB e59).map V8) 5 1]) := H.call Hc
     clear Hc
     refine l_op (o_appB (s := ⟨hd a62, 9, c63, cavB e59⟩) (l' := [1] ++ t.head ++ [UInt8.ofNat t.cs.len] ++ cavsB (t.cs.l.take i) ++ (cavB e59)) (len' := ln + 9) rfl rfl H (i := 1) rfl sl29 Try.underlying29 rfl rfl (H.slOwn (i := 4) rfl) (by omega) (fun a64 c65 w H => ?_))
     replace H : Hp _ w _ ([_, .own a64 (ln + 9) c65 (([1] ++ t.head ++ [UInt8.ofNat t.cs.len] ++ cavsB (t.cs.l.take i) ++ (cavB e59)).map V8) 5 1, _, _, _]) := H
     refine l_op (o_val (r_as) ?_)
     first | refine l_end ?_ | refine l_nil ?_
     repeat refine c_seq ?_
     refine c_region ?_
     refine l_op (o_val (r_mv) ?_)
     refine l_op (o_val (r_bin (a := (i : Int)) (b := 1) rfl rfl (fun _ => b_add (by omega) (by omega))) ?_)
     refine l_op (o_val (r_as) ?_)
     first | refine l_end ?_ | refine l_nil ?_
     rw [List.append_assoc, cavsB_succ t.cs.l i e59 he60] at H
     refine round_end (i + 1, a64, ln + 9, c65) ?_ ?_ ?_
     · exact ⟨rfl, rfl, show VI ((i : Int) + 1) = VI ((i + 1 : Nat) : Int) from congrArg VI (by omega), trivial⟩
     · refine ⟨?_, ?_⟩
       · try dsimp only
         exact ⟨by omega, by omega⟩
       · exact H.sub (.cons_cons _ (.cons_cons _ (.cons_cons _ (.cons_cons _ (List.nil_sublist _)))))
     · show t.cs.len - (i + 1 : Nat) < t.cs.len - i; omega
    ·
     repeat refine c_seq ?_
     refine c_no (by exact congrArg Value.bool (decide_eq_false hc55)) ?_
     refine c_exit ?_
     repeat refine c_seq ?_
     refine c_region ?_
     refine l_op (o_val (r_mv) ?_)
     refine l_op (o_val (r_fa rfl fo76_6) ?_)
     refine l_op (o_val (r_slAo (o := 6) (h := 32) (m := 32) (lv := none) (hv := none) (mv := none) rfl ar31 rfl rfl rfl (fun w => sbn w)) ?_)
     refine l_op (o_appB (s := (⟨some ⟨b1, 6, none⟩, 32, 32, t.tag⟩ : Sl)) (l' := [1] ++ t.head ++ [UInt8.ofNat t.cs.len] ++ cavsB (t.cs.l.take i) ++ t.tag) (len' := ln + 32) rfl rfl H (i := 1) rfl sl29 Try.underlying29 rfl rfl (H.slTail (i := 0) (o := 6) (pre := [V64 t.serial, .string ⟨(t.tenant).toArray⟩, V8 t.rights, VI t.from_, VI t.until_, t.cs.v]) rfl rfl (show (t.tag).length = 32 from htag) (by decide)) (by omega) (fun a66 c67 w H => ?_))
     replace H : Hp _ w _ ([_, .own a66 (ln + 32) c67 (([1] ++ t.head ++ [UInt8.ofNat t.cs.len] ++ cavsB (t.cs.l.take i) ++ t.tag).map V8) 5 1, _, _]) := H
     refine l_op (o_val (r_as) ?_)
     refine l_op (o_val (r_as) ?_)
     first | refine l_end ?_ | refine l_nil ?_
     refine c_ret ?_
     try dsimp only [Exit.then, Exit.inBlock]
     refine e_retN (vs := [.slice (hd a66) (ln + 32) c67, VI 0]) _ Try.results82 rfl (resT (v := .slice (hd a66) (ln + 32) c67) rfl (resT (v := VI 0) rfl (resZ))) ?_
     refine ⟨_, rfl, ?_⟩
     have hi2 : i = t.cs.len := by omega
     refine ⟨_, _, _, rfl, by omega, ?_⟩
     rw [List.take_of_length_le (by have := hc.ln; omega)] at H
     exact H.sub (.cons _ (.cons_cons _ (List.nil_sublist _)))
  ·
   refine (o_callR Try.func126 rfl rfl rfl (head14_ret _ t (hc.up H) (show (t.tag).length = 32 from htag) (by first | omega | (dsimp only; omega) | simp) hb) ?_)
   rintro _ w ⟨a68, n69, c70, rfl, hn71, hh72, Hc⟩
   replace H : Hp _ w _ ([_, .own a68 n69 c70 ((t.head).map V8) 5 1]) := H.call Hc
   clear Hc
   try dsimp only at hn71
   refine ⟨H.sub (.cons_cons _ (List.nil_sublist _)), ?_⟩
   replace HS := H.sub (.cons_cons _ (List.nil_sublist _))
   refine t_all [0, 8] (by kernel_rfl) (by simp) (all_cons (w_op 0 rfl ?_) (all_cons (w_op 8 rfl ?_) (all_nil)))
   ·
    refine (o_bslB ([(1 : UInt8)]) H sl29 zc5 rfl rfl (by decide) (fun b73 w H hb73 => ?_))
    replace H : Hp _ w _ ([_, _, .own (some b73) 1 1 (([(1 : UInt8)]).map V8) 5 1]) := H
    refine ⟨H.sub (.cons_cons _ (List.nil_sublist _)), ?_⟩
    replace HS := H.sub (.cons_cons _ (List.nil_sublist _))
    refine t_all [3, 8] (by kernel_rfl) (by simp) (all_cons (w_op 3 rfl ?_) (all_cons (w_op 8 rfl ?_) (all_nil)))
    ·
     refine (o_appB (s := ⟨hd a68, n69, c70, t.head⟩) (l' := [(1 : UInt8)] ++ t.head) (len' := 1 + n69) rfl rfl H (i := 2) rfl sl29 Try.underlying29 rfl rfl (H.slOwn (i := 1) rfl) (by omega) (fun a74 c75 w H => ?_))
     replace H : Hp _ w _ ([_, _, .own a74 (1 + n69) c75 (([(1 : UInt8)] ++ t.head).map V8) 5 1]) := H
     refine ⟨H.sub (.cons_cons _ (List.nil_sublist _)), ?_⟩
     replace HS := H.sub (.cons_cons _ (List.nil_sublist _))
     refine t_step 8 rfl (by kernel_rfl) (o_bslB ([UInt8.ofNat t.cs.len]) H sl29 zc5 rfl rfl (by decide) (fun b76 w H hb76 => ?_))
     replace H : Hp _ w _ ([_, _, _, .own (some b76) 1 1 (([UInt8.ofNat t.cs.len]).map V8) 5 1]) := H
     refine ⟨H.sub (.cons_cons _ (List.nil_sublist _)), ?_⟩
     replace HS := H.sub (.cons_cons _ (List.nil_sublist _))
     refine t_step 9 rfl (by kernel_rfl) (o_appB (s := ⟨hd (some b76), 1, 1, [UInt8.ofNat t.cs.len]⟩) (l' := [(1 : UInt8)] ++ t.head ++ ([UInt8.ofNat t.cs.len])) (len' := 1 + n69 + 1) rfl rfl H (i := 2) rfl sl29 Try.underlying29 rfl rfl (H.slOwn (i := 3) rfl) (by omega) (fun a77 c78 w H => ?_))
     replace H : Hp _ w _ ([_, _, .own a77 (1 + n69 + 1) c78 (([(1 : UInt8)] ++ t.head ++ ([UInt8.ofNat t.cs.len])).map V8) 5 1, _]) := H
     refine ⟨H.sub (.cons_cons _ (List.nil_sublist _)), ?_⟩
     replace HS := H.sub (.cons_cons _ (List.nil_sublist _))
     refine t_take 10 rfl (by kernel_rfl) (by kernel_rfl) (by kernel_rfl) (fun _ _ _ h => h) (fun w HS => r_as) HS ?_
     refine t_done (by kernel_rfl) ?_
     clear HS
     repeat refine c_seq ?_
     refine c_region ?_
     refine l_op (o_val (r_as) ?_)
     first | refine l_end ?_ | refine l_nil ?_
     repeat refine c_seq ?_
     refine c_block ?_
     repeat refine c_seq ?_
     refine c_loop4 (fun (i : Nat) (a : Option Nat) (ln : Nat) (k : Nat) => [(1, .pointer (some ⟨b1, 0, none⟩)), (4, .slice (hd a) ln k), (5, VI (i : Int))])
       (fun (i : Nat) (a : Option Nat) (ln : Nat) (k : Nat) w => (i ≤ t.cs.len ∧ ln ≤ t.tenant.length + 66 + 9 * i) ∧ Hp w0 w [] ([.blk b1 ([V64 t.serial, .string ⟨(t.tenant).toArray⟩, V8 t.rights, VI t.from_, VI t.until_, t.cs.v] ++ (t.tag).map V8) 76, .own a68 n69 c70 ((t.head).map V8) 5 1, .own a ln k (([1] ++ t.head ++ [UInt8.ofNat t.cs.len] ++ cavsB (t.cs.l.take i)).map V8) 5 1, .own (some b76) 1 1 (([UInt8.ofNat t.cs.len]).map V8) 5 1]))
       (fun (i : Nat) (a : Option Nat) (ln : Nat) (k : Nat) => t.cs.len - i) 0 a77 (1 + n69 + 1) c78 ⟨rfl, rfl, rfl, trivial⟩ ⟨⟨Nat.zero_le _, by omega⟩, (by rw [show cavsB (t.cs.l.take 0) = [] from rfl, List.append_nil]; exact H)⟩ ?_
     clear H
     rintro i a ln k τ w ⟨⟨hi, hln⟩, H⟩
     repeat refine c_seq ?_
     refine c_region ?_
     refine l_op (o_val (r_mv) ?_)
     refine l_op (o_val (r_fa rfl fo76_5) ?_)
     refine l_op (o_val (r_ld (v := t.cs.v) H (i := 0) rfl rfl ct74 rfl) ?_)
     refine l_op (o_val (r_lens el74 rfl) ?_)
     refine l_op (o_val (r_bin (a := (i : Int)) (b := (t.cs.len : Int)) rfl rfl (fun _ => b_lss)) ?_)
     first | refine l_end ?_ | refine l_nil ?_
     by_cases hc79 : (i : Int) < (t.cs.len : Int)
     ·
      repeat refine c_seq ?_
      refine c_yes (by exact congrArg Value.bool (decide_eq_true hc79)) ?_
      refine c_skip ?_
      repeat refine c_seq ?_
      refine c_block ?_
      repeat refine c_seq ?_
      refine c_region ?_
      refine l_op (o_val (r_mv) ?_)
      refine l_op (o_val (r_fa rfl fo76_5) ?_)
      refine l_op (o_val (r_ld (v := t.cs.v) H (i := 0) rfl rfl ct74 rfl) ?_)
      refine l_op (o_val (r_mv) ?_)
      have ah82 := ((hc.up H)).addr (by decide) (by first | omega | (dsimp only; omega))
      obtain ⟨ab80, ao81, ah82⟩ := ah82
      refine l_op (o_val (r_isN i rfl rfl el74 ah82 (by omega) (by (try simp only [Sl.cut]); omega)) ?_)
      have he84 : ∃ c, t.cs.l[i]? = some c := ⟨_, List.getElem?_eq_getElem (by have := ((hc.up H)).ln; (try dsimp only at this ⊢); omega)⟩
      obtain ⟨e83, he84⟩ := he84
      have hez85 := ((hc.up H)).sz e83 (List.mem_of_getElem? he84)
      refine l_op (o_val (r_ldRow (s := t.cs) (k := i) (hc.up H) ah82 rfl rt78 (by decide) he84) ?_)
      refine l_op (o_callR Try.func120 rfl rfl rfl (caveat14_ret _ e83 (hb.cs _ (List.mem_of_getElem? (by assumption)))) ?_)
      rintro _ w ⟨a86, c87, rfl, Hc⟩
      replace H : Hp _ w _ ([_, _, _, _, .own a86 9 c87 ((cavB e83).map V8) 5 1]) := H.call Hc
      clear Hc
      refine l_op (o_appB (s := ⟨hd a86, 9, c87, cavB e83⟩) (l' := [1] ++ t.head ++ [UInt8.ofNat t.cs.len] ++ cavsB (t.cs.l.take i) ++ (cavB e83)) (len' := ln + 9) rfl rfl H (i := 2) rfl sl29 Try.underlying29 rfl rfl (H.slOwn (i := 4) rfl) (by omega) (fun a88 c89 w H => ?_))
      replace H : Hp _ w _ ([_, _, .own a88 (ln + 9) c89 (([1] ++ t.head ++ [UInt8.ofNat t.cs.len] ++ cavsB (t.cs.l.take i) ++ (cavB e83)).map V8) 5 1, _, _]) := H
      refine l_op (o_val (r_as) ?_)
      first | refine l_end ?_ | refine l_nil ?_
      repeat refine c_seq ?_
      refine c_region ?_
      refine l_op (o_val (r_mv) ?_)
      refine l_op (o_val (r_bin (a := (i : Int)) (b := 1) rfl rfl (fun _ => b_add (by omega) (by omega))) ?_)
      refine l_op (o_val (r_as) ?_)
      first | refine l_end ?_ | refine l_nil ?_
      rw [List.append_assoc, cavsB_succ t.cs.l i e83 he84] at H
      refine round_end (i + 1, a88, ln + 9, c89) ?_ ?_ ?_
      · exact ⟨rfl, rfl, show VI ((i : Int) + 1) = VI ((i + 1 : Nat) : Int) from congrArg VI (by omega), trivial⟩
      · refine ⟨?_, ?_⟩
        · try dsimp only
          exact ⟨by omega, by omega⟩
        · exact H.sub (.cons_cons _ (.cons_cons _ (.cons_cons _ (.cons_cons _ (List.nil_sublist _)))))
      · show t.cs.len - (i + 1 : Nat) < t.cs.len - i; omega
     ·
      repeat refine c_seq ?_
      refine c_no (by exact congrArg Value.bool (decide_eq_false hc79)) ?_
      refine c_exit ?_
      repeat refine c_seq ?_
      refine c_region ?_
      refine l_op (o_val (r_mv) ?_)
      refine l_op (o_val (r_fa rfl fo76_6) ?_)
      refine l_op (o_val (r_slAo (o := 6) (h := 32) (m := 32) (lv := none) (hv := none) (mv := none) rfl ar31 rfl rfl rfl (fun w => sbn w)) ?_)
      refine l_op (o_appB (s := (⟨some ⟨b1, 6, none⟩, 32, 32, t.tag⟩ : Sl)) (l' := [1] ++ t.head ++ [UInt8.ofNat t.cs.len] ++ cavsB (t.cs.l.take i) ++ t.tag) (len' := ln + 32) rfl rfl H (i := 2) rfl sl29 Try.underlying29 rfl rfl (H.slTail (i := 0) (o := 6) (pre := [V64 t.serial, .string ⟨(t.tenant).toArray⟩, V8 t.rights, VI t.from_, VI t.until_, t.cs.v]) rfl rfl (show (t.tag).length = 32 from htag) (by decide)) (by omega) (fun a90 c91 w H => ?_))
      replace H : Hp _ w _ ([_, _, .own a90 (ln + 32) c91 (([1] ++ t.head ++ [UInt8.ofNat t.cs.len] ++ cavsB (t.cs.l.take i) ++ t.tag).map V8) 5 1, _]) := H
      refine l_op (o_val (r_as) ?_)
      refine l_op (o_val (r_as) ?_)
      first | refine l_end ?_ | refine l_nil ?_
      refine c_ret ?_
      try dsimp only [Exit.then, Exit.inBlock]
      refine e_retN (vs := [.slice (hd a90) (ln + 32) c91, VI 0]) _ Try.results82 rfl (resT (v := .slice (hd a90) (ln + 32) c91) rfl (resT (v := VI 0) rfl (resZ))) ?_
      refine ⟨_, rfl, ?_⟩
      have hi2 : i = t.cs.len := by omega
      refine ⟨_, _, _, rfl, by omega, ?_⟩
      rw [List.take_of_length_le (by have := hc.ln; omega)] at H
      exact H.sub (.cons _ (.cons _ (.cons_cons _ (List.nil_sublist _))))
    ·
     refine (o_bslB ([UInt8.ofNat t.cs.len]) H sl29 zc5 rfl rfl (by decide) (fun b92 w H hb92 => ?_))
     replace H : Hp _ w _ ([_, _, _, .own (some b92) 1 1 (([UInt8.ofNat t.cs.len]).map V8) 5 1]) := H
     refine ⟨H.sub (.cons_cons _ (List.nil_sublist _)), ?_⟩
     replace HS := H.sub (.cons_cons _ (List.nil_sublist _))
     refine t_step 3 rfl (by kernel_rfl) (o_appB (s := ⟨hd a68, n69, c70, t.head⟩) (l' := [(1 : UInt8)] ++ t.head) (len' := 1 + n69) rfl rfl H (i := 2) rfl sl29 Try.underlying29 rfl rfl (H.slOwn (i := 1) rfl) (by omega) (fun a93 c94 w H => ?_))
     replace H : Hp _ w _ ([_, _, .own a93 (1 + n69) c94 (([(1 : UInt8)] ++ t.head).map V8) 5 1, _]) := H
     refine ⟨H.sub (.cons_cons _ (List.nil_sublist _)), ?_⟩
     replace HS := H.sub (.cons_cons _ (List.nil_sublist _))
     refine t_step 9 rfl (by kernel_rfl) (o_appB (s := ⟨hd (some b92), 1, 1, [UInt8.ofNat t.cs.len]⟩) (l' := [(1 : UInt8)] ++ t.head ++ ([UInt8.ofNat t.cs.len])) (len' := 1 + n69 + 1) rfl rfl H (i := 2) rfl sl29 Try.underlying29 rfl rfl (H.slOwn (i := 3) rfl) (by omega) (fun a95 c96 w H => ?_))
     replace H : Hp _ w _ ([_, _, .own a95 (1 + n69 + 1) c96 (([(1 : UInt8)] ++ t.head ++ ([UInt8.ofNat t.cs.len])).map V8) 5 1, _]) := H
     refine ⟨H.sub (.cons_cons _ (List.nil_sublist _)), ?_⟩
     replace HS := H.sub (.cons_cons _ (List.nil_sublist _))
     refine t_take 10 rfl (by kernel_rfl) (by kernel_rfl) (by kernel_rfl) (fun _ _ _ h => h) (fun w HS => r_as) HS ?_
     refine t_done (by kernel_rfl) ?_
     clear HS
     repeat refine c_seq ?_
     refine c_region ?_
     refine l_op (o_val (r_as) ?_)
     first | refine l_end ?_ | refine l_nil ?_
     repeat refine c_seq ?_
     refine c_block ?_
     repeat refine c_seq ?_
     refine c_loop4 (fun (i : Nat) (a : Option Nat) (ln : Nat) (k : Nat) => [(1, .pointer (some ⟨b1, 0, none⟩)), (4, .slice (hd a) ln k), (5, VI (i : Int))])
       (fun (i : Nat) (a : Option Nat) (ln : Nat) (k : Nat) w => (i ≤ t.cs.len ∧ ln ≤ t.tenant.length + 66 + 9 * i) ∧ Hp w0 w [] ([.blk b1 ([V64 t.serial, .string ⟨(t.tenant).toArray⟩, V8 t.rights, VI t.from_, VI t.until_, t.cs.v] ++ (t.tag).map V8) 76, .own a68 n69 c70 ((t.head).map V8) 5 1, .own a ln k (([1] ++ t.head ++ [UInt8.ofNat t.cs.len] ++ cavsB (t.cs.l.take i)).map V8) 5 1, .own (some b92) 1 1 (([UInt8.ofNat t.cs.len]).map V8) 5 1]))
       (fun (i : Nat) (a : Option Nat) (ln : Nat) (k : Nat) => t.cs.len - i) 0 a95 (1 + n69 + 1) c96 ⟨rfl, rfl, rfl, trivial⟩ ⟨⟨Nat.zero_le _, by omega⟩, (by rw [show cavsB (t.cs.l.take 0) = [] from rfl, List.append_nil]; exact H)⟩ ?_
     clear H
     rintro i a ln k τ w ⟨⟨hi, hln⟩, H⟩
     repeat refine c_seq ?_
     refine c_region ?_
     refine l_op (o_val (r_mv) ?_)
     refine l_op (o_val (r_fa rfl fo76_5) ?_)
     refine l_op (o_val (r_ld (v := t.cs.v) H (i := 0) rfl rfl ct74 rfl) ?_)
     refine l_op (o_val (r_lens el74 rfl) ?_)
     refine l_op (o_val (r_bin (a := (i : Int)) (b := (t.cs.len : Int)) rfl rfl (fun _ => b_lss)) ?_)
     first | refine l_end ?_ | refine l_nil ?_
     by_cases hc97 : (i : Int) < (t.cs.len : Int)
     ·
      repeat refine c_seq ?_
      refine c_yes (by exact congrArg Value.bool (decide_eq_true hc97)) ?_
      refine c_skip ?_
      repeat refine c_seq ?_
      refine c_block ?_
      repeat refine c_seq ?_
      refine c_region ?_
      refine l_op (o_val (r_mv) ?_)
      refine l_op (o_val (r_fa rfl fo76_5) ?_)
      refine l_op (o_val (r_ld (v := t.cs.v) H (i := 0) rfl rfl ct74 rfl) ?_)
      refine l_op (o_val (r_mv) ?_)
      have ah100 := ((hc.up H)).addr (by decide) (by first | omega | (dsimp only; omega))
      obtain ⟨ab98, ao99, ah100⟩ := ah100
      refine l_op (o_val (r_isN i rfl rfl el74 ah100 (by omega) (by (try simp only [Sl.cut]); omega)) ?_)
      have he102 : ∃ c, t.cs.l[i]? = some c := ⟨_, List.getElem?_eq_getElem (by have := ((hc.up H)).ln; (try dsimp only at this ⊢); omega)⟩
      obtain ⟨e101, he102⟩ := he102
      have hez103 := ((hc.up H)).sz e101 (List.mem_of_getElem? he102)
      refine l_op (o_val (r_ldRow (s := t.cs) (k := i) (hc.up H) ah100 rfl rt78 (by decide) he102) ?_)
      refine l_op (o_callR Try.func120 rfl rfl rfl (caveat14_ret _ e101 (hb.cs _ (List.mem_of_getElem? (by assumption)))) ?_)
      rintro _ w ⟨a104, c105, rfl, Hc⟩
      replace H : Hp _ w _ ([_, _, _, _, .own a104 9 c105 ((cavB e101).map V8) 5 1]) := H.call Hc
      clear Hc
      refine l_op (o_appB (s := ⟨hd a104, 9, c105, cavB e101⟩) (l' := [1] ++ t.head ++ [UInt8.ofNat t.cs.len] ++ cavsB (t.cs.l.take i) ++ (cavB e101)) (len' := ln + 9) rfl rfl H (i := 2) rfl sl29 Try.underlying29 rfl rfl (H.slOwn (i := 4) rfl) (by omega) (fun a106 c107 w H => ?_))
      replace H : Hp _ w _ ([_, _, .own a106 (ln + 9) c107 (([1] ++ t.head ++ [UInt8.ofNat t.cs.len] ++ cavsB (t.cs.l.take i) ++ (cavB e101)).map V8) 5 1, _, _]) := H
      refine l_op (o_val (r_as) ?_)
      first | refine l_end ?_ | refine l_nil ?_
      repeat refine c_seq ?_
      refine c_region ?_
      refine l_op (o_val (r_mv) ?_)
      refine l_op (o_val (r_bin (a := (i : Int)) (b := 1) rfl rfl (fun _ => b_add (by omega) (by omega))) ?_)
      refine l_op (o_val (r_as) ?_)
      first | refine l_end ?_ | refine l_nil ?_
      rw [List.append_assoc, cavsB_succ t.cs.l i e101 he102] at H
      refine round_end (i + 1, a106, ln + 9, c107) ?_ ?_ ?_
      · exact ⟨rfl, rfl, show VI ((i : Int) + 1) = VI ((i + 1 : Nat) : Int) from congrArg VI (by omega), trivial⟩
      · refine ⟨?_, ?_⟩
        · try dsimp only
          exact ⟨by omega, by omega⟩
        · exact H.sub (.cons_cons _ (.cons_cons _ (.cons_cons _ (.cons_cons _ (List.nil_sublist _)))))
      · show t.cs.len - (i + 1 : Nat) < t.cs.len - i; omega
     ·
      repeat refine c_seq ?_
      refine c_no (by exact congrArg Value.bool (decide_eq_false hc97)) ?_
      refine c_exit ?_
      repeat refine c_seq ?_
      refine c_region ?_
      refine l_op (o_val (r_mv) ?_)
      refine l_op (o_val (r_fa rfl fo76_6) ?_)
      refine l_op (o_val (r_slAo (o := 6) (h := 32) (m := 32) (lv := none) (hv := none) (mv := none) rfl ar31 rfl rfl rfl (fun w => sbn w)) ?_)
      refine l_op (o_appB (s := (⟨some ⟨b1, 6, none⟩, 32, 32, t.tag⟩ : Sl)) (l' := [1] ++ t.head ++ [UInt8.ofNat t.cs.len] ++ cavsB (t.cs.l.take i) ++ t.tag) (len' := ln + 32) rfl rfl H (i := 2) rfl sl29 Try.underlying29 rfl rfl (H.slTail (i := 0) (o := 6) (pre := [V64 t.serial, .string ⟨(t.tenant).toArray⟩, V8 t.rights, VI t.from_, VI t.until_, t.cs.v]) rfl rfl (show (t.tag).length = 32 from htag) (by decide)) (by omega) (fun a108 c109 w H => ?_))
      replace H : Hp _ w _ ([_, _, .own a108 (ln + 32) c109 (([1] ++ t.head ++ [UInt8.ofNat t.cs.len] ++ cavsB (t.cs.l.take i) ++ t.tag).map V8) 5 1, _]) := H
      refine l_op (o_val (r_as) ?_)
      refine l_op (o_val (r_as) ?_)
      first | refine l_end ?_ | refine l_nil ?_
      refine c_ret ?_
      try dsimp only [Exit.then, Exit.inBlock]
      refine e_retN (vs := [.slice (hd a108) (ln + 32) c109, VI 0]) _ Try.results82 rfl (resT (v := .slice (hd a108) (ln + 32) c109) rfl (resT (v := VI 0) rfl (resZ))) ?_
      refine ⟨_, rfl, ?_⟩
      have hi2 : i = t.cs.len := by omega
      refine ⟨_, _, _, rfl, by omega, ?_⟩
      rw [List.take_of_length_le (by have := hc.ln; omega)] at H
      exact H.sub (.cons _ (.cons _ (.cons_cons _ (List.nil_sublist _))))
   ·
    refine (o_bslB ([UInt8.ofNat t.cs.len]) H sl29 zc5 rfl rfl (by decide) (fun b110 w H hb110 => ?_))
    replace H : Hp _ w _ ([_, _, .own (some b110) 1 1 (([UInt8.ofNat t.cs.len]).map V8) 5 1]) := H
    refine ⟨H.sub (.cons_cons _ (List.nil_sublist _)), ?_⟩
    replace HS := H.sub (.cons_cons _ (List.nil_sublist _))
    refine t_step 0 rfl (by kernel_rfl) (o_bslB ([(1 : UInt8)]) H sl29 zc5 rfl rfl (by decide) (fun b111 w H hb111 => ?_))
    replace H : Hp _ w _ ([_, _, _, .own (some b111) 1 1 (([(1 : UInt8)]).map V8) 5 1]) := H
    refine ⟨H.sub (.cons_cons _ (List.nil_sublist _)), ?_⟩
    replace HS := H.sub (.cons_cons _ (List.nil_sublist _))
    refine t_step 3 rfl (by kernel_rfl) (o_appB (s := ⟨hd a68, n69, c70, t.head⟩) (l' := [(1 : UInt8)] ++ t.head) (len' := 1 + n69) rfl rfl H (i := 3) rfl sl29 Try.underlying29 rfl rfl (H.slOwn (i := 1) rfl) (by omega) (fun a112 c113 w H => ?_))
    replace H : Hp _ w _ ([_, _, _, .own a112 (1 + n69) c113 (([(1 : UInt8)] ++ t.head).map V8) 5 1]) := H
    refine ⟨H.sub (.cons_cons _ (List.nil_sublist _)), ?_⟩
    replace HS := H.sub (.cons_cons _ (List.nil_sublist _))
    refine t_step 9 rfl (by kernel_rfl) (o_appB (s := ⟨hd (some b110), 1, 1, [UInt8.ofNat t.cs.len]⟩) (l' := [(1 : UInt8)] ++ t.head ++ ([UInt8.ofNat t.cs.len])) (len' := 1 + n69 + 1) rfl rfl H (i := 3) rfl sl29 Try.underlying29 rfl rfl (H.slOwn (i := 2) rfl) (by omega) (fun a114 c115 w H => ?_))
    replace H : Hp _ w _ ([_, _, _, .own a114 (1 + n69 + 1) c115 (([(1 : UInt8)] ++ t.head ++ ([UInt8.ofNat t.cs.len])).map V8) 5 1]) := H
    refine ⟨H.sub (.cons_cons _ (List.nil_sublist _)), ?_⟩
    replace HS := H.sub (.cons_cons _ (List.nil_sublist _))
    refine t_take 10 rfl (by kernel_rfl) (by kernel_rfl) (by kernel_rfl) (fun _ _ _ h => h) (fun w HS => r_as) HS ?_
    refine t_done (by kernel_rfl) ?_
    clear HS
    repeat refine c_seq ?_
    refine c_region ?_
    refine l_op (o_val (r_as) ?_)
    first | refine l_end ?_ | refine l_nil ?_
    repeat refine c_seq ?_
    refine c_block ?_
    repeat refine c_seq ?_
    refine c_loop4 (fun (i : Nat) (a : Option Nat) (ln : Nat) (k : Nat) => [(1, .pointer (some ⟨b1, 0, none⟩)), (4, .slice (hd a) ln k), (5, VI (i : Int))])
      (fun (i : Nat) (a : Option Nat) (ln : Nat) (k : Nat) w => (i ≤ t.cs.len ∧ ln ≤ t.tenant.length + 66 + 9 * i) ∧ Hp w0 w [] ([.blk b1 ([V64 t.serial, .string ⟨(t.tenant).toArray⟩, V8 t.rights, VI t.from_, VI t.until_, t.cs.v] ++ (t.tag).map V8) 76, .own a68 n69 c70 ((t.head).map V8) 5 1, .own (some b110) 1 1 (([UInt8.ofNat t.cs.len]).map V8) 5 1, .own a ln k (([1] ++ t.head ++ [UInt8.ofNat t.cs.len] ++ cavsB (t.cs.l.take i)).map V8) 5 1]))
      (fun (i : Nat) (a : Option Nat) (ln : Nat) (k : Nat) => t.cs.len - i) 0 a114 (1 + n69 + 1) c115 ⟨rfl, rfl, rfl, trivial⟩ ⟨⟨Nat.zero_le _, by omega⟩, (by rw [show cavsB (t.cs.l.take 0) = [] from rfl, List.append_nil]; exact H)⟩ ?_
    clear H
    rintro i a ln k τ w ⟨⟨hi, hln⟩, H⟩
    repeat refine c_seq ?_
    refine c_region ?_
    refine l_op (o_val (r_mv) ?_)
    refine l_op (o_val (r_fa rfl fo76_5) ?_)
    refine l_op (o_val (r_ld (v := t.cs.v) H (i := 0) rfl rfl ct74 rfl) ?_)
    refine l_op (o_val (r_lens el74 rfl) ?_)
    refine l_op (o_val (r_bin (a := (i : Int)) (b := (t.cs.len : Int)) rfl rfl (fun _ => b_lss)) ?_)
    first | refine l_end ?_ | refine l_nil ?_
    by_cases hc116 : (i : Int) < (t.cs.len : Int)
    ·
     repeat refine c_seq ?_
     refine c_yes (by exact congrArg Value.bool (decide_eq_true hc116)) ?_
     refine c_skip ?_
     repeat refine c_seq ?_
     refine c_block ?_
     repeat refine c_seq ?_
     refine c_region ?_
     refine l_op (o_val (r_mv) ?_)
     refine l_op (o_val (r_fa rfl fo76_5) ?_)
     refine l_op (o_val (r_ld (v := t.cs.v) H (i := 0) rfl rfl ct74 rfl) ?_)
     refine l_op (o_val (r_mv) ?_)
     have ah119 := ((hc.up H)).addr (by decide) (by first | omega | (dsimp only; omega))
     obtain ⟨ab117, ao118, ah119⟩ := ah119
     refine l_op (o_val (r_isN i rfl rfl el74 ah119 (by omega) (by (try simp only [Sl.cut]); omega)) ?_)
     have he121 : ∃ c, t.cs.l[i]? = some c := ⟨_, List.getElem?_eq_getElem (by have := ((hc.up H)).ln; (try dsimp only at this ⊢); omega)⟩
     obtain ⟨e120, he121⟩ := he121
     have hez122 := ((hc.up H)).sz e120 (List.mem_of_getElem? he121)
     refine l_op (o_val (r_ldRow (s := t.cs) (k := i) (hc.up H) ah119 rfl rt78 (by decide) he121) ?_)
     refine l_op (o_callR Try.func120 rfl rfl rfl (caveat14_ret _ e120 (hb.cs _ (List.mem_of_getElem? (by assumption)))) ?_)
     rintro _ w ⟨a123, c124, rfl, Hc⟩
     replace H : Hp _ w _ ([_, _, _, _, .own a123 9 c124 ((cavB e120).map V8) 5 1]) := H.call Hc
     clear Hc
     refine l_op (o_appB (s := ⟨hd a123, 9, c124, cavB e120⟩) (l' := [1] ++ t.head ++ [UInt8.ofNat t.cs.len] ++ cavsB (t.cs.l.take i) ++ (cavB e120)) (len' := ln + 9) rfl rfl H (i := 3) rfl sl29 Try.underlying29 rfl rfl (H.slOwn (i := 4) rfl) (by omega) (fun a125 c126 w H => ?_))
     replace H : Hp _ w _ ([_, _, _, .own a125 (ln + 9) c126 (([1] ++ t.head ++ [UInt8.ofNat t.cs.len] ++ cavsB (t.cs.l.take i) ++ (cavB e120)).map V8) 5 1, _]) := H
     refine l_op (o_val (r_as) ?_)
     first | refine l_end ?_ | refine l_nil ?_
     repeat refine c_seq ?_
     refine c_region ?_
     refine l_op (o_val (r_mv) ?_)
     refine l_op (o_val (r_bin (a := (i : Int)) (b := 1) rfl rfl (fun _ => b_add (by omega) (by omega))) ?_)
     refine l_op (o_val (r_as) ?_)
     first | refine l_end ?_ | refine l_nil ?_
     rw [List.append_assoc, cavsB_succ t.cs.l i e120 he121] at H
     refine round_end (i + 1, a125, ln + 9, c126) ?_ ?_ ?_
     · exact ⟨rfl, rfl, show VI ((i : Int) + 1) = VI ((i + 1 : Nat) : Int) from congrArg VI (by omega), trivial⟩
     · refine ⟨?_, ?_⟩
       · try dsimp only
         exact ⟨by omega, by omega⟩
       · exact H.sub (.cons_cons _ (.cons_cons _ (.cons_cons _ (.cons_cons _ (List.nil_sublist _)))))
     · show t.cs.len - (i + 1 : Nat) < t.cs.len - i; omega
    ·
     repeat refine c_seq ?_
     refine c_no (by exact congrArg Value.bool (decide_eq_false hc116)) ?_
     refine c_exit ?_
     repeat refine c_seq ?_
     refine c_region ?_
     refine l_op (o_val (r_mv) ?_)
     refine l_op (o_val (r_fa rfl fo76_6) ?_)
     refine l_op (o_val (r_slAo (o := 6) (h := 32) (m := 32) (lv := none) (hv := none) (mv := none) rfl ar31 rfl rfl rfl (fun w => sbn w)) ?_)
     refine l_op (o_appB (s := (⟨some ⟨b1, 6, none⟩, 32, 32, t.tag⟩ : Sl)) (l' := [1] ++ t.head ++ [UInt8.ofNat t.cs.len] ++ cavsB (t.cs.l.take i) ++ t.tag) (len' := ln + 32) rfl rfl H (i := 3) rfl sl29 Try.underlying29 rfl rfl (H.slTail (i := 0) (o := 6) (pre := [V64 t.serial, .string ⟨(t.tenant).toArray⟩, V8 t.rights, VI t.from_, VI t.until_, t.cs.v]) rfl rfl (show (t.tag).length = 32 from htag) (by decide)) (by omega) (fun a127 c128 w H => ?_))
     replace H : Hp _ w _ ([_, _, _, .own a127 (ln + 32) c128 (([1] ++ t.head ++ [UInt8.ofNat t.cs.len] ++ cavsB (t.cs.l.take i) ++ t.tag).map V8) 5 1]) := H
     refine l_op (o_val (r_as) ?_)
     refine l_op (o_val (r_as) ?_)
     first | refine l_end ?_ | refine l_nil ?_
     refine c_ret ?_
     try dsimp only [Exit.then, Exit.inBlock]
     refine e_retN (vs := [.slice (hd a127) (ln + 32) c128, VI 0]) _ Try.results82 rfl (resT (v := .slice (hd a127) (ln + 32) c128) rfl (resT (v := VI 0) rfl (resZ))) ?_
     refine ⟨_, rfl, ?_⟩
     have hi2 : i = t.cs.len := by omega
     refine ⟨_, _, _, rfl, by omega, ?_⟩
     rw [List.take_of_length_le (by have := hc.ln; omega)] at H
     exact H.sub (.cons _ (.cons _ (.cons _ (.cons_cons _ (List.nil_sublist _)))))
  ·
   refine (o_bslB ([UInt8.ofNat t.cs.len]) H sl29 zc5 rfl rfl (by decide) (fun b129 w H hb129 => ?_))
   replace H : Hp _ w _ ([_, .own (some b129) 1 1 (([UInt8.ofNat t.cs.len]).map V8) 5 1]) := H
   refine ⟨H.sub (.cons_cons _ (List.nil_sublist _)), ?_⟩
   replace HS := H.sub (.cons_cons _ (List.nil_sublist _))
   refine t_all [0, 2] (by kernel_rfl) (by simp) (all_cons (w_op 0 rfl ?_) (all_cons (w_op 2 rfl ?_) (all_nil)))
   ·
    refine (o_bslB ([(1 : UInt8)]) H sl29 zc5 rfl rfl (by decide) (fun b130 w H hb130 => ?_))
    replace H : Hp _ w _ ([_, _, .own (some b130) 1 1 (([(1 : UInt8)]).map V8) 5 1]) := H
    refine ⟨H.sub (.cons_cons _ (List.nil_sublist _)), ?_⟩
    replace HS := H.sub (.cons_cons _ (List.nil_sublist _))
    refine t_step 2 rfl (by kernel_rfl) (o_callR Try.func126 rfl rfl rfl (head14_ret _ t (hc.up H) (show (t.tag).length = 32 from htag) (by first | omega | (dsimp only; omega) | simp) hb) ?_)
    rintro _ w ⟨a131, n132, c133, rfl, hn134, hh135, Hc⟩
    replace H : Hp _ w _ ([_, _, _, .own a131 n132 c133 ((t.head).map V8) 5 1]) := H.call Hc
    clear Hc
    try dsimp only at hn134
    refine ⟨H.sub (.cons_cons _ (List.nil_sublist _)), ?_⟩
    replace HS := H.sub (.cons_cons _ (List.nil_sublist _))
    refine t_step 3 rfl (by kernel_rfl) (o_appB (s := ⟨hd a131, n132, c133, t.head⟩) (l' := [(1 : UInt8)] ++ t.head) (len' := 1 + n132) rfl rfl H (i := 2) rfl sl29 Try.underlying29 rfl rfl (H.slOwn (i := 3) rfl) (by omega) (fun a136 c137 w H => ?_))
    replace H : Hp _ w _ ([_, _, .own a136 (1 + n132) c137 (([(1 : UInt8)] ++ t.head).map V8) 5 1, _]) := H
    refine ⟨H.sub (.cons_cons _ (List.nil_sublist _)), ?_⟩
    replace HS := H.sub (.cons_cons _ (List.nil_sublist _))
    refine t_step 9 rfl (by kernel_rfl) (o_appB (s := ⟨hd (some b129), 1, 1, [UInt8.ofNat t.cs.len]⟩) (l' := [(1 : UInt8)] ++ t.head ++ ([UInt8.ofNat t.cs.len])) (len' := 1 + n132 + 1) rfl rfl H (i := 2) rfl sl29 Try.underlying29 rfl rfl (H.slOwn (i := 1) rfl) (by omega) (fun a138 c139 w H => ?_))
    replace H : Hp _ w _ ([_, _, .own a138 (1 + n132 + 1) c139 (([(1 : UInt8)] ++ t.head ++ ([UInt8.ofNat t.cs.len])).map V8) 5 1, _]) := H
    refine ⟨H.sub (.cons_cons _ (List.nil_sublist _)), ?_⟩
    replace HS := H.sub (.cons_cons _ (List.nil_sublist _))
    refine t_take 10 rfl (by kernel_rfl) (by kernel_rfl) (by kernel_rfl) (fun _ _ _ h => h) (fun w HS => r_as) HS ?_
    refine t_done (by kernel_rfl) ?_
    clear HS
    repeat refine c_seq ?_
    refine c_region ?_
    refine l_op (o_val (r_as) ?_)
    first | refine l_end ?_ | refine l_nil ?_
    repeat refine c_seq ?_
    refine c_block ?_
    repeat refine c_seq ?_
    refine c_loop4 (fun (i : Nat) (a : Option Nat) (ln : Nat) (k : Nat) => [(1, .pointer (some ⟨b1, 0, none⟩)), (4, .slice (hd a) ln k), (5, VI (i : Int))])
      (fun (i : Nat) (a : Option Nat) (ln : Nat) (k : Nat) w => (i ≤ t.cs.len ∧ ln ≤ t.tenant.length + 66 + 9 * i) ∧ Hp w0 w [] ([.blk b1 ([V64 t.serial, .string ⟨(t.tenant).toArray⟩, V8 t.rights, VI t.from_, VI t.until_, t.cs.v] ++ (t.tag).map V8) 76, .own (some b129) 1 1 (([UInt8.ofNat t.cs.len]).map V8) 5 1, .own a ln k (([1] ++ t.head ++ [UInt8.ofNat t.cs.len] ++ cavsB (t.cs.l.take i)).map V8) 5 1, .own a131 n132 c133 ((t.head).map V8) 5 1]))
      (fun (i : Nat) (a : Option Nat) (ln : Nat) (k : Nat) => t.cs.len - i) 0 a138 (1 + n132 + 1) c139 ⟨rfl, rfl, rfl, trivial⟩ ⟨⟨Nat.zero_le _, by omega⟩, (by rw [show cavsB (t.cs.l.take 0) = [] from rfl, List.append_nil]; exact H)⟩ ?_
    clear H
    rintro i a ln k τ w ⟨⟨hi, hln⟩, H⟩
    repeat refine c_seq ?_
    refine c_region ?_
    refine l_op (o_val (r_mv) ?_)
    refine l_op (o_val (r_fa rfl fo76_5) ?_)
    refine l_op (o_val (r_ld (v := t.cs.v) H (i := 0) rfl rfl ct74 rfl) ?_)
    refine l_op (o_val (r_lens el74 rfl) ?_)
    refine l_op (o_val (r_bin (a := (i : Int)) (b := (t.cs.len : Int)) rfl rfl (fun _ => b_lss)) ?_)
    first | refine l_end ?_ | refine l_nil ?_
    by_cases hc140 : (i : Int) < (t.cs.len : Int)
    ·
     repeat refine c_seq ?_
     refine c_yes (by exact congrArg Value.bool (decide_eq_true hc140)) ?_
     refine c_skip ?_
     repeat refine c_seq ?_
     refine c_block ?_
     repeat refine c_seq ?_
     refine c_region ?_
     refine l_op (o_val (r_mv) ?_)
     refine l_op (o_val (r_fa rfl fo76_5) ?_)
     refine l_op (o_val (r_ld (v := t.cs.v) H (i := 0) rfl rfl ct74 rfl) ?_)
     refine l_op (o_val (r_mv) ?_)
     have ah143 := ((hc.up H)).addr (by decide) (by first | omega | (dsimp only; omega))
     obtain ⟨ab141, ao142, ah143⟩ := ah143
     refine l_op (o_val (r_isN i rfl rfl el74 ah143 (by omega) (by (try simp only [Sl.cut]); omega)) ?_)
     have he145 : ∃ c, t.cs.l[i]? = some c := ⟨_, List.getElem?_eq_getElem (by have := ((hc.up H)).ln; (try dsimp only at this ⊢); omega)⟩
     obtain ⟨e144, he145⟩ := he145
     have hez146 := ((hc.up H)).sz e144 (List.mem_of_getElem? he145)
     refine l_op (o_val (r_ldRow (s := t.cs) (k := i) (hc.up H) ah143 rfl rt78 (by decide) he145) ?_)
     refine l_op (o_callR Try.func120 rfl rfl rfl (caveat14_ret _ e144 (hb.cs _ (List.mem_of_getElem? (by assumption)))) ?_)
     rintro _ w ⟨a147, c148, rfl, Hc⟩
     replace H : Hp _ w _ ([_, _, _, _, .own a147 9 c148 ((cavB e144).map V8) 5 1]) := H.call Hc
     clear Hc
     refine l_op (o_appB (s := ⟨hd a147, 9, c148, cavB e144⟩) (l' := [1] ++ t.head ++ [UInt8.ofNat t.cs.len] ++ cavsB (t.cs.l.take i) ++ (cavB e144)) (len' := ln + 9) rfl rfl H (i := 2) rfl sl29 Try.underlying29 rfl rfl (H.slOwn (i := 4) rfl) (by omega) (fun a149 c150 w H => ?_))
     replace H : Hp _ w _ ([_, _, .own a149 (ln + 9) c150 (([1] ++ t.head ++ [UInt8.ofNat t.cs.len] ++ cavsB (t.cs.l.take i) ++ (cavB e144)).map V8) 5 1, _, _]) := H
     refine l_op (o_val (r_as) ?_)
     first | refine l_end ?_ | refine l_nil ?_
     repeat refine c_seq ?_
     refine c_region ?_
     refine l_op (o_val (r_mv) ?_)
     refine l_op (o_val (r_bin (a := (i : Int)) (b := 1) rfl rfl (fun _ => b_add (by omega) (by omega))) ?_)
     refine l_op (o_val (r_as) ?_)
     first | refine l_end ?_ | refine l_nil ?_
     rw [List.append_assoc, cavsB_succ t.cs.l i e144 he145] at H
     refine round_end (i + 1, a149, ln + 9, c150) ?_ ?_ ?_
     · exact ⟨rfl, rfl, show VI ((i : Int) + 1) = VI ((i + 1 : Nat) : Int) from congrArg VI (by omega), trivial⟩
     · refine ⟨?_, ?_⟩
       · try dsimp only
         exact ⟨by omega, by omega⟩
       · exact H.sub (.cons_cons _ (.cons_cons _ (.cons_cons _ (.cons_cons _ (List.nil_sublist _)))))
     · show t.cs.len - (i + 1 : Nat) < t.cs.len - i; omega
    ·
     repeat refine c_seq ?_
     refine c_no (by exact congrArg Value.bool (decide_eq_false hc140)) ?_
     refine c_exit ?_
     repeat refine c_seq ?_
     refine c_region ?_
     refine l_op (o_val (r_mv) ?_)
     refine l_op (o_val (r_fa rfl fo76_6) ?_)
     refine l_op (o_val (r_slAo (o := 6) (h := 32) (m := 32) (lv := none) (hv := none) (mv := none) rfl ar31 rfl rfl rfl (fun w => sbn w)) ?_)
     refine l_op (o_appB (s := (⟨some ⟨b1, 6, none⟩, 32, 32, t.tag⟩ : Sl)) (l' := [1] ++ t.head ++ [UInt8.ofNat t.cs.len] ++ cavsB (t.cs.l.take i) ++ t.tag) (len' := ln + 32) rfl rfl H (i := 2) rfl sl29 Try.underlying29 rfl rfl (H.slTail (i := 0) (o := 6) (pre := [V64 t.serial, .string ⟨(t.tenant).toArray⟩, V8 t.rights, VI t.from_, VI t.until_, t.cs.v]) rfl rfl (show (t.tag).length = 32 from htag) (by decide)) (by omega) (fun a151 c152 w H => ?_))
     replace H : Hp _ w _ ([_, _, .own a151 (ln + 32) c152 (([1] ++ t.head ++ [UInt8.ofNat t.cs.len] ++ cavsB (t.cs.l.take i) ++ t.tag).map V8) 5 1, _]) := H
     refine l_op (o_val (r_as) ?_)
     refine l_op (o_val (r_as) ?_)
     first | refine l_end ?_ | refine l_nil ?_
     refine c_ret ?_
     try dsimp only [Exit.then, Exit.inBlock]
     refine e_retN (vs := [.slice (hd a151) (ln + 32) c152, VI 0]) _ Try.results82 rfl (resT (v := .slice (hd a151) (ln + 32) c152) rfl (resT (v := VI 0) rfl (resZ))) ?_
     refine ⟨_, rfl, ?_⟩
     have hi2 : i = t.cs.len := by omega
     refine ⟨_, _, _, rfl, by omega, ?_⟩
     rw [List.take_of_length_le (by have := hc.ln; omega)] at H
     exact H.sub (.cons _ (.cons _ (.cons_cons _ (List.nil_sublist _))))
   ·
    refine (o_callR Try.func126 rfl rfl rfl (head14_ret _ t (hc.up H) (show (t.tag).length = 32 from htag) (by first | omega | (dsimp only; omega) | simp) hb) ?_)
    rintro _ w ⟨a153, n154, c155, rfl, hn156, hh157, Hc⟩
    replace H : Hp _ w _ ([_, _, .own a153 n154 c155 ((t.head).map V8) 5 1]) := H.call Hc
    clear Hc
    try dsimp only at hn156
    refine ⟨H.sub (.cons_cons _ (List.nil_sublist _)), ?_⟩
    replace HS := H.sub (.cons_cons _ (List.nil_sublist _))
    refine t_step 0 rfl (by kernel_rfl) (o_bslB ([(1 : UInt8)]) H sl29 zc5 rfl rfl (by decide) (fun b158 w H hb158 => ?_))
    replace H : Hp _ w _ ([_, _, _, .own (some b158) 1 1 (([(1 : UInt8)]).map V8) 5 1]) := H
    refine ⟨H.sub (.cons_cons _ (List.nil_sublist _)), ?_⟩
    replace HS := H.sub (.cons_cons _ (List.nil_sublist _))
    refine t_step 3 rfl (by kernel_rfl) (o_appB (s := ⟨hd a153, n154, c155, t.head⟩) (l' := [(1 : UInt8)] ++ t.head) (len' := 1 + n154) rfl rfl H (i := 3) rfl sl29 Try.underlying29 rfl rfl (H.slOwn (i := 2) rfl) (by omega) (fun a159 c160 w H => ?_))
    replace H : Hp _ w _ ([_, _, _, .own a159 (1 + n154) c160 (([(1 : UInt8)] ++ t.head).map V8) 5 1]) := H
    refine ⟨H.sub (.cons_cons _ (List.nil_sublist _)), ?_⟩
    replace HS := H.sub (.cons_cons _ (List.nil_sublist _))
    refine t_step 9 rfl (by kernel_rfl) (o_appB (s := ⟨hd (some b129), 1, 1, [UInt8.ofNat t.cs.len]⟩) (l' := [(1 : UInt8)] ++ t.head ++ ([UInt8.ofNat t.cs.len])) (len' := 1 + n154 + 1) rfl rfl H (i := 3) rfl sl29 Try.underlying29 rfl rfl (H.slOwn (i := 1) rfl) (by omega) (fun a161 c162 w H => ?_))
    replace H : Hp _ w _ ([_, _, _, .own a161 (1 + n154 + 1) c162 (([(1 : UInt8)] ++ t.head ++ ([UInt8.ofNat t.cs.len])).map V8) 5 1]) := H
    refine ⟨H.sub (.cons_cons _ (List.nil_sublist _)), ?_⟩
    replace HS := H.sub (.cons_cons _ (List.nil_sublist _))
    refine t_take 10 rfl (by kernel_rfl) (by kernel_rfl) (by kernel_rfl) (fun _ _ _ h => h) (fun w HS => r_as) HS ?_
    refine t_done (by kernel_rfl) ?_
    clear HS
    repeat refine c_seq ?_
    refine c_region ?_
    refine l_op (o_val (r_as) ?_)
    first | refine l_end ?_ | refine l_nil ?_
    repeat refine c_seq ?_
    refine c_block ?_
    repeat refine c_seq ?_
    refine c_loop4 (fun (i : Nat) (a : Option Nat) (ln : Nat) (k : Nat) => [(1, .pointer (some ⟨b1, 0, none⟩)), (4, .slice (hd a) ln k), (5, VI (i : Int))])
      (fun (i : Nat) (a : Option Nat) (ln : Nat) (k : Nat) w => (i ≤ t.cs.len ∧ ln ≤ t.tenant.length + 66 + 9 * i) ∧ Hp w0 w [] ([.blk b1 ([V64 t.serial, .string ⟨(t.tenant).toArray⟩, V8 t.rights, VI t.from_, VI t.until_, t.cs.v] ++ (t.tag).map V8) 76, .own (some b129) 1 1 (([UInt8.ofNat t.cs.len]).map V8) 5 1, .own a153 n154 c155 ((t.head).map V8) 5 1, .own a ln k (([1] ++ t.head ++ [UInt8.ofNat t.cs.len] ++ cavsB (t.cs.l.take i)).map V8) 5 1]))
      (fun (i : Nat) (a : Option Nat) (ln : Nat) (k : Nat) => t.cs.len - i) 0 a161 (1 + n154 + 1) c162 ⟨rfl, rfl, rfl, trivial⟩ ⟨⟨Nat.zero_le _, by omega⟩, (by rw [show cavsB (t.cs.l.take 0) = [] from rfl, List.append_nil]; exact H)⟩ ?_
    clear H
    rintro i a ln k τ w ⟨⟨hi, hln⟩, H⟩
    repeat refine c_seq ?_
    refine c_region ?_
    refine l_op (o_val (r_mv) ?_)
    refine l_op (o_val (r_fa rfl fo76_5) ?_)
    refine l_op (o_val (r_ld (v := t.cs.v) H (i := 0) rfl rfl ct74 rfl) ?_)
    refine l_op (o_val (r_lens el74 rfl) ?_)
    refine l_op (o_val (r_bin (a := (i : Int)) (b := (t.cs.len : Int)) rfl rfl (fun _ => b_lss)) ?_)
    first | refine l_end ?_ | refine l_nil ?_
    by_cases hc163 : (i : Int) < (t.cs.len : Int)
    ·
     repeat refine c_seq ?_
     refine c_yes (by exact congrArg Value.bool (decide_eq_true hc163)) ?_
     refine c_skip ?_
     repeat refine c_seq ?_
     refine c_block ?_
     repeat refine c_seq ?_
     refine c_region ?_
     refine l_op (o_val (r_mv) ?_)
     refine l_op (o_val (r_fa rfl fo76_5) ?_)
     refine l_op (o_val (r_ld (v := t.cs.v) H (i := 0) rfl rfl ct74 rfl) ?_)
     refine l_op (o_val (r_mv) ?_)
     have ah166 := ((hc.up H)).addr (by decide) (by first | omega | (dsimp only; omega))
     obtain ⟨ab164, ao165, ah166⟩ := ah166
     refine l_op (o_val (r_isN i rfl rfl el74 ah166 (by omega) (by (try simp only [Sl.cut]); omega)) ?_)
     have he168 : ∃ c, t.cs.l[i]? = some c := ⟨_, List.getElem?_eq_getElem (by have := ((hc.up H)).ln; (try dsimp only at this ⊢); omega)⟩
     obtain ⟨e167, he168⟩ := he168
     have hez169 := ((hc.up H)).sz e167 (List.mem_of_getElem? he168)
     refine l_op (o_val (r_ldRow (s := t.cs) (k := i) (hc.up H) ah166 rfl rt78 (by decide) he168) ?_)
     refine l_op (o_callR Try.func120 rfl rfl rfl (caveat14_ret _ e167 (hb.cs _ (List.mem_of_getElem? (by assumption)))) ?_)
     rintro _ w ⟨a170, c171, rfl, Hc⟩
     replace H : Hp _ w _ ([_, _, _, _, .own a170 9 c171 ((cavB e167).map V8) 5 1]) := H.call Hc
     clear Hc
     refine l_op (o_appB (s := ⟨hd a170, 9, c171, cavB e167⟩) (l' := [1] ++ t.head ++ [UInt8.ofNat t.cs.len] ++ cavsB (t.cs.l.take i) ++ (cavB e167)) (len' := ln + 9) rfl rfl H (i := 3) rfl sl29 Try.underlying29 rfl rfl (H.slOwn (i := 4) rfl) (by omega) (fun a172 c173 w H => ?_))
     replace H : Hp _ w _ ([_, _, _, .own a172 (ln + 9) c173 (([1] ++ t.head ++ [UInt8.ofNat t.cs.len] ++ cavsB (t.cs.l.take i) ++ (cavB e167)).map V8) 5 1, _]) := H
     refine l_op (o_val (r_as) ?_)
     first | refine l_end ?_ | refine l_nil ?_
     repeat refine c_seq ?_
     refine c_region ?_
     refine l_op (o_val (r_mv) ?_)
     refine l_op (o_val (r_bin (a := (i : Int)) (b := 1) rfl rfl (fun _ => b_add (by omega) (by omega))) ?_)
     refine l_op (o_val (r_as) ?_)
     first | refine l_end ?_ | refine l_nil ?_
     rw [List.append_assoc, cavsB_succ t.cs.l i e167 he168] at H
     refine round_end (i + 1, a172, ln + 9, c173) ?_ ?_ ?_
     · exact ⟨rfl, rfl, show VI ((i : Int) + 1) = VI ((i + 1 : Nat) : Int) from congrArg VI (by omega), trivial⟩
     · refine ⟨?_, ?_⟩
       · try dsimp only
         exact ⟨by omega, by omega⟩
       · exact H.sub (.cons_cons _ (.cons_cons _ (.cons_cons _ (.cons_cons _ (List.nil_sublist _)))))
     · show t.cs.len - (i + 1 : Nat) < t.cs.len - i; omega
    ·
     repeat refine c_seq ?_
     refine c_no (by exact congrArg Value.bool (decide_eq_false hc163)) ?_
     refine c_exit ?_
     repeat refine c_seq ?_
     refine c_region ?_
     refine l_op (o_val (r_mv) ?_)
     refine l_op (o_val (r_fa rfl fo76_6) ?_)
     refine l_op (o_val (r_slAo (o := 6) (h := 32) (m := 32) (lv := none) (hv := none) (mv := none) rfl ar31 rfl rfl rfl (fun w => sbn w)) ?_)
     refine l_op (o_appB (s := (⟨some ⟨b1, 6, none⟩, 32, 32, t.tag⟩ : Sl)) (l' := [1] ++ t.head ++ [UInt8.ofNat t.cs.len] ++ cavsB (t.cs.l.take i) ++ t.tag) (len' := ln + 32) rfl rfl H (i := 3) rfl sl29 Try.underlying29 rfl rfl (H.slTail (i := 0) (o := 6) (pre := [V64 t.serial, .string ⟨(t.tenant).toArray⟩, V8 t.rights, VI t.from_, VI t.until_, t.cs.v]) rfl rfl (show (t.tag).length = 32 from htag) (by decide)) (by omega) (fun a174 c175 w H => ?_))
     replace H : Hp _ w _ ([_, _, _, .own a174 (ln + 32) c175 (([1] ++ t.head ++ [UInt8.ofNat t.cs.len] ++ cavsB (t.cs.l.take i) ++ t.tag).map V8) 5 1]) := H
     refine l_op (o_val (r_as) ?_)
     refine l_op (o_val (r_as) ?_)
     first | refine l_end ?_ | refine l_nil ?_
     refine c_ret ?_
     try dsimp only [Exit.then, Exit.inBlock]
     refine e_retN (vs := [.slice (hd a174) (ln + 32) c175, VI 0]) _ Try.results82 rfl (resT (v := .slice (hd a174) (ln + 32) c175) rfl (resT (v := VI 0) rfl (resZ))) ?_
     refine ⟨_, rfl, ?_⟩
     have hi2 : i = t.cs.len := by omega
     refine ⟨_, _, _, rfl, by omega, ?_⟩
     rw [List.take_of_length_le (by have := hc.ln; omega)] at H
     exact H.sub (.cons _ (.cons _ (.cons _ (.cons_cons _ (List.nil_sublist _)))))
theorem bytes14_no (w0 : World) (t : Tok) (hc : t.cs.ok cavE 2 w0) (htag : t.tag.length = 32) (hn : t.tenant.length ≤ 65536) (hm : mayT t = false) :
    Ret Try.prog 82 [.agg ([V64 t.serial, .string ⟨(t.tenant).toArray⟩, V8 t.rights, VI t.from_, VI t.until_, t.cs.v] ++ (t.tag).map V8).toArray] w0 fun v w' => v = .tuple #[.slice none 0 0, VI 1] ∧ Hp w0 w' [] [] := by
  refine ret_mk Try.func82 rfl Try.ntmps82 (by simp) ?_
  have H := Hp.refl w0 []
  repeat refine c_seq ?_
  refine c_region ?_
  refine l_op (o_box (v := .agg ([V64 t.serial, .string ⟨(t.tenant).toArray⟩, V8 t.rights, VI t.from_, VI t.until_, t.cs.v] ++ (t.tag).map V8).toArray) H rfl (fun b1 w H hb1 => ?_))
  replace H : Hp _ w _ ([.blk b1 ([V64 t.serial, .string ⟨(t.tenant).toArray⟩, V8 t.rights, VI t.from_, VI t.until_, t.cs.v] ++ (t.tag).map V8) 76]) := H
  refine l_op (o_val (r_as) ?_)
  refine l_op (o_val (r_as) ?_)
  first | refine l_end ?_ | refine l_nil ?_
  repeat refine c_seq ?_
  refine c_region ?_
  refine l_op (o_val (r_ldA (C := [V64 t.serial, .string ⟨(t.tenant).toArray⟩, V8 t.rights, VI t.from_, VI t.until_, t.cs.v] ++ (t.tag).map V8) H (i := 0) rfl rfl rt76 (by rw [List.length_append, List.length_map, (show (t.tag).length = 32 from htag)]; rfl)) ?_)
  refine l_op (o_callR Try.func76 rfl rfl rfl (may14_ret _ t (hc.up H) (show (t.tag).length = 32 from htag) (by first | omega | (dsimp only; omega) | simp)) ?_)
  rintro _ w ⟨rfl, Hc⟩
  replace H : Hp _ w _ ([_]) := H.call Hc
  clear Hc
  have hk2 : (mayT t) = false := hm
  refine l_op (o_val (r_not rfl) ?_)
  first | refine l_end ?_ | refine l_nil ?_
  repeat refine c_seq ?_
  refine c_yes (by exact congrArg Value.bool (congrArg not hk2)) ?_
  repeat refine c_seq ?_
  refine c_region ?_
  refine l_op (o_val (r_as) ?_)
  refine l_op (o_val (r_as) ?_)
  first | refine l_end ?_ | refine l_nil ?_
  refine c_ret ?_
  try dsimp only [Exit.then, Exit.inBlock]
  refine e_retN (vs := [.slice none 0 0, VI 1]) _ Try.results82 rfl (resT (v := .slice none 0 0) rfl (resT (v := VI 1) rfl (resZ))) ?_
  refine ⟨_, rfl, ?_⟩
  exact ⟨rfl, H.sub (List.nil_sublist _)⟩
end Go.Proofs.Ytjmbbhnpfmblpaa
namespace Go.Proofs.Ytjmbbhnpfmblpaa
open Go
set_option maxRecDepth 100000
theorem number14_ok (w0 : World) (s : Sl) (hs : s.ok w0) (ai : Int) (a : Nat) (hai : ai = (a : Int)) (hl : a + 8 ≤ s.len) (hm : s.len ≤ 1048576) :
    Ret Try.prog 133 [s.v, VI ai] w0 fun v w' => v = V64 (num s.l a 8) ∧ Hp w0 w' [] [] := by
  refine ret_mk Try.func133 rfl Try.ntmps133 (by simp) ?_
  have H := Hp.refl w0 []
  subst hai
  repeat refine c_seq ?_
  refine c_region ?_
  refine l_op (o_val (r_asV (c64 0 (by decide))) ?_)
  first | refine l_end ?_ | refine l_nil ?_
  repeat refine c_seq ?_
  refine c_region ?_
  refine l_op (o_val (r_mv) ?_)
  refine l_op (o_val (r_mv) ?_)
  refine l_op (o_callR Try.func114 rfl rfl rfl (at1_ok _ s (hs.up H (fun _ => apart_nil _)) a 8 (by omega) (by omega) (by omega) (by omega)) ?_)
  rintro _ w ⟨rfl, Hc⟩
  replace H : Hp _ w _ ([]) := H.call Hc
  clear Hc
  refine l_op (o_val (r_mv) ?_)
  refine l_op (o_val (r_ext rfl rfl) ?_)
  refine l_op (o_val (r_ext rfl rfl) ?_)
  refine l_op (o_val (r_as) ?_)
  refine l_op (o_val (r_as) ?_)
  first | refine l_end ?_ | refine l_nil ?_
  repeat refine c_seq ?_
  refine c_region ?_
  refine l_op (o_val (r_mv) ?_)
  refine l_op (o_val (r_as) ?_)
  first | refine l_end ?_ | refine l_nil ?_
  refine c_ret ?_
  try dsimp only [Exit.then, Exit.inBlock]
  refine e_ret1 (v := V64 (num s.l a 8)) Try.results133 rfl ?_
  refine ⟨_, rfl, ?_⟩
  exact ⟨rfl, H⟩
theorem getD_drop (l : List UInt8) (a j : Nat) : (l.drop a).getD j 0 = l.getD (a + j) 0 := by
  rw [List.getD_eq_getElem?_getD, List.getD_eq_getElem?_getD, List.getElem?_drop]
theorem num_of_drop (l : List UInt8) (a j n : Nat) : num (l.drop a) j n = num l (a + j) n := by rw [num, num, List.drop_drop]
theorem cavsAt_snoc : ∀ (i : Nat) (l : List UInt8), cavsAt (i + 1) l = cavsAt i l ++ [(l.getD (9 * i) 0, zagU (num l (9 * i + 1) 8))]
  | 0, l => by simp [cavsAt]
  | i + 1, l => by
    have ih := cavsAt_snoc i (l.drop 9)
    rw [cavsAt, ih, getD_drop, num_of_drop, show 9 + 9 * i = 9 * (i + 1) by omega, show 9 + (9 * i + 1) = 9 * (i + 1) + 1 by omega]
    simp [cavsAt]
theorem cavsAt_next (l : List UInt8) (b i : Nat) (cs : List Cav) (h : cavsAt i (l.drop b) = cs) : cavsAt (i + 1) (l.drop b) = cs ++ [(l.getD (b + 9 * i) 0, zagU (num l (b + 9 * i + 1) 8))] := by
  rw [cavsAt_snoc, h, getD_drop, num_of_drop, Nat.add_assoc]
theorem bd_of_fits (t : Tok) (h : t.tv.fits) : t.bd := ⟨h.f, h.u, h.c⟩
theorem take14_ret (w0 : World) (s : Sl) (hs : s.ok w0) (hm : s.len ≤ 1048576) :
    Ret Try.prog 103 [s.v] w0 fun v w' => (parseT s.l = none ∧ v = .tuple #[.agg (([V64 0, .string ⟨([] : List UInt8).toArray⟩, V8 0, VI 0, VI 0, .slice none 0 0] : List Value) ++ (List.replicate 32 (0 : UInt8)).map V8).toArray, VI 4] ∧ Hp w0 w' [] []) ∨ ∃ (T : TV) (a : Option Nat) (k : Nat), parseT s.l = some T ∧ v = .tuple #[.agg ([V64 T.serial, .string ⟨T.tenant.toArray⟩, V8 T.rights, VI T.from_, VI T.until_, .slice (hd a) T.cs.length k] ++ T.tag.map V8).toArray, VI 0] ∧ Hp w0 w' [] [.own a T.cs.length k (T.cs.flatMap cavE) 78 2] := by
  refine ret_mk Try.func103 rfl Try.ntmps103 (by simp) ?_
  have H := Hp.refl w0 []
  have hsl := hs.ln
  have hse := hs.le
  have hNlt : tkN s.l < 256 := u8_lt _
  have hKlt : tkK s.l < 256 := u8_lt _
  repeat refine c_seq ?_
  refine c_region ?_
  refine l_op (o_alloc H zc76 (fun b1 w H hb1 => ?_))
  replace H : Hp _ w _ ([.blk b1 ([V64 (0 : UInt64), .string ⟨(([] : List UInt8)).toArray⟩, V8 (0 : UInt8), VI 0, VI 0, .slice none 0 0] ++ (List.replicate 32 (0 : UInt8)).map V8) 76]) := H
  refine l_op (o_val (r_as) ?_)
  first | refine l_end ?_ | refine l_nil ?_
  repeat refine c_seq ?_
  refine c_region ?_
  refine l_op (o_val (r_mv) ?_)
  refine l_op (o_val (r_lens el29 rfl) ?_)
  refine l_op (o_val (r_bin (a := (s.len : Int)) (b := 60) rfl rfl (fun _ => b_lss)) ?_)
  first | refine l_end ?_ | refine l_nil ?_
  by_cases hc2 : (s.len : Int) < 60
  ·
   repeat refine c_seq ?_
   refine c_yes (by exact congrArg Value.bool (decide_eq_true hc2)) ?_
   repeat refine c_seq ?_
   refine c_region ?_
   refine l_op (o_val (r_bld' (cells := ([V64 (0 : UInt64), .string ⟨(([] : List UInt8)).toArray⟩, V8 (0 : UInt8), VI 0, VI 0, .slice none 0 0] ++ (List.replicate 32 (0 : UInt8)).map V8).toArray) (pv := []) bd76 rfl rfl) ?_)
   refine l_op (o_stW (C' := [V64 (0 : UInt64), .string ⟨(([] : List UInt8)).toArray⟩, V8 (0 : UInt8), VI 0, VI 0, .slice none 0 0] ++ (List.replicate 32 (0 : UInt8)).map V8) H (i := 0) rfl rfl rfl cs76 (by simp [Value.oneCell']) (by rw [List.length_append, List.length_map, (show (List.replicate 32 (0 : UInt8)).length = 32 from (List.length_replicate ..))]; rfl) (by rw [List.length_append, List.length_map, (show (List.replicate 32 (0 : UInt8)).length = 32 from (List.length_replicate ..))]; rfl) (fun w H => ?_))
   replace H : Hp _ w _ [_] := H
   refine l_op (o_val (r_as) ?_)
   first | refine l_end ?_ | refine l_nil ?_
   refine c_ret ?_
   try dsimp only [Exit.then, Exit.inBlock]
   refine e_retN (vs := [.agg ([V64 (0 : UInt64), .string ⟨(([] : List UInt8)).toArray⟩, V8 (0 : UInt8), VI 0, VI 0, .slice none 0 0] ++ (List.replicate 32 (0 : UInt8)).map V8).toArray, VI 4]) _ Try.results103 rfl (H.resR (C := [V64 (0 : UInt64), .string ⟨(([] : List UInt8)).toArray⟩, V8 (0 : UInt8), VI 0, VI 0, .slice none 0 0] ++ (List.replicate 32 (0 : UInt8)).map V8) (i := 0) rfl rfl rt76 (by rw [List.length_append, List.length_map, (show (List.replicate 32 (0 : UInt8)).length = 32 from (List.length_replicate ..))]; rfl) (resT (v := VI 4) rfl (resZ))) ?_
   refine ⟨_, rfl, ?_⟩
   refine .inl ⟨?_, rfl, H.sub (List.nil_sublist _)⟩
   exact Classical.byContradiction fun hp => by
     obtain ⟨q1, q2, q3, q4⟩ := parse_len _ hp
     omega
  ·
   repeat refine c_seq ?_
   refine c_no (by exact congrArg Value.bool (decide_eq_false hc2)) ?_
   refine c_skip ?_
   repeat refine c_seq ?_
   refine c_region ?_
   refine l_op (o_val (r_mv) ?_)
   refine l_op (o_callR Try.func133 rfl rfl rfl (number14_ok _ s (hs.up H (fun _ => apart_nil _)) (1) (1) (by omega) (by omega) (by omega)) ?_)
   rintro _ w ⟨rfl, Hc⟩
   replace H : Hp _ w _ ([_]) := H.call Hc
   clear Hc
   refine l_op (o_val (r_bld' (cells := ([V64 (num s.l 1 8), .string ⟨(([] : List UInt8)).toArray⟩, V8 (0 : UInt8), VI 0, VI 0, .slice none 0 0] ++ (List.replicate 32 (0 : UInt8)).map V8).toArray) (pv := [(0, V64 (num s.l 1 8))]) bd76 rfl rfl) ?_)
   refine l_op (o_alloc H zc76 (fun b3 w H hb3 => ?_))
   replace H : Hp _ w _ ([_, .blk b3 ([V64 (0 : UInt64), .string ⟨(([] : List UInt8)).toArray⟩, V8 (0 : UInt8), VI 0, VI 0, .slice none 0 0] ++ (List.replicate 32 (0 : UInt8)).map V8) 76]) := H
   refine l_op (o_stW (C' := [V64 (num s.l 1 8), .string ⟨(([] : List UInt8)).toArray⟩, V8 (0 : UInt8), VI 0, VI 0, .slice none 0 0] ++ (List.replicate 32 (0 : UInt8)).map V8) H (i := 1) rfl rfl rfl cs76 (by simp [Value.oneCell']) (by rw [List.length_append, List.length_map, (show (List.replicate 32 (0 : UInt8)).length = 32 from (List.length_replicate ..))]; rfl) (by rw [List.length_append, List.length_map, (show (List.replicate 32 (0 : UInt8)).length = 32 from (List.length_replicate ..))]; rfl) (fun w H => ?_))
   replace H : Hp _ w _ ([_, .blk b3 ([V64 (num s.l 1 8), .string ⟨(([] : List UInt8)).toArray⟩, V8 (0 : UInt8), VI 0, VI 0, .slice none 0 0] ++ (List.replicate 32 (0 : UInt8)).map V8) 76]) := H
   first | refine l_end ?_ | refine l_nil ?_
   repeat refine c_seq ?_
   refine c_region ?_
   refine l_op (o_val (r_mv) ?_)
   have ah6 := ((hs.up H (fun _ => apart_nil _))).addr (by (try simp only [Sl.cut]); omega)
   obtain ⟨ab4, ao5, ah6⟩ := ah6
   refine l_op (o_val (r_isN 9 rfl rfl el29 ah6 (by omega) (by (try simp only [Sl.cut]); omega)) ?_)
   refine l_op (o_val (r_ldB (s := s) (k := 9) (hs.up H (fun _ => apart_nil _)) ah6 rfl ct5 (by (try simp only [Sl.cut]); omega)) ?_)
   refine l_op (o_val (r_conv Try.underlying5 Try.underlying3 rfl (w_i64_8 _)) ?_)
   refine l_op (o_val (r_as) ?_)
   first | refine l_end ?_ | refine l_nil ?_
   repeat refine c_seq ?_
   refine c_region ?_
   refine l_op (o_val (r_mv) ?_)
   refine l_op (o_val (r_bin (a := (tkN s.l : Int)) (b := 16) rfl rfl (fun _ => b_gtr)) ?_)
   refine l_op (o_val (r_mv) ?_)
   by_cases hc7 : 16 < (tkN s.l : Int)
   ·
    refine l_no rfl rfl (by exact congrArg Value.bool (decide_eq_true hc7)) rfl ?_
    refine l_no rfl rfl (by exact congrArg Value.bool (decide_eq_true hc7)) rfl ?_
    refine l_no rfl rfl (by exact congrArg Value.bool (decide_eq_true hc7)) rfl ?_
    refine l_no rfl rfl (by exact congrArg Value.bool (decide_eq_true hc7)) rfl ?_
    refine l_no rfl rfl (by exact congrArg Value.bool (decide_eq_true hc7)) rfl ?_
    refine l_op (o_val (r_pick (b := true) (congrArg Value.bool (decide_eq_true hc7))) ?_)
    first | refine l_end ?_ | refine l_nil ?_
    repeat refine c_seq ?_
    refine c_yes rfl ?_
    repeat refine c_seq ?_
    refine c_region ?_
    refine l_op (o_val (r_bld' (cells := ([V64 (0 : UInt64), .string ⟨(([] : List UInt8)).toArray⟩, V8 (0 : UInt8), VI 0, VI 0, .slice none 0 0] ++ (List.replicate 32 (0 : UInt8)).map V8).toArray) (pv := []) bd76 rfl rfl) ?_)
    refine l_op (o_stW (C' := [V64 (0 : UInt64), .string ⟨(([] : List UInt8)).toArray⟩, V8 (0 : UInt8), VI 0, VI 0, .slice none 0 0] ++ (List.replicate 32 (0 : UInt8)).map V8) H (i := 0) rfl rfl rfl cs76 (by simp [Value.oneCell']) (by rw [List.length_append, List.length_map, (show (List.replicate 32 (0 : UInt8)).length = 32 from (List.length_replicate ..))]; rfl) (by rw [List.length_append, List.length_map, (show (List.replicate 32 (0 : UInt8)).length = 32 from (List.length_replicate ..))]; rfl) (fun w H => ?_))
    replace H : Hp _ w _ [_, _] := H
    refine l_op (o_val (r_as) ?_)
    first | refine l_end ?_ | refine l_nil ?_
    refine c_ret ?_
    try dsimp only [Exit.then, Exit.inBlock]
    refine e_retN (vs := [.agg ([V64 (0 : UInt64), .string ⟨(([] : List UInt8)).toArray⟩, V8 (0 : UInt8), VI 0, VI 0, .slice none 0 0] ++ (List.replicate 32 (0 : UInt8)).map V8).toArray, VI 4]) _ Try.results103 rfl (H.resR (C := [V64 (0 : UInt64), .string ⟨(([] : List UInt8)).toArray⟩, V8 (0 : UInt8), VI 0, VI 0, .slice none 0 0] ++ (List.replicate 32 (0 : UInt8)).map V8) (i := 0) rfl rfl rt76 (by rw [List.length_append, List.length_map, (show (List.replicate 32 (0 : UInt8)).length = 32 from (List.length_replicate ..))]; rfl) (resT (v := VI 4) rfl (resZ))) ?_
    refine ⟨_, rfl, ?_⟩
    refine .inl ⟨?_, rfl, H.sub (List.nil_sublist _)⟩
    exact Classical.byContradiction fun hp => by
      obtain ⟨q1, q2, q3, q4⟩ := parse_len _ hp
      omega
   ·
    refine l_yes rfl rfl (by exact congrArg Value.bool (decide_eq_false hc7)) (o_val (r_mv) ?_)
    refine l_yes rfl rfl (by exact congrArg Value.bool (decide_eq_false hc7)) (o_val (r_lens el29 rfl) ?_)
    refine l_yes rfl rfl (by exact congrArg Value.bool (decide_eq_false hc7)) (o_val (r_mv) ?_)
    refine l_yes rfl rfl (by exact congrArg Value.bool (decide_eq_false hc7)) (o_val (r_bin (a := 60) (b := (tkN s.l : Int)) rfl rfl (fun _ => b_add (by omega) (by omega))) ?_)
    refine l_yes rfl rfl (by exact congrArg Value.bool (decide_eq_false hc7)) (o_val (r_bin (a := (s.len : Int)) (b := 60 + (tkN s.l : Int)) rfl rfl (fun _ => b_lss)) ?_)
    refine l_op (o_val (r_pick (b := false) (congrArg Value.bool (decide_eq_false hc7))) ?_)
    first | refine l_end ?_ | refine l_nil ?_
    by_cases hc8 : (s.len : Int) < 60 + (tkN s.l : Int)
    ·
     repeat refine c_seq ?_
     refine c_yes (by exact congrArg Value.bool (decide_eq_true hc8)) ?_
     repeat refine c_seq ?_
     refine c_region ?_
     refine l_op (o_val (r_bld' (cells := ([V64 (0 : UInt64), .string ⟨(([] : List UInt8)).toArray⟩, V8 (0 : UInt8), VI 0, VI 0, .slice none 0 0] ++ (List.replicate 32 (0 : UInt8)).map V8).toArray) (pv := []) bd76 rfl rfl) ?_)
     refine l_op (o_stW (C' := [V64 (0 : UInt64), .string ⟨(([] : List UInt8)).toArray⟩, V8 (0 : UInt8), VI 0, VI 0, .slice none 0 0] ++ (List.replicate 32 (0 : UInt8)).map V8) H (i := 0) rfl rfl rfl cs76 (by simp [Value.oneCell']) (by rw [List.length_append, List.length_map, (show (List.replicate 32 (0 : UInt8)).length = 32 from (List.length_replicate ..))]; rfl) (by rw [List.length_append, List.length_map, (show (List.replicate 32 (0 : UInt8)).length = 32 from (List.length_replicate ..))]; rfl) (fun w H => ?_))
     replace H : Hp _ w _ [_, _] := H
     refine l_op (o_val (r_as) ?_)
     first | refine l_end ?_ | refine l_nil ?_
     refine c_ret ?_
     try dsimp only [Exit.then, Exit.inBlock]
     refine e_retN (vs := [.agg ([V64 (0 : UInt64), .string ⟨(([] : List UInt8)).toArray⟩, V8 (0 : UInt8), VI 0, VI 0, .slice none 0 0] ++ (List.replicate 32 (0 : UInt8)).map V8).toArray, VI 4]) _ Try.results103 rfl (H.resR (C := [V64 (0 : UInt64), .string ⟨(([] : List UInt8)).toArray⟩, V8 (0 : UInt8), VI 0, VI 0, .slice none 0 0] ++ (List.replicate 32 (0 : UInt8)).map V8) (i := 0) rfl rfl rt76 (by rw [List.length_append, List.length_map, (show (List.replicate 32 (0 : UInt8)).length = 32 from (List.length_replicate ..))]; rfl) (resT (v := VI 4) rfl (resZ))) ?_
     refine ⟨_, rfl, ?_⟩
     refine .inl ⟨?_, rfl, H.sub (List.nil_sublist _)⟩
     exact Classical.byContradiction fun hp => by
       obtain ⟨q1, q2, q3, q4⟩ := parse_len _ hp
       omega
    ·
     repeat refine c_seq ?_
     refine c_no (by exact congrArg Value.bool (decide_eq_false hc8)) ?_
     refine c_skip ?_
     repeat refine c_seq ?_
     refine c_region ?_
     refine l_op (o_val (r_mv) ?_)
     refine l_op (o_val (r_bin (a := 10) (b := (tkN s.l : Int)) rfl rfl (fun _ => b_add (by omega) (by omega))) ?_)
     refine l_op (o_val (r_as) ?_)
     first | refine l_end ?_ | refine l_nil ?_
     repeat refine c_seq ?_
     refine wp_held (fun w => Hp w0 w [] [.blk b1 ([V64 (0 : UInt64), .string ⟨(([] : List UInt8)).toArray⟩, V8 (0 : UInt8), VI 0, VI 0, .slice none 0 0] ++ (List.replicate 32 (0 : UInt8)).map V8) 76]) mixed ?_
     replace H := H.drew
     have HS := H.sub (.cons_cons _ (List.nil_sublist _))
     refine t_take 0 rfl (by kernel_rfl) (by kernel_rfl) (by kernel_rfl) (fun _ _ _ h => h) (fun w HS => r_mv) HS ?_
     refine t_take 1 rfl (by kernel_rfl) (by kernel_rfl) (by kernel_rfl) (fun _ _ _ h => h) (fun w HS => r_mv) HS ?_
     refine t_take 2 rfl (by kernel_rfl) (by kernel_rfl) (by kernel_rfl) (fun _ _ _ h => h) (fun w HS => r_slS (s := s) 10 (10 + tkN s.l) s.cap (lv := some (VI 10)) (hv := some (VI (10 + (tkN s.l : Int)))) (mv := none) rfl el29 rfl rfl rfl (fun w => by exact sblh 10 (10 + tkN s.l) (by omega) (by omega) (by omega) (by omega) w)) HS ?_
     refine t_take 3 rfl (by kernel_rfl) (by kernel_rfl) (by kernel_rfl) (fun _ _ _ h => h) (fun w HS => r_b2S (s := (Sl.cut s 10 (10 + tkN s.l) s.cap)) Try.underlying29 Try.underlying5 Try.underlying9 rfl ((hs.up HS (fun _ => apart_nil _)).cut (l := 10) (h := 10 + tkN s.l) (m := s.cap) (by omega) (by omega) (by omega) (by omega))) HS ?_
     refine t_take 4 rfl (by kernel_rfl) (by kernel_rfl) (by kernel_rfl) (fun _ _ _ h => h) (fun w HS => r_mv) HS ?_
     refine t_take 5 rfl (by kernel_rfl) (by kernel_rfl) (by kernel_rfl) (fun _ _ _ h => h) (fun w HS => r_mv) HS ?_
     refine t_take 6 rfl (by kernel_rfl) (by kernel_rfl) (by kernel_rfl) (fun _ _ _ h => h) (fun w HS => r_isN (10 + (tkN s.l)) rfl rfl el29 ah6 (by omega) (by (try simp only [Sl.cut]); omega)) HS ?_
     refine t_take 7 rfl (by kernel_rfl) (by kernel_rfl) (by kernel_rfl) (fun _ _ _ h => h) (fun w HS => r_ldB (s := s) (k := 10 + (tkN s.l)) (hs.up HS (fun _ => apart_nil _)) ah6 rfl ct5 (by (try simp only [Sl.cut]); omega)) HS ?_
     refine t_take 8 rfl (by kernel_rfl) (by kernel_rfl) (by kernel_rfl) (fun _ _ _ h => h) (fun w HS => r_fa rfl fo76_1) HS ?_
     refine t_step 9 rfl (by kernel_rfl) (o_st (v := .string ⟨((s.l.drop 10).take (10 + tkN s.l - 10)).toArray⟩) H (i := 1) rfl rfl rfl cs9 rfl (by simp only [List.length_append, List.length_cons, List.length_nil]; omega) (fun w H => ?_))
     replace H : Hp _ w _ ([_, .blk b3 ([V64 (num s.l 1 8), .string ⟨((s.l.drop 10).take (10 + tkN s.l - 10)).toArray⟩, V8 (0 : UInt8), VI 0, VI 0, .slice none 0 0] ++ (List.replicate 32 (0 : UInt8)).map V8) 76]) := H
     refine ⟨H.sub (.cons_cons _ (List.nil_sublist _)), ?_⟩
     replace HS := H.sub (.cons_cons _ (List.nil_sublist _))
     refine t_take 10 rfl (by kernel_rfl) (by kernel_rfl) (by kernel_rfl) (fun _ _ _ h => h) (fun w HS => r_fa rfl fo76_2) HS ?_
     refine t_step 11 rfl (by kernel_rfl) (o_st (v := V8 ((s.l).getD (10 + (tkN s.l)) 0)) H (i := 1) rfl rfl rfl cs73 rfl (by simp only [List.length_append, List.length_cons, List.length_nil]; omega) (fun w H => ?_))
     replace H : Hp _ w _ ([_, .blk b3 ([V64 (num s.l 1 8), .string ⟨((s.l.drop 10).take (10 + tkN s.l - 10)).toArray⟩, V8 ((s.l).getD (10 + (tkN s.l)) 0), VI 0, VI 0, .slice none 0 0] ++ (List.replicate 32 (0 : UInt8)).map V8) 76]) := H
     refine ⟨H.sub (.cons_cons _ (List.nil_sublist _)), ?_⟩
     replace HS := H.sub (.cons_cons _ (List.nil_sublist _))
     refine t_done (by kernel_rfl) ?_
     clear HS
     repeat refine c_seq ?_
     refine c_region ?_
     refine l_op (o_val (r_mv) ?_)
     refine l_op (o_val (r_mv) ?_)
     refine l_op (o_val (r_bin (a := 10 + (tkN s.l : Int)) (b := 1) rfl rfl (fun _ => b_add (by omega) (by omega))) ?_)
     refine l_op (o_callR Try.func133 rfl rfl rfl (number14_ok _ s (hs.up H (fun _ => apart_nil _)) ((10 + (tkN s.l : Int)) + 1) (11 + tkN s.l) (by omega) (by omega) (by omega)) ?_)
     rintro _ w ⟨rfl, Hc⟩
     replace H : Hp _ w _ ([_, _]) := H.call Hc
     clear Hc
     refine l_op (o_callR Try.func134 rfl rfl rfl (zag1_ret _ (num s.l (11 + tkN s.l) 8)) ?_)
     rintro _ w ⟨rfl, Hc⟩
     replace H : Hp _ w _ ([_, _]) := H.call Hc
     clear Hc
     refine l_op (o_val (r_mv) ?_)
     refine l_op (o_val (r_mv) ?_)
     refine l_op (o_val (r_bin (a := 10 + (tkN s.l : Int)) (b := 9) rfl rfl (fun _ => b_add (by omega) (by omega))) ?_)
     refine l_op (o_callR Try.func133 rfl rfl rfl (number14_ok _ s (hs.up H (fun _ => apart_nil _)) ((10 + (tkN s.l : Int)) + 9) (19 + tkN s.l) (by omega) (by omega) (by omega)) ?_)
     rintro _ w ⟨rfl, Hc⟩
     replace H : Hp _ w _ ([_, _]) := H.call Hc
     clear Hc
     refine l_op (o_callR Try.func134 rfl rfl rfl (zag1_ret _ (num s.l (19 + tkN s.l) 8)) ?_)
     rintro _ w ⟨rfl, Hc⟩
     replace H : Hp _ w _ ([_, _]) := H.call Hc
     clear Hc
     refine l_op (o_val (r_fa rfl fo76_3) ?_)
     refine l_op (o_st (v := VI (zagU (num s.l (11 + tkN s.l) 8))) H (i := 1) rfl rfl rfl cs2 rfl (by simp only [List.length_append, List.length_cons, List.length_nil]; omega) (fun w H => ?_))
     replace H : Hp _ w _ ([_, .blk b3 ([V64 (num s.l 1 8), .string ⟨((s.l.drop 10).take (10 + tkN s.l - 10)).toArray⟩, V8 ((s.l).getD (10 + (tkN s.l)) 0), VI (zagU (num s.l (11 + tkN s.l) 8)), VI 0, .slice none 0 0] ++ (List.replicate 32 (0 : UInt8)).map V8) 76]) := H
     refine l_op (o_val (r_fa rfl fo76_4) ?_)
     refine l_op (o_st (v := VI (zagU (num s.l (19 + tkN s.l) 8))) H (i := 1) rfl rfl rfl cs2 rfl (by simp only [List.length_append, List.length_cons, List.length_nil]; omega) (fun w H => ?_))
     replace H : Hp _ w _ ([_, .blk b3 ([V64 (num s.l 1 8), .string ⟨((s.l.drop 10).take (10 + tkN s.l - 10)).toArray⟩, V8 ((s.l).getD (10 + (tkN s.l)) 0), VI (zagU (num s.l (11 + tkN s.l) 8)), VI (zagU (num s.l (19 + tkN s.l) 8)), .slice none 0 0] ++ (List.replicate 32 (0 : UInt8)).map V8) 76]) := H
     first | refine l_end ?_ | refine l_nil ?_
     repeat refine c_seq ?_
     refine c_region ?_
     refine l_op (o_val (r_mv) ?_)
     refine l_op (o_val (r_mv) ?_)
     refine l_op (o_val (r_bin (a := 10 + (tkN s.l : Int)) (b := 17) rfl rfl (fun _ => b_add (by omega) (by omega))) ?_)
     refine l_op (o_val (r_isN (27 + tkN s.l) rfl rfl el29 ah6 (by omega) (by omega)) ?_)
     refine l_op (o_val (r_ldB (s := s) (k := 27 + tkN s.l) (hs.up H (fun _ => apart_nil _)) ah6 rfl ct5 (by (try simp only [Sl.cut]); omega)) ?_)
     refine l_op (o_val (r_conv Try.underlying5 Try.underlying3 rfl (w_i64_8 _)) ?_)
     refine l_op (o_val (r_as) ?_)
     first | refine l_end ?_ | refine l_nil ?_
     repeat refine c_seq ?_
     refine c_region ?_
     refine l_op (o_val (r_mv) ?_)
     refine l_op (o_val (r_bin (a := 10 + (tkN s.l : Int)) (b := 18) rfl rfl (fun _ => b_add (by omega) (by omega))) ?_)
     refine l_op (o_val (r_as) ?_)
     first | refine l_end ?_ | refine l_nil ?_
     repeat refine c_seq ?_
     refine c_region ?_
     refine l_op (o_val (r_mv) ?_)
     refine l_op (o_val (r_bin (a := (tkK s.l : Int)) (b := 8) rfl rfl (fun _ => b_gtr)) ?_)
     refine l_op (o_val (r_mv) ?_)
     by_cases hc9 : 8 < (tkK s.l : Int)
     ·
      refine l_no rfl rfl (by exact congrArg Value.bool (decide_eq_true hc9)) rfl ?_
      refine l_no rfl rfl (by exact congrArg Value.bool (decide_eq_true hc9)) rfl ?_
      refine l_no rfl rfl (by exact congrArg Value.bool (decide_eq_true hc9)) rfl ?_
      refine l_no rfl rfl (by exact congrArg Value.bool (decide_eq_true hc9)) rfl ?_
      refine l_no rfl rfl (by exact congrArg Value.bool (decide_eq_true hc9)) rfl ?_
      refine l_no rfl rfl (by exact congrArg Value.bool (decide_eq_true hc9)) rfl ?_
      refine l_no rfl rfl (by exact congrArg Value.bool (decide_eq_true hc9)) rfl ?_
      refine l_no rfl rfl (by exact congrArg Value.bool (decide_eq_true hc9)) rfl ?_
      refine l_op (o_val (r_pick (b := true) (congrArg Value.bool (decide_eq_true hc9))) ?_)
      first | refine l_end ?_ | refine l_nil ?_
      repeat refine c_seq ?_
      refine c_yes rfl ?_
      repeat refine c_seq ?_
      refine c_region ?_
      refine l_op (o_val (r_bld' (cells := ([V64 (0 : UInt64), .string ⟨(([] : List UInt8)).toArray⟩, V8 (0 : UInt8), VI 0, VI 0, .slice none 0 0] ++ (List.replicate 32 (0 : UInt8)).map V8).toArray) (pv := []) bd76 rfl rfl) ?_)
      refine l_op (o_stW (C' := [V64 (0 : UInt64), .string ⟨(([] : List UInt8)).toArray⟩, V8 (0 : UInt8), VI 0, VI 0, .slice none 0 0] ++ (List.replicate 32 (0 : UInt8)).map V8) H (i := 0) rfl rfl rfl cs76 (by simp [Value.oneCell']) (by rw [List.length_append, List.length_map, (show (List.replicate 32 (0 : UInt8)).length = 32 from (List.length_replicate ..))]; rfl) (by rw [List.length_append, List.length_map, (show (List.replicate 32 (0 : UInt8)).length = 32 from (List.length_replicate ..))]; rfl) (fun w H => ?_))
      replace H : Hp _ w _ [_, _] := H
      refine l_op (o_val (r_as) ?_)
      first | refine l_end ?_ | refine l_nil ?_
      refine c_ret ?_
      try dsimp only [Exit.then, Exit.inBlock]
      refine e_retN (vs := [.agg ([V64 (0 : UInt64), .string ⟨(([] : List UInt8)).toArray⟩, V8 (0 : UInt8), VI 0, VI 0, .slice none 0 0] ++ (List.replicate 32 (0 : UInt8)).map V8).toArray, VI 4]) _ Try.results103 rfl (H.resR (C := [V64 (0 : UInt64), .string ⟨(([] : List UInt8)).toArray⟩, V8 (0 : UInt8), VI 0, VI 0, .slice none 0 0] ++ (List.replicate 32 (0 : UInt8)).map V8) (i := 0) rfl rfl rt76 (by rw [List.length_append, List.length_map, (show (List.replicate 32 (0 : UInt8)).length = 32 from (List.length_replicate ..))]; rfl) (resT (v := VI 4) rfl (resZ))) ?_
      refine ⟨_, rfl, ?_⟩
      refine .inl ⟨?_, rfl, H.sub (List.nil_sublist _)⟩
      exact Classical.byContradiction fun hp => by
        obtain ⟨q1, q2, q3, q4⟩ := parse_len _ hp
        omega
     ·
      refine l_yes rfl rfl (by exact congrArg Value.bool (decide_eq_false hc9)) (o_val (r_mv) ?_)
      refine l_yes rfl rfl (by exact congrArg Value.bool (decide_eq_false hc9)) (o_val (r_lens el29 rfl) ?_)
      refine l_yes rfl rfl (by exact congrArg Value.bool (decide_eq_false hc9)) (o_val (r_mv) ?_)
      refine l_yes rfl rfl (by exact congrArg Value.bool (decide_eq_false hc9)) (o_val (r_mv) ?_)
      refine l_yes rfl rfl (by exact congrArg Value.bool (decide_eq_false hc9)) (o_val (r_bin (a := 9) (b := (tkK s.l : Int)) rfl rfl (fun _ => b_mul (by omega) (by omega))) ?_)
      refine l_yes rfl rfl (by exact congrArg Value.bool (decide_eq_false hc9)) (o_val (r_bin (a := (10 + (tkN s.l : Int)) + 18) (b := 9 * (tkK s.l : Int)) rfl rfl (fun _ => b_add (by omega) (by omega))) ?_)
      refine l_yes rfl rfl (by exact congrArg Value.bool (decide_eq_false hc9)) (o_val (r_bin (a := ((10 + (tkN s.l : Int)) + 18) + (9 * (tkK s.l : Int))) (b := 32) rfl rfl (fun _ => b_add (by omega) (by omega))) ?_)
      refine l_yes rfl rfl (by exact congrArg Value.bool (decide_eq_false hc9)) (o_val (r_bin (a := (s.len : Int)) (b := (((10 + (tkN s.l : Int)) + 18) + (9 * (tkK s.l : Int))) + 32) rfl rfl (fun _ => b_neq)) ?_)
      refine l_op (o_val (r_pick (b := false) (congrArg Value.bool (decide_eq_false hc9))) ?_)
      first | refine l_end ?_ | refine l_nil ?_
      by_cases hc10 : (s.len : Int) ≠ (((10 + (tkN s.l : Int)) + 18) + (9 * (tkK s.l : Int))) + 32
      ·
       repeat refine c_seq ?_
       refine c_yes (by exact congrArg Value.bool (decide_eq_true hc10)) ?_
       repeat refine c_seq ?_
       refine c_region ?_
       refine l_op (o_val (r_bld' (cells := ([V64 (0 : UInt64), .string ⟨(([] : List UInt8)).toArray⟩, V8 (0 : UInt8), VI 0, VI 0, .slice none 0 0] ++ (List.replicate 32 (0 : UInt8)).map V8).toArray) (pv := []) bd76 rfl rfl) ?_)
       refine l_op (o_stW (C' := [V64 (0 : UInt64), .string ⟨(([] : List UInt8)).toArray⟩, V8 (0 : UInt8), VI 0, VI 0, .slice none 0 0] ++ (List.replicate 32 (0 : UInt8)).map V8) H (i := 0) rfl rfl rfl cs76 (by simp [Value.oneCell']) (by rw [List.length_append, List.length_map, (show (List.replicate 32 (0 : UInt8)).length = 32 from (List.length_replicate ..))]; rfl) (by rw [List.length_append, List.length_map, (show (List.replicate 32 (0 : UInt8)).length = 32 from (List.length_replicate ..))]; rfl) (fun w H => ?_))
       replace H : Hp _ w _ [_, _] := H
       refine l_op (o_val (r_as) ?_)
       first | refine l_end ?_ | refine l_nil ?_
       refine c_ret ?_
       try dsimp only [Exit.then, Exit.inBlock]
       refine e_retN (vs := [.agg ([V64 (0 : UInt64), .string ⟨(([] : List UInt8)).toArray⟩, V8 (0 : UInt8), VI 0, VI 0, .slice none 0 0] ++ (List.replicate 32 (0 : UInt8)).map V8).toArray, VI 4]) _ Try.results103 rfl (H.resR (C := [V64 (0 : UInt64), .string ⟨(([] : List UInt8)).toArray⟩, V8 (0 : UInt8), VI 0, VI 0, .slice none 0 0] ++ (List.replicate 32 (0 : UInt8)).map V8) (i := 0) rfl rfl rt76 (by rw [List.length_append, List.length_map, (show (List.replicate 32 (0 : UInt8)).length = 32 from (List.length_replicate ..))]; rfl) (resT (v := VI 4) rfl (resZ))) ?_
       refine ⟨_, rfl, ?_⟩
       refine .inl ⟨?_, rfl, H.sub (List.nil_sublist _)⟩
       exact Classical.byContradiction fun hp => by
         obtain ⟨q1, q2, q3, q4⟩ := parse_len _ hp
         omega
      ·
       repeat refine c_seq ?_
       refine c_no (by exact congrArg Value.bool (decide_eq_false hc10)) ?_
       refine c_skip ?_
       repeat refine c_seq ?_
       refine c_region ?_
       refine l_op (o_val (r_as) ?_)
       first | refine l_end ?_ | refine l_nil ?_
       repeat refine c_seq ?_
       refine c_block ?_
       repeat refine c_seq ?_
       refine c_loop5 (fun (i : Nat) (ai : Int) (cs : List Cav) (a : Option Nat) (k : Nat) => [(0, s.v), (2, .pointer (some ⟨b1, 0, none⟩)), (4, .pointer (some ⟨b3, 0, none⟩)), (6, VI ai), (7, VI (tkK s.l : Int)), (8, VI (i : Int))])
         (fun (i : Nat) (ai : Int) (cs : List Cav) (a : Option Nat) (k : Nat) w => (i ≤ tkK s.l ∧ ai = 28 + tkN s.l + 9 * i ∧ cavsAt i (s.l.drop (28 + tkN s.l)) = cs) ∧ Hp w0 w [] ([.blk b1 ([V64 (0 : UInt64), .string ⟨(([] : List UInt8)).toArray⟩, V8 (0 : UInt8), VI 0, VI 0, .slice none 0 0] ++ (List.replicate 32 (0 : UInt8)).map V8) 76, .blk b3 ([V64 (num s.l 1 8), .string ⟨((s.l.drop 10).take (10 + tkN s.l - 10)).toArray⟩, V8 ((s.l).getD (10 + (tkN s.l)) 0), VI (zagU (num s.l (11 + tkN s.l) 8)), VI (zagU (num s.l (19 + tkN s.l) 8)), .slice (hd a) i k] ++ (List.replicate 32 (0 : UInt8)).map V8) 76, .own a i k ((cs).flatMap cavE) 78 2]))
         (fun (i : Nat) (ai : Int) (cs : List Cav) (a : Option Nat) (k : Nat) => tkK s.l - i) 0 ((10 + (tkN s.l : Int)) + 18) ([]) none 0 ⟨rfl, rfl, rfl, rfl, rfl, rfl, trivial⟩ ⟨⟨Nat.zero_le _, by omega, rfl⟩, (H.nilEnd 78 2)⟩ ?_
       clear H
       rintro i ai cs a k τ w ⟨⟨hi, hai, hcs⟩, H⟩
       repeat refine c_seq ?_
       refine c_region ?_
       refine l_op (o_val (r_mv) ?_)
       refine l_op (o_val (r_mv) ?_)
       refine l_op (o_val (r_bin (a := (i : Int)) (b := (tkK s.l : Int)) rfl rfl (fun _ => b_lss)) ?_)
       first | refine l_end ?_ | refine l_nil ?_
       by_cases hc11 : (i : Int) < (tkK s.l : Int)
       ·
        repeat refine c_seq ?_
        refine c_yes (by exact congrArg Value.bool (decide_eq_true hc11)) ?_
        refine c_skip ?_
        repeat refine c_seq ?_
        refine c_block ?_
        repeat refine c_seq ?_
        refine wp_held (fun w => Hp w0 w [] [.blk b1 ([V64 (0 : UInt64), .string ⟨(([] : List UInt8)).toArray⟩, V8 (0 : UInt8), VI 0, VI 0, .slice none 0 0] ++ (List.replicate 32 (0 : UInt8)).map V8) 76]) mixed ?_
        replace H := H.drew
        have HS := H.sub (.cons_cons _ (List.nil_sublist _))
        refine t_take 0 rfl (by kernel_rfl) (by kernel_rfl) (by kernel_rfl) (fun _ _ _ h => h) (fun w HS => r_fa rfl fo76_5) HS ?_
        refine t_take 2 rfl (by kernel_rfl) (by kernel_rfl) (by kernel_rfl) (fun _ _ _ h => h) (fun w HS => r_mv) HS ?_
        refine t_take 3 rfl (by kernel_rfl) (by kernel_rfl) (by kernel_rfl) (fun _ _ _ h => h) (fun w HS => r_mv) HS ?_
        refine t_take 4 rfl (by kernel_rfl) (by kernel_rfl) (by kernel_rfl) (fun _ _ _ h => h) (fun w HS => r_isN (28 + tkN s.l + 9 * i) rfl rfl el29 ah6 (by omega) (by omega)) HS ?_
        refine t_take 5 rfl (by kernel_rfl) (by kernel_rfl) (by kernel_rfl) (fun _ _ _ h => h) (fun w HS => r_ldB (s := s) (k := 28 + tkN s.l + 9 * i) (hs.up HS (fun _ => apart_nil _)) ah6 rfl ct5 (by (try simp only [Sl.cut]); omega)) HS ?_
        refine t_take 6 rfl (by kernel_rfl) (by kernel_rfl) (by kernel_rfl) (fun _ _ _ h => h) (fun w HS => r_mv) HS ?_
        refine t_take 7 rfl (by kernel_rfl) (by kernel_rfl) (by kernel_rfl) (fun _ _ _ h => h) (fun w HS => r_mv) HS ?_
        refine t_take 8 rfl (by kernel_rfl) (by kernel_rfl) (by kernel_rfl) (fun _ _ _ h => h) (fun w HS => r_bin (a := ai) (b := 1) rfl rfl (fun _ => b_add (by omega) (by omega))) HS ?_
        refine t_all [1, 9] (by kernel_rfl) (by simp) (all_cons (w_op 1 rfl ?_) (all_cons (w_op 9 rfl ?_) (all_nil)))
        ·
         refine (o_val (r_ld (v := .slice (hd a) i k) H (i := 1) rfl rfl ct74 rfl) ?_)
         refine ⟨H.sub (.cons_cons _ (List.nil_sublist _)), ?_⟩
         replace HS := H.sub (.cons_cons _ (List.nil_sublist _))
         refine t_step 9 rfl (by kernel_rfl) (o_callR Try.func133 rfl rfl rfl (number14_ok _ s (hs.up H (fun _ => apart_nil _)) (ai + 1) (28 + tkN s.l + 9 * i + 1) (by omega) (by omega) (by omega)) ?_)
         rintro _ w ⟨rfl, Hc⟩
         replace H : Hp _ w _ ([_, _, _]) := H.call Hc
         clear Hc
         refine ⟨H.sub (.cons_cons _ (List.nil_sublist _)), ?_⟩
         replace HS := H.sub (.cons_cons _ (List.nil_sublist _))
         refine t_step 10 rfl (by kernel_rfl) (o_callR Try.func134 rfl rfl rfl (zag1_ret _ (num s.l (28 + tkN s.l + 9 * i + 1) 8)) ?_)
         rintro _ w ⟨rfl, Hc⟩
         replace H : Hp _ w _ ([_, _, _]) := H.call Hc
         clear Hc
         refine ⟨H.sub (.cons_cons _ (List.nil_sublist _)), ?_⟩
         replace HS := H.sub (.cons_cons _ (List.nil_sublist _))
         refine t_take 11 rfl (by kernel_rfl) (by kernel_rfl) (by kernel_rfl) (fun _ _ _ h => h) (fun w HS => r_bld' (cells := ([V8 ((s.l).getD (28 + tkN s.l + 9 * i) 0), VI (zagU (num s.l (28 + tkN s.l + 9 * i + 1) 8))]).toArray) (pv := [(0, V8 ((s.l).getD (28 + tkN s.l + 9 * i) 0)), (1, VI (zagU (num s.l (28 + tkN s.l + 9 * i + 1) 8)))]) bd78 rfl rfl) HS ?_
         refine t_step 12 rfl (by kernel_rfl) (o_bslG1 (enc := cavE) (((s.l).getD (28 + tkN s.l + 9 * i) 0, zagU (num s.l (28 + tkN s.l + 9 * i + 1) 8))) H sl74 zc78 (by rfl) (by decide) (by decide) rfl rfl (fun b12 w H hb12 => ?_))
         replace H : Hp _ w _ ([_, _, _, .own (some b12) 1 1 (([((s.l).getD (28 + tkN s.l + 9 * i) 0, zagU (num s.l (28 + tkN s.l + 9 * i + 1) 8))]).flatMap cavE) 78 2]) := H
         refine ⟨H.sub (.cons_cons _ (List.nil_sublist _)), ?_⟩
         replace HS := H.sub (.cons_cons _ (List.nil_sublist _))
         refine t_step 13 rfl (by kernel_rfl) (o_appG (enc := cavE) (s := ⟨hd (some b12), 1, 1, [((s.l).getD (28 + tkN s.l + 9 * i) 0, zagU (num s.l (28 + tkN s.l + 9 * i + 1) 8))]⟩) (l' := cs ++ ([((s.l).getD (28 + tkN s.l + 9 * i) 0, zagU (num s.l (28 + tkN s.l + 9 * i + 1) 8))])) (len' := i + 1) rfl rfl H (i := 2) rfl sl74 Try.underlying74 rfl rfl (H.glOwn (i := 3) rfl (by decide) (fun _ _ => rfl)) (by decide) (fun _ _ => rfl) (by omega) (by decide) (fun a13 c14 w H => ?_))
         replace H : Hp _ w _ ([_, _, .own a13 (i + 1) c14 ((cs ++ ([((s.l).getD (28 + tkN s.l + 9 * i) 0, zagU (num s.l (28 + tkN s.l + 9 * i + 1) 8))])).flatMap cavE) 78 2, _]) := H
         refine ⟨H.sub (.cons_cons _ (List.nil_sublist _)), ?_⟩
         replace HS := H.sub (.cons_cons _ (List.nil_sublist _))
         refine t_take 14 rfl (by kernel_rfl) (by kernel_rfl) (by kernel_rfl) (fun _ _ _ h => h) (fun w HS => r_fa rfl fo76_5) HS ?_
         refine t_step 15 rfl (by kernel_rfl) (o_st (v := .slice (hd a13) (i + 1) c14) H (i := 1) rfl rfl rfl cs74 rfl (by simp only [List.length_append, List.length_cons, List.length_nil]; omega) (fun w H => ?_))
         replace H : Hp _ w _ ([_, .blk b3 ([V64 (num s.l 1 8), .string ⟨((s.l.drop 10).take (10 + tkN s.l - 10)).toArray⟩, V8 ((s.l).getD (10 + (tkN s.l)) 0), VI (zagU (num s.l (11 + tkN s.l) 8)), VI (zagU (num s.l (19 + tkN s.l) 8)), .slice (hd a13) (i + 1) c14] ++ (List.replicate 32 (0 : UInt8)).map V8) 76, _, _]) := H
         refine ⟨H.sub (.cons_cons _ (List.nil_sublist _)), ?_⟩
         replace HS := H.sub (.cons_cons _ (List.nil_sublist _))
         refine t_done (by kernel_rfl) ?_
         clear HS
         repeat refine c_seq ?_
         refine c_region ?_
         refine l_op (o_val (r_mv) ?_)
         refine l_op (o_val (r_bin (a := ai) (b := 9) rfl rfl (fun _ => b_add (by omega) (by omega))) ?_)
         refine l_op (o_val (r_as) ?_)
         first | refine l_end ?_ | refine l_nil ?_
         repeat refine c_seq ?_
         refine c_region ?_
         refine l_op (o_val (r_mv) ?_)
         refine l_op (o_val (r_bin (a := (i : Int)) (b := 1) rfl rfl (fun _ => b_add (by omega) (by omega))) ?_)
         refine l_op (o_val (r_as) ?_)
         first | refine l_end ?_ | refine l_nil ?_
         refine round_end (i + 1, ai + 9, cs ++ ([((s.l).getD (28 + tkN s.l + 9 * i) 0, zagU (num s.l (28 + tkN s.l + 9 * i + 1) 8))]), a13, c14) ?_ ?_ ?_
         · exact ⟨rfl, rfl, rfl, show VI (ai + 9) = VI (ai + 9 : Int) from congrArg VI (by omega), rfl, show VI ((i : Int) + 1) = VI ((i + 1 : Nat) : Int) from congrArg VI (by omega), trivial⟩
         · refine ⟨?_, ?_⟩
           · try dsimp only
             exact ⟨by omega, by omega, cavsAt_next s.l (28 + tkN s.l) i cs hcs⟩
           · exact H.sub (.cons_cons _ (.cons_cons _ (.cons_cons _ (List.nil_sublist _))))
         · show tkK s.l - (i + 1 : Nat) < tkK s.l - i; omega
        ·
         refine (o_callR Try.func133 rfl rfl rfl (number14_ok _ s (hs.up H (fun _ => apart_nil _)) (ai + 1) (28 + tkN s.l + 9 * i + 1) (by omega) (by omega) (by omega)) ?_)
         rintro _ w ⟨rfl, Hc⟩
         replace H : Hp _ w _ ([_, _, _]) := H.call Hc
         clear Hc
         refine ⟨H.sub (.cons_cons _ (List.nil_sublist _)), ?_⟩
         replace HS := H.sub (.cons_cons _ (List.nil_sublist _))
         refine t_all [1, 10] (by kernel_rfl) (by simp) (all_cons (w_op 1 rfl ?_) (all_cons (w_op 10 rfl ?_) (all_nil)))
         ·
          refine (o_val (r_ld (v := .slice (hd a) i k) H (i := 1) rfl rfl ct74 rfl) ?_)
          refine ⟨H.sub (.cons_cons _ (List.nil_sublist _)), ?_⟩
          replace HS := H.sub (.cons_cons _ (List.nil_sublist _))
          refine t_step 10 rfl (by kernel_rfl) (o_callR Try.func134 rfl rfl rfl (zag1_ret _ (num s.l (28 + tkN s.l + 9 * i + 1) 8)) ?_)
          rintro _ w ⟨rfl, Hc⟩
          replace H : Hp _ w _ ([_, _, _]) := H.call Hc
          clear Hc
          refine ⟨H.sub (.cons_cons _ (List.nil_sublist _)), ?_⟩
          replace HS := H.sub (.cons_cons _ (List.nil_sublist _))
          refine t_take 11 rfl (by kernel_rfl) (by kernel_rfl) (by kernel_rfl) (fun _ _ _ h => h) (fun w HS => r_bld' (cells := ([V8 ((s.l).getD (28 + tkN s.l + 9 * i) 0), VI (zagU (num s.l (28 + tkN s.l + 9 * i + 1) 8))]).toArray) (pv := [(0, V8 ((s.l).getD (28 + tkN s.l + 9 * i) 0)), (1, VI (zagU (num s.l (28 + tkN s.l + 9 * i + 1) 8)))]) bd78 rfl rfl) HS ?_
          refine t_step 12 rfl (by kernel_rfl) (o_bslG1 (enc := cavE) (((s.l).getD (28 + tkN s.l + 9 * i) 0, zagU (num s.l (28 + tkN s.l + 9 * i + 1) 8))) H sl74 zc78 (by rfl) (by decide) (by decide) rfl rfl (fun b15 w H hb15 => ?_))
          replace H : Hp _ w _ ([_, _, _, .own (some b15) 1 1 (([((s.l).getD (28 + tkN s.l + 9 * i) 0, zagU (num s.l (28 + tkN s.l + 9 * i + 1) 8))]).flatMap cavE) 78 2]) := H
          refine ⟨H.sub (.cons_cons _ (List.nil_sublist _)), ?_⟩
          replace HS := H.sub (.cons_cons _ (List.nil_sublist _))
          refine t_step 13 rfl (by kernel_rfl) (o_appG (enc := cavE) (s := ⟨hd (some b15), 1, 1, [((s.l).getD (28 + tkN s.l + 9 * i) 0, zagU (num s.l (28 + tkN s.l + 9 * i + 1) 8))]⟩) (l' := cs ++ ([((s.l).getD (28 + tkN s.l + 9 * i) 0, zagU (num s.l (28 + tkN s.l + 9 * i + 1) 8))])) (len' := i + 1) rfl rfl H (i := 2) rfl sl74 Try.underlying74 rfl rfl (H.glOwn (i := 3) rfl (by decide) (fun _ _ => rfl)) (by decide) (fun _ _ => rfl) (by omega) (by decide) (fun a16 c17 w H => ?_))
          replace H : Hp _ w _ ([_, _, .own a16 (i + 1) c17 ((cs ++ ([((s.l).getD (28 + tkN s.l + 9 * i) 0, zagU (num s.l (28 + tkN s.l + 9 * i + 1) 8))])).flatMap cavE) 78 2, _]) := H
          refine ⟨H.sub (.cons_cons _ (List.nil_sublist _)), ?_⟩
          replace HS := H.sub (.cons_cons _ (List.nil_sublist _))
          refine t_take 14 rfl (by kernel_rfl) (by kernel_rfl) (by kernel_rfl) (fun _ _ _ h => h) (fun w HS => r_fa rfl fo76_5) HS ?_
          refine t_step 15 rfl (by kernel_rfl) (o_st (v := .slice (hd a16) (i + 1) c17) H (i := 1) rfl rfl rfl cs74 rfl (by simp only [List.length_append, List.length_cons, List.length_nil]; omega) (fun w H => ?_))
          replace H : Hp _ w _ ([_, .blk b3 ([V64 (num s.l 1 8), .string ⟨((s.l.drop 10).take (10 + tkN s.l - 10)).toArray⟩, V8 ((s.l).getD (10 + (tkN s.l)) 0), VI (zagU (num s.l (11 + tkN s.l) 8)), VI (zagU (num s.l (19 + tkN s.l) 8)), .slice (hd a16) (i + 1) c17] ++ (List.replicate 32 (0 : UInt8)).map V8) 76, _, _]) := H
          refine ⟨H.sub (.cons_cons _ (List.nil_sublist _)), ?_⟩
          replace HS := H.sub (.cons_cons _ (List.nil_sublist _))
          refine t_done (by kernel_rfl) ?_
          clear HS
          repeat refine c_seq ?_
          refine c_region ?_
          refine l_op (o_val (r_mv) ?_)
          refine l_op (o_val (r_bin (a := ai) (b := 9) rfl rfl (fun _ => b_add (by omega) (by omega))) ?_)
          refine l_op (o_val (r_as) ?_)
          first | refine l_end ?_ | refine l_nil ?_
          repeat refine c_seq ?_
          refine c_region ?_
          refine l_op (o_val (r_mv) ?_)
          refine l_op (o_val (r_bin (a := (i : Int)) (b := 1) rfl rfl (fun _ => b_add (by omega) (by omega))) ?_)
          refine l_op (o_val (r_as) ?_)
          first | refine l_end ?_ | refine l_nil ?_
          refine round_end (i + 1, ai + 9, cs ++ ([((s.l).getD (28 + tkN s.l + 9 * i) 0, zagU (num s.l (28 + tkN s.l + 9 * i + 1) 8))]), a16, c17) ?_ ?_ ?_
          · exact ⟨rfl, rfl, rfl, show VI (ai + 9) = VI (ai + 9 : Int) from congrArg VI (by omega), rfl, show VI ((i : Int) + 1) = VI ((i + 1 : Nat) : Int) from congrArg VI (by omega), trivial⟩
          · refine ⟨?_, ?_⟩
            · try dsimp only
              exact ⟨by omega, by omega, cavsAt_next s.l (28 + tkN s.l) i cs hcs⟩
            · exact H.sub (.cons_cons _ (.cons_cons _ (.cons_cons _ (List.nil_sublist _))))
          · show tkK s.l - (i + 1 : Nat) < tkK s.l - i; omega
         ·
          refine (o_callR Try.func134 rfl rfl rfl (zag1_ret _ (num s.l (28 + tkN s.l + 9 * i + 1) 8)) ?_)
          rintro _ w ⟨rfl, Hc⟩
          replace H : Hp _ w _ ([_, _, _]) := H.call Hc
          clear Hc
          refine ⟨H.sub (.cons_cons _ (List.nil_sublist _)), ?_⟩
          replace HS := H.sub (.cons_cons _ (List.nil_sublist _))
          refine t_take 11 rfl (by kernel_rfl) (by kernel_rfl) (by kernel_rfl) (fun _ _ _ h => h) (fun w HS => r_bld' (cells := ([V8 ((s.l).getD (28 + tkN s.l + 9 * i) 0), VI (zagU (num s.l (28 + tkN s.l + 9 * i + 1) 8))]).toArray) (pv := [(0, V8 ((s.l).getD (28 + tkN s.l + 9 * i) 0)), (1, VI (zagU (num s.l (28 + tkN s.l + 9 * i + 1) 8)))]) bd78 rfl rfl) HS ?_
          refine t_all [1, 12] (by kernel_rfl) (by simp) (all_cons (w_op 1 rfl ?_) (all_cons (w_op 12 rfl ?_) (all_nil)))
          ·
           refine (o_val (r_ld (v := .slice (hd a) i k) H (i := 1) rfl rfl ct74 rfl) ?_)
           refine ⟨H.sub (.cons_cons _ (List.nil_sublist _)), ?_⟩
           replace HS := H.sub (.cons_cons _ (List.nil_sublist _))
           refine t_step 12 rfl (by kernel_rfl) (o_bslG1 (enc := cavE) (((s.l).getD (28 + tkN s.l + 9 * i) 0, zagU (num s.l (28 + tkN s.l + 9 * i + 1) 8))) H sl74 zc78 (by rfl) (by decide) (by decide) rfl rfl (fun b18 w H hb18 => ?_))
           replace H : Hp _ w _ ([_, _, _, .own (some b18) 1 1 (([((s.l).getD (28 + tkN s.l + 9 * i) 0, zagU (num s.l (28 + tkN s.l + 9 * i + 1) 8))]).flatMap cavE) 78 2]) := H
           refine ⟨H.sub (.cons_cons _ (List.nil_sublist _)), ?_⟩
           replace HS := H.sub (.cons_cons _ (List.nil_sublist _))
           refine t_step 13 rfl (by kernel_rfl) (o_appG (enc := cavE) (s := ⟨hd (some b18), 1, 1, [((s.l).getD (28 + tkN s.l + 9 * i) 0, zagU (num s.l (28 + tkN s.l + 9 * i + 1) 8))]⟩) (l' := cs ++ ([((s.l).getD (28 + tkN s.l + 9 * i) 0, zagU (num s.l (28 + tkN s.l + 9 * i + 1) 8))])) (len' := i + 1) rfl rfl H (i := 2) rfl sl74 Try.underlying74 rfl rfl (H.glOwn (i := 3) rfl (by decide) (fun _ _ => rfl)) (by decide) (fun _ _ => rfl) (by omega) (by decide) (fun a19 c20 w H => ?_))
           replace H : Hp _ w _ ([_, _, .own a19 (i + 1) c20 ((cs ++ ([((s.l).getD (28 + tkN s.l + 9 * i) 0, zagU (num s.l (28 + tkN s.l + 9 * i + 1) 8))])).flatMap cavE) 78 2, _]) := H
           refine ⟨H.sub (.cons_cons _ (List.nil_sublist _)), ?_⟩
           replace HS := H.sub (.cons_cons _ (List.nil_sublist _))
           refine t_take 14 rfl (by kernel_rfl) (by kernel_rfl) (by kernel_rfl) (fun _ _ _ h => h) (fun w HS => r_fa rfl fo76_5) HS ?_
           refine t_step 15 rfl (by kernel_rfl) (o_st (v := .slice (hd a19) (i + 1) c20) H (i := 1) rfl rfl rfl cs74 rfl (by simp only [List.length_append, List.length_cons, List.length_nil]; omega) (fun w H => ?_))
           replace H : Hp _ w _ ([_, .blk b3 ([V64 (num s.l 1 8), .string ⟨((s.l.drop 10).take (10 + tkN s.l - 10)).toArray⟩, V8 ((s.l).getD (10 + (tkN s.l)) 0), VI (zagU (num s.l (11 + tkN s.l) 8)), VI (zagU (num s.l (19 + tkN s.l) 8)), .slice (hd a19) (i + 1) c20] ++ (List.replicate 32 (0 : UInt8)).map V8) 76, _, _]) := H
           refine ⟨H.sub (.cons_cons _ (List.nil_sublist _)), ?_⟩
           replace HS := H.sub (.cons_cons _ (List.nil_sublist _))
           refine t_done (by kernel_rfl) ?_
           clear HS
           repeat refine c_seq ?_
           refine c_region ?_
           refine l_op (o_val (r_mv) ?_)
           refine l_op (o_val (r_bin (a := ai) (b := 9) rfl rfl (fun _ => b_add (by omega) (by omega))) ?_)
           refine l_op (o_val (r_as) ?_)
           first | refine l_end ?_ | refine l_nil ?_
           repeat refine c_seq ?_
           refine c_region ?_
           refine l_op (o_val (r_mv) ?_)
           refine l_op (o_val (r_bin (a := (i : Int)) (b := 1) rfl rfl (fun _ => b_add (by omega) (by omega))) ?_)
           refine l_op (o_val (r_as) ?_)
           first | refine l_end ?_ | refine l_nil ?_
           refine round_end (i + 1, ai + 9, cs ++ ([((s.l).getD (28 + tkN s.l + 9 * i) 0, zagU (num s.l (28 + tkN s.l + 9 * i + 1) 8))]), a19, c20) ?_ ?_ ?_
           · exact ⟨rfl, rfl, rfl, show VI (ai + 9) = VI (ai + 9 : Int) from congrArg VI (by omega), rfl, show VI ((i : Int) + 1) = VI ((i + 1 : Nat) : Int) from congrArg VI (by omega), trivial⟩
           · refine ⟨?_, ?_⟩
             · try dsimp only
               exact ⟨by omega, by omega, cavsAt_next s.l (28 + tkN s.l) i cs hcs⟩
             · exact H.sub (.cons_cons _ (.cons_cons _ (.cons_cons _ (List.nil_sublist _))))
           · show tkK s.l - (i + 1 : Nat) < tkK s.l - i; omega
          ·
           refine (o_bslG1 (enc := cavE) (((s.l).getD (28 + tkN s.l + 9 * i) 0, zagU (num s.l (28 + tkN s.l + 9 * i + 1) 8))) H sl74 zc78 (by rfl) (by decide) (by decide) rfl rfl (fun b21 w H hb21 => ?_))
           replace H : Hp _ w _ ([_, _, _, .own (some b21) 1 1 (([((s.l).getD (28 + tkN s.l + 9 * i) 0, zagU (num s.l (28 + tkN s.l + 9 * i + 1) 8))]).flatMap cavE) 78 2]) := H
           refine ⟨H.sub (.cons_cons _ (List.nil_sublist _)), ?_⟩
           replace HS := H.sub (.cons_cons _ (List.nil_sublist _))
           refine t_step 1 rfl (by kernel_rfl) (o_val (r_ld (v := .slice (hd a) i k) H (i := 1) rfl rfl ct74 rfl) ?_)
           refine ⟨H.sub (.cons_cons _ (List.nil_sublist _)), ?_⟩
           replace HS := H.sub (.cons_cons _ (List.nil_sublist _))
           refine t_step 13 rfl (by kernel_rfl) (o_appG (enc := cavE) (s := ⟨hd (some b21), 1, 1, [((s.l).getD (28 + tkN s.l + 9 * i) 0, zagU (num s.l (28 + tkN s.l + 9 * i + 1) 8))]⟩) (l' := cs ++ ([((s.l).getD (28 + tkN s.l + 9 * i) 0, zagU (num s.l (28 + tkN s.l + 9 * i + 1) 8))])) (len' := i + 1) rfl rfl H (i := 2) rfl sl74 Try.underlying74 rfl rfl (H.glOwn (i := 3) rfl (by decide) (fun _ _ => rfl)) (by decide) (fun _ _ => rfl) (by omega) (by decide) (fun a22 c23 w H => ?_))
           replace H : Hp _ w _ ([_, _, .own a22 (i + 1) c23 ((cs ++ ([((s.l).getD (28 + tkN s.l + 9 * i) 0, zagU (num s.l (28 + tkN s.l + 9 * i + 1) 8))])).flatMap cavE) 78 2, _]) := H
           refine ⟨H.sub (.cons_cons _ (List.nil_sublist _)), ?_⟩
           replace HS := H.sub (.cons_cons _ (List.nil_sublist _))
           refine t_take 14 rfl (by kernel_rfl) (by kernel_rfl) (by kernel_rfl) (fun _ _ _ h => h) (fun w HS => r_fa rfl fo76_5) HS ?_
           refine t_step 15 rfl (by kernel_rfl) (o_st (v := .slice (hd a22) (i + 1) c23) H (i := 1) rfl rfl rfl cs74 rfl (by simp only [List.length_append, List.length_cons, List.length_nil]; omega) (fun w H => ?_))
           replace H : Hp _ w _ ([_, .blk b3 ([V64 (num s.l 1 8), .string ⟨((s.l.drop 10).take (10 + tkN s.l - 10)).toArray⟩, V8 ((s.l).getD (10 + (tkN s.l)) 0), VI (zagU (num s.l (11 + tkN s.l) 8)), VI (zagU (num s.l (19 + tkN s.l) 8)), .slice (hd a22) (i + 1) c23] ++ (List.replicate 32 (0 : UInt8)).map V8) 76, _, _]) := H
           refine ⟨H.sub (.cons_cons _ (List.nil_sublist _)), ?_⟩
           replace HS := H.sub (.cons_cons _ (List.nil_sublist _))
           refine t_done (by kernel_rfl) ?_
           clear HS
           repeat refine c_seq ?_
           refine c_region ?_
           refine l_op (o_val (r_mv) ?_)
           refine l_op (o_val (r_bin (a := ai) (b := 9) rfl rfl (fun _ => b_add (by omega) (by omega))) ?_)
           refine l_op (o_val (r_as) ?_)
           first | refine l_end ?_ | refine l_nil ?_
           repeat refine c_seq ?_
           refine c_region ?_
           refine l_op (o_val (r_mv) ?_)
           refine l_op (o_val (r_bin (a := (i : Int)) (b := 1) rfl rfl (fun _ => b_add (by omega) (by omega))) ?_)
           refine l_op (o_val (r_as) ?_)
           first | refine l_end ?_ | refine l_nil ?_
           refine round_end (i + 1, ai + 9, cs ++ ([((s.l).getD (28 + tkN s.l + 9 * i) 0, zagU (num s.l (28 + tkN s.l + 9 * i + 1) 8))]), a22, c23) ?_ ?_ ?_
           · exact ⟨rfl, rfl, rfl, show VI (ai + 9) = VI (ai + 9 : Int) from congrArg VI (by omega), rfl, show VI ((i : Int) + 1) = VI ((i + 1 : Nat) : Int) from congrArg VI (by omega), trivial⟩
           · refine ⟨?_, ?_⟩
             · try dsimp only
               exact ⟨by omega, by omega, cavsAt_next s.l (28 + tkN s.l) i cs hcs⟩
             · exact H.sub (.cons_cons _ (.cons_cons _ (.cons_cons _ (List.nil_sublist _))))
           · show tkK s.l - (i + 1 : Nat) < tkK s.l - i; omega
       ·
        repeat refine c_seq ?_
        refine c_no (by exact congrArg Value.bool (decide_eq_false hc11)) ?_
        refine c_exit ?_
        repeat refine c_seq ?_
        refine c_region ?_
        refine l_op (o_val (r_mv) ?_)
        refine l_op (o_val (r_mv) ?_)
        refine l_op (o_val (r_mv) ?_)
        refine l_op (o_val (r_bin (a := ai) (b := 32) rfl rfl (fun _ => b_add (by omega) (by omega))) ?_)
        refine l_op (o_val (r_slTl (s := s) (28 + tkN s.l + 9 * tkK s.l) (lv := some (VI ai)) (hv := some (VI (ai + 32))) hsl rfl el29 rfl rfl rfl (fun w => by exact sblh (28 + tkN s.l + 9 * tkK s.l) s.len (by omega) (by omega) (by omega) (by omega) w)) ?_)
        refine l_op (o_val (r_sap Try.underlying31 rfl (by (try simp only [Sl.tl]); omega)) ?_)
        have ah26 := (((hs.up H (fun _ => apart_nil _)).tl (n := 28 + tkN s.l + 9 * tkK s.l) (by omega))).addr (by (try simp only [Sl.tl]); omega)
        obtain ⟨ab24, ao25, ah26⟩ := ah26
        refine l_op (o_val (r_ldSE (s := s.tl (28 + tkN s.l + 9 * tkK s.l)) (k := 32) ((hs.up H (fun _ => apart_nil _)).tl (n := 28 + tkN s.l + 9 * tkK s.l) (by omega)) ah26 rfl rt31 (by decide) (by show s.len - _ = 32; omega)) ?_)
        refine l_op (o_val (r_fa rfl fo76_6) ?_)
        refine l_op (o_stT (pre := [V64 (num s.l 1 8), .string ⟨((s.l.drop 10).take (10 + tkN s.l - 10)).toArray⟩, V8 ((s.l).getD (10 + (tkN s.l)) 0), VI (zagU (num s.l (11 + tkN s.l) 8)), VI (zagU (num s.l (19 + tkN s.l) 8)), .slice (hd a) i k]) (l := List.replicate 32 (0 : UInt8)) (l' := s.l.drop (28 + tkN s.l + 9 * tkK s.l)) H (i := 1) rfl rfl rfl cs31 rfl (show (List.replicate 32 (0 : UInt8)).length = 32 from (List.length_replicate ..)) (show (s.l.drop (28 + tkN s.l + 9 * tkK s.l)).length = 32 from (by rw [List.length_drop]; omega)) (fun w H => ?_))
        replace H : Hp _ w _ ([_, .blk b3 ([V64 (num s.l 1 8), .string ⟨((s.l.drop 10).take (10 + tkN s.l - 10)).toArray⟩, V8 ((s.l).getD (10 + (tkN s.l)) 0), VI (zagU (num s.l (11 + tkN s.l) 8)), VI (zagU (num s.l (19 + tkN s.l) 8)), .slice (hd a) i k] ++ (s.l.drop (28 + tkN s.l + 9 * tkK s.l)).map V8) 76, _]) := H
        first | refine l_end ?_ | refine l_nil ?_
        have hii : i = tkK s.l := by omega
        have hsh : tkShape s.l := ⟨by omega, by omega, by omega, by omega⟩
        have hgl : cs.length = i := ((H.glOwn (i := 2) rfl (by decide) (fun _ _ => rfl))).ln
        have htv : ((⟨num s.l 1 8, (s.l.drop 10).take (10 + tkN s.l - 10), (s.l).getD (10 + (tkN s.l)) 0, zagU (num s.l (11 + tkN s.l) 8), zagU (num s.l (19 + tkN s.l) 8), ⟨hd a, i, k, cs⟩, s.l.drop (28 + tkN s.l + 9 * tkK s.l)⟩ : Tok)).tv = tvAt s.l := by
          rw [tvAt, ← hii, hcs]
          simp only [Tok.tv, show 10 + tkN s.l - 10 = tkN s.l by omega, hii]
        have hbd : Tok.bd (⟨num s.l 1 8, (s.l.drop 10).take (10 + tkN s.l - 10), (s.l).getD (10 + (tkN s.l)) 0, zagU (num s.l (11 + tkN s.l) 8), zagU (num s.l (19 + tkN s.l) 8), ⟨hd a, i, k, cs⟩, s.l.drop (28 + tkN s.l + 9 * tkK s.l)⟩ : Tok) := bd_of_fits _ (by rw [htv]; exact tvAt_fits _ hsh)
        have hby := tvAt_bytes s.l hsh
        have hbt : Tok.bytes (⟨num s.l 1 8, (s.l.drop 10).take (10 + tkN s.l - 10), (s.l).getD (10 + (tkN s.l)) 0, zagU (num s.l (11 + tkN s.l) 8), zagU (num s.l (19 + tkN s.l) 8), ⟨hd a, i, k, cs⟩, s.l.drop (28 + tkN s.l + 9 * tkK s.l)⟩ : Tok) = 1 :: s.l.drop 1 := by rw [bytes_tv _ hgl, htv, hby]
        repeat refine c_seq ?_
        refine c_region ?_
        refine l_op (o_val (r_ldA (C := [V64 (num s.l 1 8), .string ⟨((s.l.drop 10).take (10 + tkN s.l - 10)).toArray⟩, V8 ((s.l).getD (10 + (tkN s.l)) 0), VI (zagU (num s.l (11 + tkN s.l) 8)), VI (zagU (num s.l (19 + tkN s.l) 8)), .slice (hd a) i k] ++ (s.l.drop (28 + tkN s.l + 9 * tkK s.l)).map V8) H (i := 1) rfl rfl rt76 (by rw [List.length_append, List.length_map, (show (s.l.drop (28 + tkN s.l + 9 * tkK s.l)).length = 32 from (by rw [List.length_drop]; omega))]; rfl)) ?_)
        rcases Bool.eq_false_or_eq_true (mayT (⟨num s.l 1 8, (s.l.drop 10).take (10 + tkN s.l - 10), (s.l).getD (10 + (tkN s.l)) 0, zagU (num s.l (11 + tkN s.l) 8), zagU (num s.l (19 + tkN s.l) 8), ⟨hd a, i, k, cs⟩, s.l.drop (28 + tkN s.l + 9 * tkK s.l)⟩ : Tok)) with hc27 | hc27
        ·
         refine l_op (o_callR Try.func82 rfl rfl rfl (bytes14_ok _ (⟨num s.l 1 8, (s.l.drop 10).take (10 + tkN s.l - 10), (s.l).getD (10 + (tkN s.l)) 0, zagU (num s.l (11 + tkN s.l) 8), zagU (num s.l (19 + tkN s.l) 8), ⟨hd a, i, k, cs⟩, s.l.drop (28 + tkN s.l + 9 * tkK s.l)⟩ : Tok) (H.glOwn (i := 2) rfl (by decide) (fun _ _ => rfl)) (show (s.l.drop (28 + tkN s.l + 9 * tkK s.l)).length = 32 from (by rw [List.length_drop]; omega)) (by simp; omega) hbd hc27) ?_)
         rintro _ w ⟨a28, n29, c30, rfl, hn31, Hc⟩
         replace H : Hp _ w _ ([_, _, _, .own a28 n29 c30 ((Tok.bytes (⟨num s.l 1 8, (s.l.drop 10).take (10 + tkN s.l - 10), (s.l).getD (10 + (tkN s.l)) 0, zagU (num s.l (11 + tkN s.l) 8), zagU (num s.l (19 + tkN s.l) 8), ⟨hd a, i, k, cs⟩, s.l.drop (28 + tkN s.l + 9 * tkK s.l)⟩ : Tok)).map V8) 5 1]) := H.call Hc
         clear Hc
         refine l_op (o_val (r_mv) ?_)
         refine l_op (o_val (r_ext rfl rfl) ?_)
         refine l_op (o_val (r_ext rfl rfl) ?_)
         refine l_op (o_val (r_as) ?_)
         refine l_op (o_val (r_as) ?_)
         first | refine l_end ?_ | refine l_nil ?_
         repeat refine c_seq ?_
         refine c_region ?_
         refine l_op (o_val (r_mv) ?_)
         refine l_op (o_val (r_bin (a := 0) (b := 0) rfl rfl (fun _ => b_neqB false (decide_eq_false (by decide)))) ?_)
         refine l_op (o_val (r_mv) ?_)
         refine l_yes rfl rfl rfl (o_val (r_mv) ?_)
         refine l_yes rfl rfl rfl (o_val (r_b2S (s := ⟨hd a28, n29, c30, Tok.bytes (⟨num s.l 1 8, (s.l.drop 10).take (10 + tkN s.l - 10), (s.l).getD (10 + (tkN s.l)) 0, zagU (num s.l (11 + tkN s.l) 8), zagU (num s.l (19 + tkN s.l) 8), ⟨hd a, i, k, cs⟩, s.l.drop (28 + tkN s.l + 9 * tkK s.l)⟩ : Tok)⟩) Try.underlying29 Try.underlying5 Try.underlying9 rfl (H.slOwn (i := 3) rfl)) ?_)
         refine l_yes rfl rfl rfl (o_val (r_mv) ?_)
         refine l_yes rfl rfl rfl (o_val (r_b2S (s := s) Try.underlying29 Try.underlying5 Try.underlying9 rfl (hs.up H (fun _ => apart_nil _))) ?_)
         refine l_yes rfl rfl rfl (o_val (r_strne (a := Tok.bytes (⟨num s.l 1 8, (s.l.drop 10).take (10 + tkN s.l - 10), (s.l).getD (10 + (tkN s.l)) 0, zagU (num s.l (11 + tkN s.l) 8), zagU (num s.l (19 + tkN s.l) 8), ⟨hd a, i, k, cs⟩, s.l.drop (28 + tkN s.l + 9 * tkK s.l)⟩ : Tok)) (b := s.l) rfl rfl) ?_)
         refine l_op (o_val (r_pick rfl) ?_)
         first | refine l_end ?_ | refine l_nil ?_
         by_cases hc32 : Tok.bytes (⟨num s.l 1 8, (s.l.drop 10).take (10 + tkN s.l - 10), (s.l).getD (10 + (tkN s.l)) 0, zagU (num s.l (11 + tkN s.l) 8), zagU (num s.l (19 + tkN s.l) 8), ⟨hd a, i, k, cs⟩, s.l.drop (28 + tkN s.l + 9 * tkK s.l)⟩ : Tok) = s.l
         ·
          repeat refine c_seq ?_
          refine c_no (by exact congrArg Value.bool (congrArg not (decide_eq_true hc32))) ?_
          refine c_skip ?_
          repeat refine c_seq ?_
          refine c_region ?_
          refine l_op (o_val (r_ldA (C := [V64 (num s.l 1 8), .string ⟨((s.l.drop 10).take (10 + tkN s.l - 10)).toArray⟩, V8 ((s.l).getD (10 + (tkN s.l)) 0), VI (zagU (num s.l (11 + tkN s.l) 8)), VI (zagU (num s.l (19 + tkN s.l) 8)), .slice (hd a) i k] ++ (s.l.drop (28 + tkN s.l + 9 * tkK s.l)).map V8) H (i := 1) rfl rfl rt76 (by rw [List.length_append, List.length_map, (show (s.l.drop (28 + tkN s.l + 9 * tkK s.l)).length = 32 from (by rw [List.length_drop]; omega))]; rfl)) ?_)
          refine l_op (o_stW (C' := [V64 (num s.l 1 8), .string ⟨((s.l.drop 10).take (10 + tkN s.l - 10)).toArray⟩, V8 ((s.l).getD (10 + (tkN s.l)) 0), VI (zagU (num s.l (11 + tkN s.l) 8)), VI (zagU (num s.l (19 + tkN s.l) 8)), .slice (hd a) i k] ++ (s.l.drop (28 + tkN s.l + 9 * tkK s.l)).map V8) H (i := 0) rfl rfl rfl cs76 (all_tail (by simp [Value.oneCell'])) (by rw [List.length_append, List.length_map, (show (List.replicate 32 (0 : UInt8)).length = 32 from (List.length_replicate ..))]; rfl) (by rw [List.length_append, List.length_map, (show (s.l.drop (28 + tkN s.l + 9 * tkK s.l)).length = 32 from (by rw [List.length_drop]; omega))]; rfl) (fun w H => ?_))
          replace H : Hp _ w _ ([.blk b1 ([V64 (num s.l 1 8), .string ⟨((s.l.drop 10).take (10 + tkN s.l - 10)).toArray⟩, V8 ((s.l).getD (10 + (tkN s.l)) 0), VI (zagU (num s.l (11 + tkN s.l) 8)), VI (zagU (num s.l (19 + tkN s.l) 8)), .slice (hd a) i k] ++ (s.l.drop (28 + tkN s.l + 9 * tkK s.l)).map V8) 76, _, _, _]) := H
          refine l_op (o_val (r_as) ?_)
          first | refine l_end ?_ | refine l_nil ?_
          refine c_ret ?_
          try dsimp only [Exit.then, Exit.inBlock]
          refine e_retN (vs := [.agg ([V64 (num s.l 1 8), .string ⟨((s.l.drop 10).take (10 + tkN s.l - 10)).toArray⟩, V8 ((s.l).getD (10 + (tkN s.l)) 0), VI (zagU (num s.l (11 + tkN s.l) 8)), VI (zagU (num s.l (19 + tkN s.l) 8)), .slice (hd a) i k] ++ (s.l.drop (28 + tkN s.l + 9 * tkK s.l)).map V8).toArray, VI 0]) _ Try.results103 rfl (H.resR (C := [V64 (num s.l 1 8), .string ⟨((s.l.drop 10).take (10 + tkN s.l - 10)).toArray⟩, V8 ((s.l).getD (10 + (tkN s.l)) 0), VI (zagU (num s.l (11 + tkN s.l) 8)), VI (zagU (num s.l (19 + tkN s.l) 8)), .slice (hd a) i k] ++ (s.l.drop (28 + tkN s.l + 9 * tkK s.l)).map V8) (i := 0) rfl rfl rt76 (by rw [List.length_append, List.length_map, (show (s.l.drop (28 + tkN s.l + 9 * tkK s.l)).length = 32 from (by rw [List.length_drop]; omega))]; rfl) (resT (v := VI 0) rfl (resZ))) ?_
          refine ⟨_, rfl, ?_⟩
          refine .inr ?_
          have h2 : s.l.getD 0 0 = 1 := by
            have e := hc32
            rw [hbt] at e
            rw [← e]; rfl
          have hp : parseT s.l = some (tvAt s.l) := by rw [parseT, if_pos ⟨hsh, h2, by rw [← htv, ← mayT_tv _ hgl]; exact hc27⟩]
          rw [← htv] at hp
          refine ⟨_, a, k, hp, ?_, ?_⟩
          · simp only [Tok.tv, hgl]
          · simp only [Tok.tv, hgl]; exact H.sub (.cons _ (.cons _ (.cons_cons _ (List.nil_sublist _))))
         ·
          repeat refine c_seq ?_
          refine c_yes (by exact congrArg Value.bool (congrArg not (decide_eq_false hc32))) ?_
          repeat refine c_seq ?_
          refine c_region ?_
          refine l_op (o_val (r_bld' (cells := ([V64 (0 : UInt64), .string ⟨(([] : List UInt8)).toArray⟩, V8 (0 : UInt8), VI 0, VI 0, .slice none 0 0] ++ (List.replicate 32 (0 : UInt8)).map V8).toArray) (pv := []) bd76 rfl rfl) ?_)
          refine l_op (o_stW (C' := [V64 (0 : UInt64), .string ⟨(([] : List UInt8)).toArray⟩, V8 (0 : UInt8), VI 0, VI 0, .slice none 0 0] ++ (List.replicate 32 (0 : UInt8)).map V8) H (i := 0) rfl rfl rfl cs76 (by simp [Value.oneCell']) (by rw [List.length_append, List.length_map, (show (List.replicate 32 (0 : UInt8)).length = 32 from (List.length_replicate ..))]; rfl) (by rw [List.length_append, List.length_map, (show (List.replicate 32 (0 : UInt8)).length = 32 from (List.length_replicate ..))]; rfl) (fun w H => ?_))
          replace H : Hp _ w _ [_, _, _, _] := H
          refine l_op (o_val (r_as) ?_)
          first | refine l_end ?_ | refine l_nil ?_
          refine c_ret ?_
          try dsimp only [Exit.then, Exit.inBlock]
          refine e_retN (vs := [.agg ([V64 (0 : UInt64), .string ⟨(([] : List UInt8)).toArray⟩, V8 (0 : UInt8), VI 0, VI 0, .slice none 0 0] ++ (List.replicate 32 (0 : UInt8)).map V8).toArray, VI 4]) _ Try.results103 rfl (H.resR (C := [V64 (0 : UInt64), .string ⟨(([] : List UInt8)).toArray⟩, V8 (0 : UInt8), VI 0, VI 0, .slice none 0 0] ++ (List.replicate 32 (0 : UInt8)).map V8) (i := 0) rfl rfl rt76 (by rw [List.length_append, List.length_map, (show (List.replicate 32 (0 : UInt8)).length = 32 from (List.length_replicate ..))]; rfl) (resT (v := VI 4) rfl (resZ))) ?_
          refine ⟨_, rfl, ?_⟩
          refine .inl ⟨?_, rfl, H.sub (List.nil_sublist _)⟩
          rw [parseT, if_neg]
          rintro ⟨_, h2, _⟩
          apply hc32
          rw [hbt, ← h2]
          exact (by simpa using (getD_cons s.l 0 (by omega)).symm)
        ·
         refine l_op (o_callR Try.func82 rfl rfl rfl (bytes14_no _ (⟨num s.l 1 8, (s.l.drop 10).take (10 + tkN s.l - 10), (s.l).getD (10 + (tkN s.l)) 0, zagU (num s.l (11 + tkN s.l) 8), zagU (num s.l (19 + tkN s.l) 8), ⟨hd a, i, k, cs⟩, s.l.drop (28 + tkN s.l + 9 * tkK s.l)⟩ : Tok) (H.glOwn (i := 2) rfl (by decide) (fun _ _ => rfl)) (show (s.l.drop (28 + tkN s.l + 9 * tkK s.l)).length = 32 from (by rw [List.length_drop]; omega)) (by simp; omega) hc27) ?_)
         rintro _ w ⟨rfl, Hc⟩
         replace H : Hp _ w _ ([_, _, _]) := H.call Hc
         clear Hc
         refine l_op (o_val (r_mv) ?_)
         refine l_op (o_val (r_ext rfl rfl) ?_)
         refine l_op (o_val (r_ext rfl rfl) ?_)
         refine l_op (o_val (r_as) ?_)
         refine l_op (o_val (r_as) ?_)
         first | refine l_end ?_ | refine l_nil ?_
         repeat refine c_seq ?_
         refine c_region ?_
         refine l_op (o_val (r_mv) ?_)
         refine l_op (o_val (r_bin (a := 1) (b := 0) rfl rfl (fun _ => b_neqB true (decide_eq_true (by decide)))) ?_)
         refine l_op (o_val (r_mv) ?_)
         refine l_no rfl rfl rfl rfl ?_
         refine l_no rfl rfl rfl rfl ?_
         refine l_no rfl rfl rfl rfl ?_
         refine l_no rfl rfl rfl rfl ?_
         refine l_no rfl rfl rfl rfl ?_
         refine l_op (o_val (r_pick rfl) ?_)
         first | refine l_end ?_ | refine l_nil ?_
         repeat refine c_seq ?_
         refine c_yes rfl ?_
         repeat refine c_seq ?_
         refine c_region ?_
         refine l_op (o_val (r_bld' (cells := ([V64 (0 : UInt64), .string ⟨(([] : List UInt8)).toArray⟩, V8 (0 : UInt8), VI 0, VI 0, .slice none 0 0] ++ (List.replicate 32 (0 : UInt8)).map V8).toArray) (pv := []) bd76 rfl rfl) ?_)
         refine l_op (o_stW (C' := [V64 (0 : UInt64), .string ⟨(([] : List UInt8)).toArray⟩, V8 (0 : UInt8), VI 0, VI 0, .slice none 0 0] ++ (List.replicate 32 (0 : UInt8)).map V8) H (i := 0) rfl rfl rfl cs76 (by simp [Value.oneCell']) (by rw [List.length_append, List.length_map, (show (List.replicate 32 (0 : UInt8)).length = 32 from (List.length_replicate ..))]; rfl) (by rw [List.length_append, List.length_map, (show (List.replicate 32 (0 : UInt8)).length = 32 from (List.length_replicate ..))]; rfl) (fun w H => ?_))
         replace H : Hp _ w _ [_, _, _] := H
         refine l_op (o_val (r_as) ?_)
         first | refine l_end ?_ | refine l_nil ?_
         refine c_ret ?_
         try dsimp only [Exit.then, Exit.inBlock]
         refine e_retN (vs := [.agg ([V64 (0 : UInt64), .string ⟨(([] : List UInt8)).toArray⟩, V8 (0 : UInt8), VI 0, VI 0, .slice none 0 0] ++ (List.replicate 32 (0 : UInt8)).map V8).toArray, VI 4]) _ Try.results103 rfl (H.resR (C := [V64 (0 : UInt64), .string ⟨(([] : List UInt8)).toArray⟩, V8 (0 : UInt8), VI 0, VI 0, .slice none 0 0] ++ (List.replicate 32 (0 : UInt8)).map V8) (i := 0) rfl rfl rt76 (by rw [List.length_append, List.length_map, (show (List.replicate 32 (0 : UInt8)).length = 32 from (List.length_replicate ..))]; rfl) (resT (v := VI 4) rfl (resZ))) ?_
         refine ⟨_, rfl, ?_⟩
         refine .inl ⟨?_, rfl, H.sub (List.nil_sublist _)⟩
         rw [parseT, if_neg]
         rintro ⟨_, _, h3⟩
         rw [← htv, ← mayT_tv _ hgl, hc27] at h3
         cases h3
end Go.Proofs.Ytjmbbhnpfmblpaa
namespace Go.Proofs.Ytjmbbhnpfmblpaa
open Go
set_option maxRecDepth 100000
/-- a twin: where it stands. -/
def Sl.at (t : Sl) : Prop := ∃ b, t.a = some ⟨b, 0, none⟩ ∧ t.l.length = t.len ∧ t.cap = t.len + 3 ∧ t.len ≤ 1048576
end Go.Proofs.Ytjmbbhnpfmblpaa
namespace Go.Proofs.Ytjmbbhnpfmblpaa
open Go
set_option maxRecDepth 100000
theorem checkT_own (key : List UInt8) (t : Tok) (now : Int) (hm : mayT t = true) (ht : onF (hmac key (framed [t.head])) t.cs.l = t.tag) : checkT key t now = if now < t.from_ ∨ (effF t.rights t.until_ t.cs.l).2 ≤ now then 14 else 0 := by
  rw [checkT, if_neg (by rw [hm]; decide), if_neg (not_not_intro ht)]
theorem checkT_iff (key : List UInt8) (t : Tok) (now : Int) (hm : mayT t = true) (ht : onF (hmac key (framed [t.head])) t.cs.l = t.tag) : (checkT key t now = 0 ∨ checkT key t now = 14) ∧ (checkT key t now = 0 ↔ t.from_ ≤ now ∧ now < (effF t.rights t.until_ t.cs.l).2) := by
  rw [checkT_own key t now hm ht]
  by_cases h : now < t.from_ ∨ (effF t.rights t.until_ t.cs.l).2 ≤ now
  · rw [if_pos h]; exact ⟨.inr rfl, by constructor <;> intro h2 <;> omega⟩
  · rw [if_neg h]; exact ⟨.inl rfl, by constructor <;> intro h2 <;> omega⟩
theorem begun14_ret (w0 : World) :
    Ret Try.prog 65 [] w0 fun v w' => v = .bool true ∧ Hp w0 w' [] [] := by
  refine ret_mk Try.func65 rfl Try.ntmps65 (by simp) ?_
  have H := Hp.refl w0 []
  repeat refine c_seq ?_
  refine c_region ?_
  refine l_op (o_val (r_as) ?_)
  first | refine l_end ?_ | refine l_nil ?_
  repeat refine c_seq ?_
  refine c_region ?_
  refine l_op (o_val (r_bld' (cells := ((((1 : UInt8) :: List.replicate 31 (0 : UInt8))).map V8).toArray) (pv := [(0, V8 (1 : UInt8))]) bd31 rfl rfl) ?_)
  refine l_op (o_alloc H zc31 (fun b1 w H hb1 => ?_))
  replace H : Hp _ w _ ([.blk b1 ((List.replicate 32 (0 : UInt8)).map V8) 31]) := H
  refine l_op (o_stA (l' := ((1 : UInt8) :: List.replicate 31 (0 : UInt8))) H (i := 0) rfl rfl rfl cs31 (show (List.replicate 32 (0 : UInt8)).length = 32 from (List.length_replicate ..)) (show (((1 : UInt8) :: List.replicate 31 (0 : UInt8))).length = 32 from rfl) (fun w H => ?_))
  replace H : Hp _ w _ ([.blk b1 ((((1 : UInt8) :: List.replicate 31 (0 : UInt8))).map V8) 31]) := H
  first | refine l_end ?_ | refine l_nil ?_
  repeat refine c_seq ?_
  refine c_region ?_
  refine l_op (o_val (r_ldAA (l := ((1 : UInt8) :: List.replicate 31 (0 : UInt8))) H (i := 0) rfl rfl rt31 (show (((1 : UInt8) :: List.replicate 31 (0 : UInt8))).length = 32 from rfl)) ?_)
  refine l_op (o_val (r_bld' (cells := ([V64 (1 : UInt64), .string ⟨(([] : List UInt8)).toArray⟩, V8 (7 : UInt8), VI 0, VI 9, .slice none 0 0] ++ (List.replicate 32 (0 : UInt8)).map V8).toArray) (pv := [(0, V64 (1 : UInt64)), (2, V8 (7 : UInt8)), (4, VI 9)]) bd76 rfl rfl) ?_)
  refine l_op (o_callR Try.func68 rfl rfl rfl (issue_ok _ (((1 : UInt8) :: List.replicate 31 (0 : UInt8))) (show (((1 : UInt8) :: List.replicate 31 (0 : UInt8))).length = 32 from rfl) (⟨(1 : UInt64), ([] : List UInt8), (7 : UInt8), 0, 9, ⟨none, 0, 0, []⟩, List.replicate 32 (0 : UInt8)⟩ : Tok) (Gl.ok_nil _) (show (List.replicate 32 (0 : UInt8)).length = 32 from (List.length_replicate ..)) (by first | omega | (dsimp only; omega) | simp) (by first | rfl | (simp [mayT]; decide)) rfl) ?_)
  rintro _ w ⟨rfl, Hc⟩
  replace H : Hp _ w _ ([_]) := H.call Hc
  clear Hc
  refine l_op (o_val (r_mv) ?_)
  refine l_op (o_val (r_ext rfl rfl) ?_)
  refine l_op (o_val (r_ext rfl rfl) ?_)
  refine l_op (o_alloc H zc76 (fun b2 w H hb2 => ?_))
  replace H : Hp _ w _ ([_, .blk b2 ([V64 (0 : UInt64), .string ⟨(([] : List UInt8)).toArray⟩, V8 (0 : UInt8), VI 0, VI 0, .slice none 0 0] ++ (List.replicate 32 (0 : UInt8)).map V8) 76]) := H
  refine l_op (o_stW (C' := [V64 (1 : UInt64), .string ⟨(([] : List UInt8)).toArray⟩, V8 (7 : UInt8), VI 0, VI 9, .slice none 0 0] ++ (hmac (((1 : UInt8) :: List.replicate 31 (0 : UInt8))) (framed [headB ((1 : UInt64)) (([] : List UInt8)) ((7 : UInt8)) (0) (9)])).map V8) H (i := 1) rfl rfl rfl cs76 (by simp [Value.oneCell']) (by rw [List.length_append, List.length_map, (show (List.replicate 32 (0 : UInt8)).length = 32 from (List.length_replicate ..))]; rfl) (by rw [List.length_append, List.length_map, (show (hmac (((1 : UInt8) :: List.replicate 31 (0 : UInt8))) (framed [headB ((1 : UInt64)) (([] : List UInt8)) ((7 : UInt8)) (0) (9)])).length = 32 from hmac_len _ _)]; rfl) (fun w H => ?_))
  replace H : Hp _ w _ ([_, .blk b2 ([V64 (1 : UInt64), .string ⟨(([] : List UInt8)).toArray⟩, V8 (7 : UInt8), VI 0, VI 9, .slice none 0 0] ++ (hmac (((1 : UInt8) :: List.replicate 31 (0 : UInt8))) (framed [headB ((1 : UInt64)) (([] : List UInt8)) ((7 : UInt8)) (0) (9)])).map V8) 76]) := H
  refine l_op (o_val (r_as) ?_)
  first | refine l_end ?_ | refine l_nil ?_
  repeat refine c_seq ?_
  refine c_region ?_
  refine l_op (o_val (r_ldA (C := [V64 (1 : UInt64), .string ⟨(([] : List UInt8)).toArray⟩, V8 (7 : UInt8), VI 0, VI 9, .slice none 0 0] ++ (hmac (((1 : UInt8) :: List.replicate 31 (0 : UInt8))) (framed [headB ((1 : UInt64)) (([] : List UInt8)) ((7 : UInt8)) (0) (9)])).map V8) H (i := 1) rfl rfl rt76 (by rw [List.length_append, List.length_map, (show (hmac (((1 : UInt8) :: List.replicate 31 (0 : UInt8))) (framed [headB ((1 : UInt64)) (([] : List UInt8)) ((7 : UInt8)) (0) (9)])).length = 32 from hmac_len _ _)]; rfl)) ?_)
  refine l_op (o_val (r_bld' (cells := ([V8 (1 : UInt8), VI 5]).toArray) (pv := [(0, V8 (1 : UInt8)), (1, VI 5)]) bd78 rfl rfl) ?_)
  refine l_op (o_callR Try.func70 rfl rfl rfl (less_ok _ (⟨(1 : UInt64), ([] : List UInt8), (7 : UInt8), 0, 9, ⟨none, 0, 0, []⟩, hmac (((1 : UInt8) :: List.replicate 31 (0 : UInt8))) (framed [headB ((1 : UInt64)) (([] : List UInt8)) ((7 : UInt8)) (0) (9)])⟩ : Tok) ((1 : UInt8), 5) (Gl.ok_nil _) (show (hmac (((1 : UInt8) :: List.replicate 31 (0 : UInt8))) (framed [headB ((1 : UInt64)) (([] : List UInt8)) ((7 : UInt8)) (0) (9)])).length = 32 from hmac_len _ _) (by first | omega | (dsimp only; omega) | simp) (by first | rfl | (simp [mayT]; decide)) (by rfl) (by first | omega | (dsimp only; omega) | simp)) ?_)
  rintro _ w ⟨a3, c4, rfl, Hc⟩
  replace H : Hp _ w _ ([_, _, .own a3 (0 + 1) c4 ((([] : List Cav) ++ [((1 : UInt8), 5)]).flatMap cavE) 78 2]) := H.call Hc
  clear Hc
  refine l_op (o_val (r_mv) ?_)
  refine l_op (o_val (r_ext rfl rfl) ?_)
  refine l_op (o_val (r_ext rfl rfl) ?_)
  refine l_op (o_alloc H zc76 (fun b5 w H hb5 => ?_))
  replace H : Hp _ w _ ([_, _, _, .blk b5 ([V64 (0 : UInt64), .string ⟨(([] : List UInt8)).toArray⟩, V8 (0 : UInt8), VI 0, VI 0, .slice none 0 0] ++ (List.replicate 32 (0 : UInt8)).map V8) 76]) := H
  refine l_op (o_stW (C' := [V64 (1 : UInt64), .string ⟨(([] : List UInt8)).toArray⟩, V8 (7 : UInt8), VI 0, VI 9, .slice (hd a3) (0 + 1) c4] ++ (onF (hmac (((1 : UInt8) :: List.replicate 31 (0 : UInt8))) (framed [headB ((1 : UInt64)) (([] : List UInt8)) ((7 : UInt8)) (0) (9)])) [((1 : UInt8), 5)]).map V8) H (i := 3) rfl rfl rfl cs76 (by simp [Value.oneCell']) (by rw [List.length_append, List.length_map, (show (List.replicate 32 (0 : UInt8)).length = 32 from (List.length_replicate ..))]; rfl) (by rw [List.length_append, List.length_map, (show (onF (hmac (((1 : UInt8) :: List.replicate 31 (0 : UInt8))) (framed [headB ((1 : UInt64)) (([] : List UInt8)) ((7 : UInt8)) (0) (9)])) [((1 : UInt8), 5)]).length = 32 from onF_len _ (show (hmac (((1 : UInt8) :: List.replicate 31 (0 : UInt8))) (framed [headB ((1 : UInt64)) (([] : List UInt8)) ((7 : UInt8)) (0) (9)])).length = 32 from hmac_len _ _) _)]; rfl) (fun w H => ?_))
  replace H : Hp _ w _ ([_, _, _, .blk b5 ([V64 (1 : UInt64), .string ⟨(([] : List UInt8)).toArray⟩, V8 (7 : UInt8), VI 0, VI 9, .slice (hd a3) (0 + 1) c4] ++ (onF (hmac (((1 : UInt8) :: List.replicate 31 (0 : UInt8))) (framed [headB ((1 : UInt64)) (([] : List UInt8)) ((7 : UInt8)) (0) (9)])) [((1 : UInt8), 5)]).map V8) 76]) := H
  refine l_op (o_val (r_as) ?_)
  first | refine l_end ?_ | refine l_nil ?_
  repeat refine c_seq ?_
  refine c_region ?_
  refine l_op (o_val (r_ldA (C := [V64 (1 : UInt64), .string ⟨(([] : List UInt8)).toArray⟩, V8 (7 : UInt8), VI 0, VI 9, .slice (hd a3) (0 + 1) c4] ++ (onF (hmac (((1 : UInt8) :: List.replicate 31 (0 : UInt8))) (framed [headB ((1 : UInt64)) (([] : List UInt8)) ((7 : UInt8)) (0) (9)])) [((1 : UInt8), 5)]).map V8) H (i := 3) rfl rfl rt76 (by rw [List.length_append, List.length_map, (show (onF (hmac (((1 : UInt8) :: List.replicate 31 (0 : UInt8))) (framed [headB ((1 : UInt64)) (([] : List UInt8)) ((7 : UInt8)) (0) (9)])) [((1 : UInt8), 5)]).length = 32 from onF_len _ (show (hmac (((1 : UInt8) :: List.replicate 31 (0 : UInt8))) (framed [headB ((1 : UInt64)) (([] : List UInt8)) ((7 : UInt8)) (0) (9)])).length = 32 from hmac_len _ _) _)]; rfl)) ?_)
  refine l_op (o_callR Try.func72 rfl rfl rfl (effect_ret _ (⟨(1 : UInt64), ([] : List UInt8), (7 : UInt8), 0, 9, ⟨hd a3, 0 + 1, c4, ([] : List Cav) ++ [((1 : UInt8), 5)]⟩, onF (hmac (((1 : UInt8) :: List.replicate 31 (0 : UInt8))) (framed [headB ((1 : UInt64)) (([] : List UInt8)) ((7 : UInt8)) (0) (9)])) [((1 : UInt8), 5)]⟩ : Tok) (H.glOwn (i := 2) rfl (by decide) (fun _ _ => rfl)) (show (onF (hmac (((1 : UInt8) :: List.replicate 31 (0 : UInt8))) (framed [headB ((1 : UInt64)) (([] : List UInt8)) ((7 : UInt8)) (0) (9)])) [((1 : UInt8), 5)]).length = 32 from onF_len _ (show (hmac (((1 : UInt8) :: List.replicate 31 (0 : UInt8))) (framed [headB ((1 : UInt64)) (([] : List UInt8)) ((7 : UInt8)) (0) (9)])).length = 32 from hmac_len _ _) _)) ?_)
  rintro _ w ⟨rfl, Hc⟩
  replace H : Hp _ w _ ([_, _, _, _]) := H.call Hc
  clear Hc
  refine l_op (o_val (r_mv) ?_)
  refine l_op (o_val (r_ext rfl rfl) ?_)
  refine l_op (o_val (r_ext rfl rfl) ?_)
  refine l_op (o_val (r_as) ?_)
  refine l_op (o_val (r_as) ?_)
  first | refine l_end ?_ | refine l_nil ?_
  have c1 : ∀ n, (checkT (((1 : UInt8) :: List.replicate 31 (0 : UInt8))) (⟨(1 : UInt64), ([] : List UInt8), (7 : UInt8), 0, 9, ⟨none, 0, 0, []⟩, hmac (((1 : UInt8) :: List.replicate 31 (0 : UInt8))) (framed [headB ((1 : UInt64)) (([] : List UInt8)) ((7 : UInt8)) (0) (9)])⟩ : Tok) n = 0 ∨ checkT (((1 : UInt8) :: List.replicate 31 (0 : UInt8))) (⟨(1 : UInt64), ([] : List UInt8), (7 : UInt8), 0, 9, ⟨none, 0, 0, []⟩, hmac (((1 : UInt8) :: List.replicate 31 (0 : UInt8))) (framed [headB ((1 : UInt64)) (([] : List UInt8)) ((7 : UInt8)) (0) (9)])⟩ : Tok) n = 14) ∧ (checkT (((1 : UInt8) :: List.replicate 31 (0 : UInt8))) (⟨(1 : UInt64), ([] : List UInt8), (7 : UInt8), 0, 9, ⟨none, 0, 0, []⟩, hmac (((1 : UInt8) :: List.replicate 31 (0 : UInt8))) (framed [headB ((1 : UInt64)) (([] : List UInt8)) ((7 : UInt8)) (0) (9)])⟩ : Tok) n = 0 ↔ 0 ≤ n ∧ n < 9) := fun n => checkT_iff (((1 : UInt8) :: List.replicate 31 (0 : UInt8))) (⟨(1 : UInt64), ([] : List UInt8), (7 : UInt8), 0, 9, ⟨none, 0, 0, []⟩, hmac (((1 : UInt8) :: List.replicate 31 (0 : UInt8))) (framed [headB ((1 : UInt64)) (([] : List UInt8)) ((7 : UInt8)) (0) (9)])⟩ : Tok) n (by rfl) (by rfl)
  have c2 : ∀ n, (checkT (((1 : UInt8) :: List.replicate 31 (0 : UInt8))) (⟨(1 : UInt64), ([] : List UInt8), (7 : UInt8), 0, 9, ⟨hd a3, 0 + 1, c4, ([] : List Cav) ++ [((1 : UInt8), 5)]⟩, onF (hmac (((1 : UInt8) :: List.replicate 31 (0 : UInt8))) (framed [headB ((1 : UInt64)) (([] : List UInt8)) ((7 : UInt8)) (0) (9)])) [((1 : UInt8), 5)]⟩ : Tok) n = 0 ∨ checkT (((1 : UInt8) :: List.replicate 31 (0 : UInt8))) (⟨(1 : UInt64), ([] : List UInt8), (7 : UInt8), 0, 9, ⟨hd a3, 0 + 1, c4, ([] : List Cav) ++ [((1 : UInt8), 5)]⟩, onF (hmac (((1 : UInt8) :: List.replicate 31 (0 : UInt8))) (framed [headB ((1 : UInt64)) (([] : List UInt8)) ((7 : UInt8)) (0) (9)])) [((1 : UInt8), 5)]⟩ : Tok) n = 14) ∧ (checkT (((1 : UInt8) :: List.replicate 31 (0 : UInt8))) (⟨(1 : UInt64), ([] : List UInt8), (7 : UInt8), 0, 9, ⟨hd a3, 0 + 1, c4, ([] : List Cav) ++ [((1 : UInt8), 5)]⟩, onF (hmac (((1 : UInt8) :: List.replicate 31 (0 : UInt8))) (framed [headB ((1 : UInt64)) (([] : List UInt8)) ((7 : UInt8)) (0) (9)])) [((1 : UInt8), 5)]⟩ : Tok) n = 0 ↔ 0 ≤ n ∧ n < 5) := fun n => checkT_iff (((1 : UInt8) :: List.replicate 31 (0 : UInt8))) (⟨(1 : UInt64), ([] : List UInt8), (7 : UInt8), 0, 9, ⟨hd a3, 0 + 1, c4, ([] : List Cav) ++ [((1 : UInt8), 5)]⟩, onF (hmac (((1 : UInt8) :: List.replicate 31 (0 : UInt8))) (framed [headB ((1 : UInt64)) (([] : List UInt8)) ((7 : UInt8)) (0) (9)])) [((1 : UInt8), 5)]⟩ : Tok) n (by first | rfl | (simp [mayT]; decide)) (by rfl)
  repeat refine c_seq ?_
  refine c_region ?_
  refine l_op (o_val (r_mv) ?_)
  refine l_op (o_val (r_bin (a := 0) (b := 0) rfl rfl (fun _ => b_eqlB true (decide_eq_true (by decide)))) ?_)
  refine l_op (o_val (r_mv) ?_)
  refine l_yes rfl rfl rfl (o_val (r_mv) ?_)
  refine l_yes rfl rfl rfl (o_val (r_bin (a := 0) (b := 0) rfl rfl (fun _ => b_eqlB true (decide_eq_true (by decide)))) ?_)
  refine l_op (o_val (r_pick rfl) ?_)
  refine l_op (o_val (r_mv) ?_)
  refine l_yes rfl rfl rfl (o_val (r_ldAA (l := ((1 : UInt8) :: List.replicate 31 (0 : UInt8))) H (i := 0) rfl rfl rt31 (show (((1 : UInt8) :: List.replicate 31 (0 : UInt8))).length = 32 from rfl)) ?_)
  refine l_yes rfl rfl rfl (o_val (r_ldA (C := [V64 (1 : UInt64), .string ⟨(([] : List UInt8)).toArray⟩, V8 (7 : UInt8), VI 0, VI 9, .slice none 0 0] ++ (hmac (((1 : UInt8) :: List.replicate 31 (0 : UInt8))) (framed [headB ((1 : UInt64)) (([] : List UInt8)) ((7 : UInt8)) (0) (9)])).map V8) H (i := 1) rfl rfl rt76 (by rw [List.length_append, List.length_map, (show (hmac (((1 : UInt8) :: List.replicate 31 (0 : UInt8))) (framed [headB ((1 : UInt64)) (([] : List UInt8)) ((7 : UInt8)) (0) (9)])).length = 32 from hmac_len _ _)]; rfl)) ?_)
  refine l_yes rfl rfl rfl (o_callR Try.func77 rfl rfl rfl (check14_ret _ (((1 : UInt8) :: List.replicate 31 (0 : UInt8))) (show (((1 : UInt8) :: List.replicate 31 (0 : UInt8))).length = 32 from rfl) (⟨(1 : UInt64), ([] : List UInt8), (7 : UInt8), 0, 9, ⟨none, 0, 0, []⟩, hmac (((1 : UInt8) :: List.replicate 31 (0 : UInt8))) (framed [headB ((1 : UInt64)) (([] : List UInt8)) ((7 : UInt8)) (0) (9)])⟩ : Tok) (Gl.ok_nil _) (show (hmac (((1 : UInt8) :: List.replicate 31 (0 : UInt8))) (framed [headB ((1 : UInt64)) (([] : List UInt8)) ((7 : UInt8)) (0) (9)])).length = 32 from hmac_len _ _) (by first | omega | (dsimp only; omega) | simp) (8)) ?_)
  rintro _ w ⟨rfl, Hc⟩
  replace H : Hp _ w _ ([_, _, _, _]) := H.call Hc
  clear Hc
  refine l_yes rfl rfl rfl (o_val (r_bin (a := checkT (((1 : UInt8) :: List.replicate 31 (0 : UInt8))) (⟨(1 : UInt64), ([] : List UInt8), (7 : UInt8), 0, 9, ⟨none, 0, 0, []⟩, hmac (((1 : UInt8) :: List.replicate 31 (0 : UInt8))) (framed [headB ((1 : UInt64)) (([] : List UInt8)) ((7 : UInt8)) (0) (9)])⟩ : Tok) (8)) (b := 0) rfl rfl (fun _ => b_eqlB true (decide_eq_true (by have := c1 8; omega)))) ?_)
  refine l_op (o_val (r_pick rfl) ?_)
  refine l_op (o_val (r_mv) ?_)
  refine l_yes rfl rfl rfl (o_val (r_ldAA (l := ((1 : UInt8) :: List.replicate 31 (0 : UInt8))) H (i := 0) rfl rfl rt31 (show (((1 : UInt8) :: List.replicate 31 (0 : UInt8))).length = 32 from rfl)) ?_)
  refine l_yes rfl rfl rfl (o_val (r_ldA (C := [V64 (1 : UInt64), .string ⟨(([] : List UInt8)).toArray⟩, V8 (7 : UInt8), VI 0, VI 9, .slice none 0 0] ++ (hmac (((1 : UInt8) :: List.replicate 31 (0 : UInt8))) (framed [headB ((1 : UInt64)) (([] : List UInt8)) ((7 : UInt8)) (0) (9)])).map V8) H (i := 1) rfl rfl rt76 (by rw [List.length_append, List.length_map, (show (hmac (((1 : UInt8) :: List.replicate 31 (0 : UInt8))) (framed [headB ((1 : UInt64)) (([] : List UInt8)) ((7 : UInt8)) (0) (9)])).length = 32 from hmac_len _ _)]; rfl)) ?_)
  refine l_yes rfl rfl rfl (o_callR Try.func77 rfl rfl rfl (check14_ret _ (((1 : UInt8) :: List.replicate 31 (0 : UInt8))) (show (((1 : UInt8) :: List.replicate 31 (0 : UInt8))).length = 32 from rfl) (⟨(1 : UInt64), ([] : List UInt8), (7 : UInt8), 0, 9, ⟨none, 0, 0, []⟩, hmac (((1 : UInt8) :: List.replicate 31 (0 : UInt8))) (framed [headB ((1 : UInt64)) (([] : List UInt8)) ((7 : UInt8)) (0) (9)])⟩ : Tok) (Gl.ok_nil _) (show (hmac (((1 : UInt8) :: List.replicate 31 (0 : UInt8))) (framed [headB ((1 : UInt64)) (([] : List UInt8)) ((7 : UInt8)) (0) (9)])).length = 32 from hmac_len _ _) (by first | omega | (dsimp only; omega) | simp) (9)) ?_)
  rintro _ w ⟨rfl, Hc⟩
  replace H : Hp _ w _ ([_, _, _, _]) := H.call Hc
  clear Hc
  refine l_yes rfl rfl rfl (o_val (r_bin (a := checkT (((1 : UInt8) :: List.replicate 31 (0 : UInt8))) (⟨(1 : UInt64), ([] : List UInt8), (7 : UInt8), 0, 9, ⟨none, 0, 0, []⟩, hmac (((1 : UInt8) :: List.replicate 31 (0 : UInt8))) (framed [headB ((1 : UInt64)) (([] : List UInt8)) ((7 : UInt8)) (0) (9)])⟩ : Tok) (9)) (b := 14) rfl rfl (fun _ => b_eqlB true (decide_eq_true (by have := c1 9; omega)))) ?_)
  refine l_op (o_val (r_pick rfl) ?_)
  refine l_op (o_val (r_mv) ?_)
  refine l_yes rfl rfl rfl (o_val (r_ldAA (l := ((1 : UInt8) :: List.replicate 31 (0 : UInt8))) H (i := 0) rfl rfl rt31 (show (((1 : UInt8) :: List.replicate 31 (0 : UInt8))).length = 32 from rfl)) ?_)
  refine l_yes rfl rfl rfl (o_val (r_ldA (C := [V64 (1 : UInt64), .string ⟨(([] : List UInt8)).toArray⟩, V8 (7 : UInt8), VI 0, VI 9, .slice (hd a3) (0 + 1) c4] ++ (onF (hmac (((1 : UInt8) :: List.replicate 31 (0 : UInt8))) (framed [headB ((1 : UInt64)) (([] : List UInt8)) ((7 : UInt8)) (0) (9)])) [((1 : UInt8), 5)]).map V8) H (i := 3) rfl rfl rt76 (by rw [List.length_append, List.length_map, (show (onF (hmac (((1 : UInt8) :: List.replicate 31 (0 : UInt8))) (framed [headB ((1 : UInt64)) (([] : List UInt8)) ((7 : UInt8)) (0) (9)])) [((1 : UInt8), 5)]).length = 32 from onF_len _ (show (hmac (((1 : UInt8) :: List.replicate 31 (0 : UInt8))) (framed [headB ((1 : UInt64)) (([] : List UInt8)) ((7 : UInt8)) (0) (9)])).length = 32 from hmac_len _ _) _)]; rfl)) ?_)
  refine l_yes rfl rfl rfl (o_callR Try.func77 rfl rfl rfl (check14_ret _ (((1 : UInt8) :: List.replicate 31 (0 : UInt8))) (show (((1 : UInt8) :: List.replicate 31 (0 : UInt8))).length = 32 from rfl) (⟨(1 : UInt64), ([] : List UInt8), (7 : UInt8), 0, 9, ⟨hd a3, 0 + 1, c4, ([] : List Cav) ++ [((1 : UInt8), 5)]⟩, onF (hmac (((1 : UInt8) :: List.replicate 31 (0 : UInt8))) (framed [headB ((1 : UInt64)) (([] : List UInt8)) ((7 : UInt8)) (0) (9)])) [((1 : UInt8), 5)]⟩ : Tok) (H.glOwn (i := 2) rfl (by decide) (fun _ _ => rfl)) (show (onF (hmac (((1 : UInt8) :: List.replicate 31 (0 : UInt8))) (framed [headB ((1 : UInt64)) (([] : List UInt8)) ((7 : UInt8)) (0) (9)])) [((1 : UInt8), 5)]).length = 32 from onF_len _ (show (hmac (((1 : UInt8) :: List.replicate 31 (0 : UInt8))) (framed [headB ((1 : UInt64)) (([] : List UInt8)) ((7 : UInt8)) (0) (9)])).length = 32 from hmac_len _ _) _) (by first | omega | (dsimp only; omega) | simp) (6)) ?_)
  rintro _ w ⟨rfl, Hc⟩
  replace H : Hp _ w _ ([_, _, _, _]) := H.call Hc
  clear Hc
  refine l_yes rfl rfl rfl (o_val (r_bin (a := checkT (((1 : UInt8) :: List.replicate 31 (0 : UInt8))) (⟨(1 : UInt64), ([] : List UInt8), (7 : UInt8), 0, 9, ⟨hd a3, 0 + 1, c4, ([] : List Cav) ++ [((1 : UInt8), 5)]⟩, onF (hmac (((1 : UInt8) :: List.replicate 31 (0 : UInt8))) (framed [headB ((1 : UInt64)) (([] : List UInt8)) ((7 : UInt8)) (0) (9)])) [((1 : UInt8), 5)]⟩ : Tok) (6)) (b := 14) rfl rfl (fun _ => b_eqlB true (decide_eq_true (by have := c2 6; omega)))) ?_)
  refine l_op (o_val (r_pick rfl) ?_)
  refine l_op (o_val (r_mv) ?_)
  refine l_yes rfl rfl rfl (o_val (r_mv) ?_)
  refine l_yes rfl rfl rfl (o_val (r_bin (a := (((effF ((7 : UInt8)) (9) (([] : List Cav) ++ [((1 : UInt8), 5)])).1).toNat : Int)) (b := 1) rfl rfl (fun _ => b_eqlB true (decide_eq_true (by rfl)))) ?_)
  refine l_op (o_val (r_pick rfl) ?_)
  refine l_op (o_val (r_mv) ?_)
  refine l_yes rfl rfl rfl (o_val (r_mv) ?_)
  refine l_yes rfl rfl rfl (o_val (r_bin (a := (effF ((7 : UInt8)) (9) (([] : List Cav) ++ [((1 : UInt8), 5)])).2) (b := 5) rfl rfl (fun _ => b_eqlB true (decide_eq_true (by rfl)))) ?_)
  refine l_op (o_val (r_pick rfl) ?_)
  refine l_op (o_val (r_as) ?_)
  first | refine l_end ?_ | refine l_nil ?_
  refine c_ret ?_
  try dsimp only [Exit.then, Exit.inBlock]
  refine e_ret1 (v := .bool true) Try.results65 rfl ?_
  refine ⟨_, rfl, ?_⟩
  exact ⟨rfl, H.sub (List.nil_sublist _)⟩
end Go.Proofs.Ytjmbbhnpfmblpaa
namespace Go.Proofs.Ytjmbbhnpfmblpaa
open Go
set_option maxRecDepth 100000
theorem light14b_ret (w0 : World) (t : Tok) (_hc : t.cs.ok cavE 2 w0) (_htag : t.tag.length = 32) :
    Ret Try.prog 66 [.agg ([V64 t.serial, .string ⟨(t.tenant).toArray⟩, V8 t.rights, VI t.from_, VI t.until_, t.cs.v] ++ (t.tag).map V8).toArray] w0 fun v w' => v = .bool (decide (t.tenant.length ≤ 1024 ∧ t.cs.len ≤ 64)) ∧ Hp w0 w' [] [] := by
  refine ret_mk Try.func66 rfl Try.ntmps66 (by simp) ?_
  have H := Hp.refl w0 []
  repeat refine c_seq ?_
  refine c_region ?_
  refine l_op (o_box (v := .agg ([V64 t.serial, .string ⟨(t.tenant).toArray⟩, V8 t.rights, VI t.from_, VI t.until_, t.cs.v] ++ (t.tag).map V8).toArray) H rfl (fun b1 w H hb1 => ?_))
  replace H : Hp _ w _ ([.blk b1 ([V64 t.serial, .string ⟨(t.tenant).toArray⟩, V8 t.rights, VI t.from_, VI t.until_, t.cs.v] ++ (t.tag).map V8) 76]) := H
  refine l_op (o_val (r_as) ?_)
  first | refine l_end ?_ | refine l_nil ?_
  repeat refine c_seq ?_
  refine c_region ?_
  refine l_op (o_val (r_fa rfl fo76_1) ?_)
  refine l_op (o_val (r_ld (v := .string ⟨(t.tenant).toArray⟩) H (i := 0) rfl rfl ct9 rfl) ?_)
  refine l_op (o_val (r_lenstr (s := ⟨(t.tenant).toArray⟩) Try.underlying9 rfl) ?_)
  refine l_op (o_val (r_bin (a := ((t.tenant).length : Int)) (b := 1024) rfl rfl (fun _ => b_leq)) ?_)
  refine l_op (o_val (r_mv) ?_)
  by_cases hc2 : ((t.tenant).length : Int) ≤ 1024
  ·
   refine l_yes rfl rfl (by exact congrArg Value.bool (decide_eq_true hc2)) (o_val (r_fa rfl fo76_5) ?_)
   refine l_yes rfl rfl (by exact congrArg Value.bool (decide_eq_true hc2)) (o_val (r_ld (v := t.cs.v) H (i := 0) rfl rfl ct74 rfl) ?_)
   refine l_yes rfl rfl (by exact congrArg Value.bool (decide_eq_true hc2)) (o_val (r_lens el74 rfl) ?_)
   refine l_yes rfl rfl (by exact congrArg Value.bool (decide_eq_true hc2)) (o_val (r_bin (a := (t.cs.len : Int)) (b := 64) rfl rfl (fun _ => b_leq)) ?_)
   refine l_op (o_val (r_pick (b := true) (congrArg Value.bool (decide_eq_true hc2))) ?_)
   refine l_op (o_val (r_as) ?_)
   first | refine l_end ?_ | refine l_nil ?_
   refine c_ret ?_
   try dsimp only [Exit.then, Exit.inBlock]
   refine e_ret1 (v := .bool (decide ((t.cs.len : Int) ≤ 64))) Try.results66 rfl ?_
   refine ⟨_, rfl, ?_⟩
   refine ⟨?_, H.sub (List.nil_sublist _)⟩
   congr 1
   rw [decide_eq_decide]
   omega
  ·
   refine l_no rfl rfl (by exact congrArg Value.bool (decide_eq_false hc2)) rfl ?_
   refine l_no rfl rfl (by exact congrArg Value.bool (decide_eq_false hc2)) rfl ?_
   refine l_no rfl rfl (by exact congrArg Value.bool (decide_eq_false hc2)) rfl ?_
   refine l_no rfl rfl (by exact congrArg Value.bool (decide_eq_false hc2)) rfl ?_
   refine l_op (o_val (r_pick (b := false) (congrArg Value.bool (decide_eq_false hc2))) ?_)
   refine l_op (o_val (r_as) ?_)
   first | refine l_end ?_ | refine l_nil ?_
   refine c_ret ?_
   try dsimp only [Exit.then, Exit.inBlock]
   refine e_ret1 (v := .bool false) Try.results66 rfl ?_
   refine ⟨_, rfl, ?_⟩
   refine ⟨?_, H.sub (List.nil_sublist _)⟩
   first | rw [decide_eq_true (by omega : t.tenant.length ≤ 1024 ∧ t.cs.len ≤ 64)] | rw [decide_eq_false (by omega : ¬ (t.tenant.length ≤ 1024 ∧ t.cs.len ≤ 64))]
end Go.Proofs.Ytjmbbhnpfmblpaa
namespace Go.Proofs.Ytjmbbhnpfmblpaa
open Go
set_option maxRecDepth 100000
theorem tag14_ret (w0 : World) (key : List UInt8) (hk : key.length = 32) (t : Tok) (hc : t.cs.ok cavE 2 w0) (htag : t.tag.length = 32) (hn : t.tenant.length ≤ 65536) (hb : t.bd) :
    Ret Try.prog 116 [.agg ((key).map V8).toArray, .agg ([V64 t.serial, .string ⟨(t.tenant).toArray⟩, V8 t.rights, VI t.from_, VI t.until_, t.cs.v] ++ (t.tag).map V8).toArray] w0 fun v w' => v = .agg ((onF (hmac key (framed [t.head])) t.cs.l).map V8).toArray ∧ Hp w0 w' [] [] := by
  refine ret_mk Try.func116 rfl Try.ntmps116 (by simp) ?_
  have H := Hp.refl w0 []
  have hxl := hc.le
  have hxm := hc.mx
  have hmL : maxLen = 9223372036854775807 := rfl
  repeat refine c_seq ?_
  refine c_region ?_
  refine l_op (o_box (v := .agg ((key).map V8).toArray) H rfl (fun b1 w H hb1 => ?_))
  replace H : Hp _ w _ ([.blk b1 ((key).map V8) 31]) := H
  refine l_op (o_box (v := .agg ([V64 t.serial, .string ⟨(t.tenant).toArray⟩, V8 t.rights, VI t.from_, VI t.until_, t.cs.v] ++ (t.tag).map V8).toArray) H rfl (fun b2 w H hb2 => ?_))
  replace H : Hp _ w _ ([_, .blk b2 ([V64 t.serial, .string ⟨(t.tenant).toArray⟩, V8 t.rights, VI t.from_, VI t.until_, t.cs.v] ++ (t.tag).map V8) 76]) := H
  refine l_op (o_alloc H zc31 (fun b3 w H hb3 => ?_))
  replace H : Hp _ w _ ([_, _, .blk b3 ((List.replicate 32 (0 : UInt8)).map V8) 31]) := H
  first | refine l_end ?_ | refine l_nil ?_
  repeat refine c_seq ?_
  refine wp_held (fun w => Hp w0 w [] [.blk b1 ((key).map V8) 31, .blk b2 ([V64 t.serial, .string ⟨(t.tenant).toArray⟩, V8 t.rights, VI t.from_, VI t.until_, t.cs.v] ++ (t.tag).map V8) 76, .blk b3 ((List.replicate 32 (0 : UInt8)).map V8) 31]) mixed ?_
  replace H := H.drew
  have HS := H
  refine t_take 0 rfl (by kernel_rfl) (by kernel_rfl) (by kernel_rfl) (fun _ _ _ h => h) (fun w HS => r_slA (h := 32) (m := 32) (lv := none) (hv := none) (mv := none) rfl ar31 rfl rfl rfl (fun w => sbn w)) HS ?_
  refine t_take 1 rfl (by kernel_rfl) (by kernel_rfl) (by kernel_rfl) (fun _ _ _ h => h) (fun w HS => r_ldA (C := [V64 t.serial, .string ⟨(t.tenant).toArray⟩, V8 t.rights, VI t.from_, VI t.until_, t.cs.v] ++ (t.tag).map V8) HS (i := 1) rfl rfl rt76 (by rw [List.length_append, List.length_map, (show (t.tag).length = 32 from htag)]; rfl)) HS ?_
  refine t_all [2, 5] (by kernel_rfl) (by simp) (all_cons (w_op 2 rfl ?_) (all_cons (w_op 5 rfl ?_) (all_nil)))
  ·
   refine (o_callR Try.func126 rfl rfl rfl (head14_ret _ t (hc.up H) (show (t.tag).length = 32 from htag) (by first | omega | (dsimp only; omega) | simp) hb) ?_)
   rintro _ w ⟨a4, n5, c6, rfl, hn7, hh8, Hc⟩
   replace H : Hp _ w _ ([_, _, _, .own a4 n5 c6 ((t.head).map V8) 5 1]) := H.call Hc
   clear Hc
   try dsimp only at hn7
   refine ⟨H.sub (.cons_cons _ (.cons_cons _ (.cons_cons _ (List.nil_sublist _)))), ?_⟩
   replace HS := H.sub (.cons_cons _ (.cons_cons _ (.cons_cons _ (List.nil_sublist _))))
   refine t_all [3, 5] (by kernel_rfl) (by simp) (all_cons (w_op 3 rfl ?_) (all_cons (w_op 5 rfl ?_) (all_nil)))
   ·
    refine (o_bslV ([.slice (hd a4) n5 c6]) H sl22 zc29 rfl (by simp [Value.oneCell']) rfl (by decide) (fun b9 w H hb9 => ?_))
    replace H : Hp _ w _ ([_, _, _, _, .own (some b9) 1 1 ([.slice (hd a4) n5 c6]) 29 1]) := H
    refine ⟨H.sub (.cons_cons _ (.cons_cons _ (.cons_cons _ (List.nil_sublist _)))), ?_⟩
    replace HS := H.sub (.cons_cons _ (.cons_cons _ (.cons_cons _ (List.nil_sublist _))))
    refine t_all [4, 5] (by kernel_rfl) (by simp) (all_cons (w_op 4 rfl ?_) (all_cons (w_op 5 rfl ?_) (all_nil)))
    ·
     refine (o_callR Try.func53 rfl rfl rfl (of3_ret _ (⟨some ⟨b1, 0, none⟩, 32, 32, key⟩ : Sl) (H.slBlkA (i := 0) rfl 32 (show (key).length = 32 from hk) (by decide)) (hd (some b9)) 1 1 [⟨hd a4, n5, c6, t.head⟩] (H.own (i := 4) rfl) rfl (all1 (H.slOwn (i := 3) rfl)) (by (try dsimp only); omega) (by omega) (by simp [framed, be_len] <;> omega)) ?_)
     rintro _ w ⟨rfl, Hc⟩
     replace H : Hp _ w _ ([_, _, _, _, _]) := H.call Hc
     clear Hc
     refine ⟨H.sub (.cons_cons _ (.cons_cons _ (.cons_cons _ (List.nil_sublist _)))), ?_⟩
     replace HS := H.sub (.cons_cons _ (.cons_cons _ (.cons_cons _ (List.nil_sublist _))))
     refine t_step 5 rfl (by kernel_rfl) (o_alloc H zc31 (fun b10 w H hb10 => ?_))
     replace H : Hp _ w _ ([_, _, _, _, _, .blk b10 ((List.replicate 32 (0 : UInt8)).map V8) 31]) := H
     refine ⟨H.sub (.cons_cons _ (.cons_cons _ (.cons_cons _ (List.nil_sublist _)))), ?_⟩
     replace HS := H.sub (.cons_cons _ (.cons_cons _ (.cons_cons _ (List.nil_sublist _))))
     refine t_step 6 rfl (by kernel_rfl) (o_stA (l' := hmac (key) (framed [t.head])) H (i := 5) rfl rfl rfl cs31 (show (List.replicate 32 (0 : UInt8)).length = 32 from (List.length_replicate ..)) (show (hmac (key) (framed [t.head])).length = 32 from hmac_len _ _) (fun w H => ?_))
     replace H : Hp _ w _ ([_, _, _, _, _, .blk b10 ((hmac (key) (framed [t.head])).map V8) 31]) := H
     refine ⟨H.sub (.cons_cons _ (.cons_cons _ (.cons_cons _ (List.nil_sublist _)))), ?_⟩
     replace HS := H.sub (.cons_cons _ (.cons_cons _ (.cons_cons _ (List.nil_sublist _))))
     refine t_done (by kernel_rfl) ?_
     clear HS
     repeat refine c_seq ?_
     refine c_region ?_
     refine l_op (o_val (r_as) ?_)
     first | refine l_end ?_ | refine l_nil ?_
     repeat refine c_seq ?_
     refine c_block ?_
     repeat refine c_seq ?_
     refine c_loop (fun (i : Nat) => [(3, .pointer (some ⟨b2, 0, none⟩)), (4, .pointer (some ⟨b3, 0, none⟩)), (5, .pointer (some ⟨b10, 0, none⟩)), (6, VI (i : Int))])
       (fun (i : Nat) w => (i ≤ t.cs.len) ∧ Hp w0 w [] ([.blk b1 ((key).map V8) 31, .blk b2 ([V64 t.serial, .string ⟨(t.tenant).toArray⟩, V8 t.rights, VI t.from_, VI t.until_, t.cs.v] ++ (t.tag).map V8) 76, .blk b3 ((List.replicate 32 (0 : UInt8)).map V8) 31, .own a4 n5 c6 ((t.head).map V8) 5 1, .own (some b9) 1 1 ([.slice (hd a4) n5 c6]) 29 1, .blk b10 ((onF (hmac key (framed [t.head])) (t.cs.l.take i)).map V8) 31]))
       (fun (i : Nat) => t.cs.len - i) 0 ⟨rfl, rfl, rfl, rfl, trivial⟩ ⟨Nat.zero_le _, H⟩ ?_
     clear H
     rintro i τ w ⟨hi, H⟩
     repeat refine c_seq ?_
     refine c_region ?_
     refine l_op (o_val (r_mv) ?_)
     refine l_op (o_val (r_fa rfl fo76_5) ?_)
     refine l_op (o_val (r_ld (v := t.cs.v) H (i := 1) rfl rfl ct74 rfl) ?_)
     refine l_op (o_val (r_lens el74 rfl) ?_)
     refine l_op (o_val (r_bin (a := (i : Int)) (b := (t.cs.len : Int)) rfl rfl (fun _ => b_lss)) ?_)
     first | refine l_end ?_ | refine l_nil ?_
     by_cases hc11 : (i : Int) < (t.cs.len : Int)
     ·
      repeat refine c_seq ?_
      refine c_yes (by exact congrArg Value.bool (decide_eq_true hc11)) ?_
      refine c_skip ?_
      repeat refine c_seq ?_
      refine c_block ?_
      repeat refine c_seq ?_
      refine wp_held (fun w => Hp w0 w [] [.blk b1 ((key).map V8) 31, .blk b2 ([V64 t.serial, .string ⟨(t.tenant).toArray⟩, V8 t.rights, VI t.from_, VI t.until_, t.cs.v] ++ (t.tag).map V8) 76, .blk b3 ((List.replicate 32 (0 : UInt8)).map V8) 31, .own a4 n5 c6 ((t.head).map V8) 5 1, .own (some b9) 1 1 ([.slice (hd a4) n5 c6]) 29 1]) mixed ?_
      replace H := H.drew
      have HS := H.sub (.cons_cons _ (.cons_cons _ (.cons_cons _ (.cons_cons _ (.cons_cons _ (List.nil_sublist _))))))
      refine t_take 0 rfl (by kernel_rfl) (by kernel_rfl) (by kernel_rfl) (fun _ _ _ h => h) (fun w HS => r_slA (h := 32) (m := 32) (lv := none) (hv := none) (mv := none) rfl ar31 rfl rfl rfl (fun w => sbn w)) HS ?_
      refine t_take 1 rfl (by kernel_rfl) (by kernel_rfl) (by kernel_rfl) (fun _ _ _ h => h) (fun w HS => r_fa rfl fo76_5) HS ?_
      refine t_take 2 rfl (by kernel_rfl) (by kernel_rfl) (by kernel_rfl) (fun _ _ _ h => h) (fun w HS => r_ld (v := t.cs.v) HS (i := 1) rfl rfl ct74 rfl) HS ?_
      refine t_take 3 rfl (by kernel_rfl) (by kernel_rfl) (by kernel_rfl) (fun _ _ _ h => h) (fun w HS => r_mv) HS ?_
      have ah14 := ((hc.up HS)).addr (by decide) (by first | omega | (dsimp only; omega))
      obtain ⟨ab12, ao13, ah14⟩ := ah14
      refine t_take 4 rfl (by kernel_rfl) (by kernel_rfl) (by kernel_rfl) (fun _ _ _ h => h) (fun w HS => r_isN i rfl rfl el74 ah14 (by omega) (by (try simp only [Sl.cut]); omega)) HS ?_
      have he16 : ∃ c, t.cs.l[i]? = some c := ⟨_, List.getElem?_eq_getElem (by have := ((hc.up HS)).ln; (try dsimp only at this ⊢); omega)⟩
      obtain ⟨e15, he16⟩ := he16
      have hez17 := ((hc.up HS)).sz e15 (List.mem_of_getElem? he16)
      refine t_take 5 rfl (by kernel_rfl) (by kernel_rfl) (by kernel_rfl) (fun _ _ _ h => h) (fun w HS => r_ldRow (s := t.cs) (k := i) (hc.up HS) ah14 rfl rt78 (by decide) he16) HS ?_
      refine t_step 6 rfl (by kernel_rfl) (o_callR Try.func120 rfl rfl rfl (caveat14_ret _ e15 (hb.cs _ (List.mem_of_getElem? (by assumption)))) ?_)
      rintro _ w ⟨a18, c19, rfl, Hc⟩
      replace H : Hp _ w _ ([_, _, _, _, _, _, .own a18 9 c19 ((cavB e15).map V8) 5 1]) := H.call Hc
      clear Hc
      refine ⟨H.sub (.cons_cons _ (.cons_cons _ (.cons_cons _ (.cons_cons _ (.cons_cons _ (List.nil_sublist _)))))), ?_⟩
      replace HS := H.sub (.cons_cons _ (.cons_cons _ (.cons_cons _ (.cons_cons _ (.cons_cons _ (List.nil_sublist _))))))
      refine t_step 7 rfl (by kernel_rfl) (o_bslV ([.slice (hd a18) 9 c19]) H sl22 zc29 rfl (by simp [Value.oneCell']) rfl (by decide) (fun b20 w H hb20 => ?_))
      replace H : Hp _ w _ ([_, _, _, _, _, _, _, .own (some b20) 1 1 ([.slice (hd a18) 9 c19]) 29 1]) := H
      refine ⟨H.sub (.cons_cons _ (.cons_cons _ (.cons_cons _ (.cons_cons _ (.cons_cons _ (List.nil_sublist _)))))), ?_⟩
      replace HS := H.sub (.cons_cons _ (.cons_cons _ (.cons_cons _ (.cons_cons _ (.cons_cons _ (List.nil_sublist _))))))
      refine t_step 8 rfl (by kernel_rfl) (o_callR Try.func53 rfl rfl rfl (of3_ret _ (⟨some ⟨b10, 0, none⟩, 32, 32, onF (hmac key (framed [t.head])) (t.cs.l.take i)⟩ : Sl) (H.slBlkA (i := 5) rfl 32 (show (onF (hmac key (framed [t.head])) (t.cs.l.take i)).length = 32 from onF_len _ (hmac_len _ _) _) (by decide)) (hd (some b20)) 1 1 [⟨hd a18, 9, c19, cavB e15⟩] (H.own (i := 7) rfl) rfl (all1 (H.slOwn (i := 6) rfl)) (by (try dsimp only); omega) (by omega) (by simp [framed, be_len, cavB_len] <;> omega)) ?_)
      rintro _ w ⟨rfl, Hc⟩
      replace H : Hp _ w _ ([_, _, _, _, _, _, _, _]) := H.call Hc
      clear Hc
      refine ⟨H.sub (.cons_cons _ (.cons_cons _ (.cons_cons _ (.cons_cons _ (.cons_cons _ (List.nil_sublist _)))))), ?_⟩
      replace HS := H.sub (.cons_cons _ (.cons_cons _ (.cons_cons _ (.cons_cons _ (.cons_cons _ (List.nil_sublist _))))))
      refine t_step 9 rfl (by kernel_rfl) (o_stA (l' := hmac (onF (hmac key (framed [t.head])) (t.cs.l.take i)) (framed [cavB e15])) H (i := 5) rfl rfl rfl cs31 (show (onF (hmac key (framed [t.head])) (t.cs.l.take i)).length = 32 from onF_len _ (hmac_len _ _) _) (show (hmac (onF (hmac key (framed [t.head])) (t.cs.l.take i)) (framed [cavB e15])).length = 32 from hmac_len _ _) (fun w H => ?_))
      replace H : Hp _ w _ ([_, _, _, _, _, .blk b10 ((hmac (onF (hmac key (framed [t.head])) (t.cs.l.take i)) (framed [cavB e15])).map V8) 31, _, _]) := H
      refine ⟨H.sub (.cons_cons _ (.cons_cons _ (.cons_cons _ (.cons_cons _ (.cons_cons _ (List.nil_sublist _)))))), ?_⟩
      replace HS := H.sub (.cons_cons _ (.cons_cons _ (.cons_cons _ (.cons_cons _ (.cons_cons _ (List.nil_sublist _))))))
      refine t_done (by kernel_rfl) ?_
      clear HS
      repeat refine c_seq ?_
      refine c_region ?_
      refine l_op (o_val (r_mv) ?_)
      refine l_op (o_val (r_bin (a := (i : Int)) (b := 1) rfl rfl (fun _ => b_add (by omega) (by omega))) ?_)
      refine l_op (o_val (r_as) ?_)
      first | refine l_end ?_ | refine l_nil ?_
      rw [onF_succ _ t.cs.l i e15 he16] at H
      refine round_end (i + 1) ?_ ?_ ?_
      · exact ⟨rfl, rfl, rfl, show VI ((i : Int) + 1) = VI ((i + 1 : Nat) : Int) from congrArg VI (by omega), trivial⟩
      · refine ⟨?_, ?_⟩
        · try dsimp only
          exact by omega
        · exact H.sub (.cons_cons _ (.cons_cons _ (.cons_cons _ (.cons_cons _ (.cons_cons _ (.cons_cons _ (List.nil_sublist _)))))))
      · show t.cs.len - (i + 1 : Nat) < t.cs.len - i; omega
     ·
      repeat refine c_seq ?_
      refine c_no (by exact congrArg Value.bool (decide_eq_false hc11)) ?_
      refine c_exit ?_
      repeat refine c_seq ?_
      refine c_region ?_
      refine l_op (o_val (r_ldAA (l := onF (hmac key (framed [t.head])) (t.cs.l.take i)) H (i := 5) rfl rfl rt31 (show (onF (hmac key (framed [t.head])) (t.cs.l.take i)).length = 32 from onF_len _ (hmac_len _ _) _)) ?_)
      refine l_op (o_stA (l' := onF (hmac key (framed [t.head])) (t.cs.l.take i)) H (i := 2) rfl rfl rfl cs31 (show (List.replicate 32 (0 : UInt8)).length = 32 from (List.length_replicate ..)) (show (onF (hmac key (framed [t.head])) (t.cs.l.take i)).length = 32 from onF_len _ (hmac_len _ _) _) (fun w H => ?_))
      replace H : Hp _ w _ ([_, _, .blk b3 ((onF (hmac key (framed [t.head])) (t.cs.l.take i)).map V8) 31, _, _, _]) := H
      first | refine l_end ?_ | refine l_nil ?_
      refine c_ret ?_
      try dsimp only [Exit.then, Exit.inBlock]
      refine e_retA (l := onF (hmac key (framed [t.head])) (t.cs.l.take i)) Try.results116 H (i := 2) rfl rfl rt31 (show (onF (hmac key (framed [t.head])) (t.cs.l.take i)).length = 32 from onF_len _ (hmac_len _ _) _) ?_
      refine ⟨_, rfl, ?_⟩
      have hi2 : i = t.cs.len := by omega
      rw [List.take_of_length_le (by have := hc.ln; omega)]
      exact ⟨rfl, H.sub (List.nil_sublist _)⟩
    ·
     refine (o_alloc H zc31 (fun b21 w H hb21 => ?_))
     replace H : Hp _ w _ ([_, _, _, _, _, .blk b21 ((List.replicate 32 (0 : UInt8)).map V8) 31]) := H
     refine ⟨H.sub (.cons_cons _ (.cons_cons _ (.cons_cons _ (List.nil_sublist _)))), ?_⟩
     replace HS := H.sub (.cons_cons _ (.cons_cons _ (.cons_cons _ (List.nil_sublist _))))
     refine t_step 4 rfl (by kernel_rfl) (o_callR Try.func53 rfl rfl rfl (of3_ret _ (⟨some ⟨b1, 0, none⟩, 32, 32, key⟩ : Sl) (H.slBlkA (i := 0) rfl 32 (show (key).length = 32 from hk) (by decide)) (hd (some b9)) 1 1 [⟨hd a4, n5, c6, t.head⟩] (H.own (i := 4) rfl) rfl (all1 (H.slOwn (i := 3) rfl)) (by (try dsimp only); omega) (by omega) (by simp [framed, be_len] <;> omega)) ?_)
     rintro _ w ⟨rfl, Hc⟩
     replace H : Hp _ w _ ([_, _, _, _, _, _]) := H.call Hc
     clear Hc
     refine ⟨H.sub (.cons_cons _ (.cons_cons _ (.cons_cons _ (List.nil_sublist _)))), ?_⟩
     replace HS := H.sub (.cons_cons _ (.cons_cons _ (.cons_cons _ (List.nil_sublist _))))
     refine t_step 6 rfl (by kernel_rfl) (o_stA (l' := hmac (key) (framed [t.head])) H (i := 5) rfl rfl rfl cs31 (show (List.replicate 32 (0 : UInt8)).length = 32 from (List.length_replicate ..)) (show (hmac (key) (framed [t.head])).length = 32 from hmac_len _ _) (fun w H => ?_))
     replace H : Hp _ w _ ([_, _, _, _, _, .blk b21 ((hmac (key) (framed [t.head])).map V8) 31]) := H
     refine ⟨H.sub (.cons_cons _ (.cons_cons _ (.cons_cons _ (List.nil_sublist _)))), ?_⟩
     replace HS := H.sub (.cons_cons _ (.cons_cons _ (.cons_cons _ (List.nil_sublist _))))
     refine t_done (by kernel_rfl) ?_
     clear HS
     repeat refine c_seq ?_
     refine c_region ?_
     refine l_op (o_val (r_as) ?_)
     first | refine l_end ?_ | refine l_nil ?_
     repeat refine c_seq ?_
     refine c_block ?_
     repeat refine c_seq ?_
     refine c_loop (fun (i : Nat) => [(3, .pointer (some ⟨b2, 0, none⟩)), (4, .pointer (some ⟨b3, 0, none⟩)), (5, .pointer (some ⟨b21, 0, none⟩)), (6, VI (i : Int))])
       (fun (i : Nat) w => (i ≤ t.cs.len) ∧ Hp w0 w [] ([.blk b1 ((key).map V8) 31, .blk b2 ([V64 t.serial, .string ⟨(t.tenant).toArray⟩, V8 t.rights, VI t.from_, VI t.until_, t.cs.v] ++ (t.tag).map V8) 76, .blk b3 ((List.replicate 32 (0 : UInt8)).map V8) 31, .own a4 n5 c6 ((t.head).map V8) 5 1, .own (some b9) 1 1 ([.slice (hd a4) n5 c6]) 29 1, .blk b21 ((onF (hmac key (framed [t.head])) (t.cs.l.take i)).map V8) 31]))
       (fun (i : Nat) => t.cs.len - i) 0 ⟨rfl, rfl, rfl, rfl, trivial⟩ ⟨Nat.zero_le _, H⟩ ?_
     clear H
     rintro i τ w ⟨hi, H⟩
     repeat refine c_seq ?_
     refine c_region ?_
     refine l_op (o_val (r_mv) ?_)
     refine l_op (o_val (r_fa rfl fo76_5) ?_)
     refine l_op (o_val (r_ld (v := t.cs.v) H (i := 1) rfl rfl ct74 rfl) ?_)
     refine l_op (o_val (r_lens el74 rfl) ?_)
     refine l_op (o_val (r_bin (a := (i : Int)) (b := (t.cs.len : Int)) rfl rfl (fun _ => b_lss)) ?_)
     first | refine l_end ?_ | refine l_nil ?_
     by_cases hc22 : (i : Int) < (t.cs.len : Int)
     ·
      repeat refine c_seq ?_
      refine c_yes (by exact congrArg Value.bool (decide_eq_true hc22)) ?_
      refine c_skip ?_
      repeat refine c_seq ?_
      refine c_block ?_
      repeat refine c_seq ?_
      refine wp_held (fun w => Hp w0 w [] [.blk b1 ((key).map V8) 31, .blk b2 ([V64 t.serial, .string ⟨(t.tenant).toArray⟩, V8 t.rights, VI t.from_, VI t.until_, t.cs.v] ++ (t.tag).map V8) 76, .blk b3 ((List.replicate 32 (0 : UInt8)).map V8) 31, .own a4 n5 c6 ((t.head).map V8) 5 1, .own (some b9) 1 1 ([.slice (hd a4) n5 c6]) 29 1]) mixed ?_
      replace H := H.drew
      have HS := H.sub (.cons_cons _ (.cons_cons _ (.cons_cons _ (.cons_cons _ (.cons_cons _ (List.nil_sublist _))))))
      refine t_take 0 rfl (by kernel_rfl) (by kernel_rfl) (by kernel_rfl) (fun _ _ _ h => h) (fun w HS => r_slA (h := 32) (m := 32) (lv := none) (hv := none) (mv := none) rfl ar31 rfl rfl rfl (fun w => sbn w)) HS ?_
      refine t_take 1 rfl (by kernel_rfl) (by kernel_rfl) (by kernel_rfl) (fun _ _ _ h => h) (fun w HS => r_fa rfl fo76_5) HS ?_
      refine t_take 2 rfl (by kernel_rfl) (by kernel_rfl) (by kernel_rfl) (fun _ _ _ h => h) (fun w HS => r_ld (v := t.cs.v) HS (i := 1) rfl rfl ct74 rfl) HS ?_
      refine t_take 3 rfl (by kernel_rfl) (by kernel_rfl) (by kernel_rfl) (fun _ _ _ h => h) (fun w HS => r_mv) HS ?_
      have ah25 := ((hc.up HS)).addr (by decide) (by first | omega | (dsimp only; omega))
      obtain ⟨ab23, ao24, ah25⟩ := ah25
      refine t_take 4 rfl (by kernel_rfl) (by kernel_rfl) (by kernel_rfl) (fun _ _ _ h => h) (fun w HS => r_isN i rfl rfl el74 ah25 (by omega) (by (try simp only [Sl.cut]); omega)) HS ?_
      have he27 : ∃ c, t.cs.l[i]? = some c := ⟨_, List.getElem?_eq_getElem (by have := ((hc.up HS)).ln; (try dsimp only at this ⊢); omega)⟩
      obtain ⟨e26, he27⟩ := he27
      have hez28 := ((hc.up HS)).sz e26 (List.mem_of_getElem? he27)
      refine t_take 5 rfl (by kernel_rfl) (by kernel_rfl) (by kernel_rfl) (fun _ _ _ h => h) (fun w HS => r_ldRow (s := t.cs) (k := i) (hc.up HS) ah25 rfl rt78 (by decide) he27) HS ?_
      refine t_step 6 rfl (by kernel_rfl) (o_callR Try.func120 rfl rfl rfl (caveat14_ret _ e26 (hb.cs _ (List.mem_of_getElem? (by assumption)))) ?_)
      rintro _ w ⟨a29, c30, rfl, Hc⟩
      replace H : Hp _ w _ ([_, _, _, _, _, _, .own a29 9 c30 ((cavB e26).map V8) 5 1]) := H.call Hc
      clear Hc
      refine ⟨H.sub (.cons_cons _ (.cons_cons _ (.cons_cons _ (.cons_cons _ (.cons_cons _ (List.nil_sublist _)))))), ?_⟩
      replace HS := H.sub (.cons_cons _ (.cons_cons _ (.cons_cons _ (.cons_cons _ (.cons_cons _ (List.nil_sublist _))))))
      refine t_step 7 rfl (by kernel_rfl) (o_bslV ([.slice (hd a29) 9 c30]) H sl22 zc29 rfl (by simp [Value.oneCell']) rfl (by decide) (fun b31 w H hb31 => ?_))
      replace H : Hp _ w _ ([_, _, _, _, _, _, _, .own (some b31) 1 1 ([.slice (hd a29) 9 c30]) 29 1]) := H
      refine ⟨H.sub (.cons_cons _ (.cons_cons _ (.cons_cons _ (.cons_cons _ (.cons_cons _ (List.nil_sublist _)))))), ?_⟩
      replace HS := H.sub (.cons_cons _ (.cons_cons _ (.cons_cons _ (.cons_cons _ (.cons_cons _ (List.nil_sublist _))))))
      refine t_step 8 rfl (by kernel_rfl) (o_callR Try.func53 rfl rfl rfl (of3_ret _ (⟨some ⟨b21, 0, none⟩, 32, 32, onF (hmac key (framed [t.head])) (t.cs.l.take i)⟩ : Sl) (H.slBlkA (i := 5) rfl 32 (show (onF (hmac key (framed [t.head])) (t.cs.l.take i)).length = 32 from onF_len _ (hmac_len _ _) _) (by decide)) (hd (some b31)) 1 1 [⟨hd a29, 9, c30, cavB e26⟩] (H.own (i := 7) rfl) rfl (all1 (H.slOwn (i := 6) rfl)) (by (try dsimp only); omega) (by omega) (by simp [framed, be_len, cavB_len] <;> omega)) ?_)
      rintro _ w ⟨rfl, Hc⟩
      replace H : Hp _ w _ ([_, _, _, _, _, _, _, _]) := H.call Hc
      clear Hc
      refine ⟨H.sub (.cons_cons _ (.cons_cons _ (.cons_cons _ (.cons_cons _ (.cons_cons _ (List.nil_sublist _)))))), ?_⟩
      replace HS := H.sub (.cons_cons _ (.cons_cons _ (.cons_cons _ (.cons_cons _ (.cons_cons _ (List.nil_sublist _))))))
      refine t_step 9 rfl (by kernel_rfl) (o_stA (l' := hmac (onF (hmac key (framed [t.head])) (t.cs.l.take i)) (framed [cavB e26])) H (i := 5) rfl rfl rfl cs31 (show (onF (hmac key (framed [t.head])) (t.cs.l.take i)).length = 32 from onF_len _ (hmac_len _ _) _) (show (hmac (onF (hmac key (framed [t.head])) (t.cs.l.take i)) (framed [cavB e26])).length = 32 from hmac_len _ _) (fun w H => ?_))
      replace H : Hp _ w _ ([_, _, _, _, _, .blk b21 ((hmac (onF (hmac key (framed [t.head])) (t.cs.l.take i)) (framed [cavB e26])).map V8) 31, _, _]) := H
      refine ⟨H.sub (.cons_cons _ (.cons_cons _ (.cons_cons _ (.cons_cons _ (.cons_cons _ (List.nil_sublist _)))))), ?_⟩
      replace HS := H.sub (.cons_cons _ (.cons_cons _ (.cons_cons _ (.cons_cons _ (.cons_cons _ (List.nil_sublist _))))))
      refine t_done (by kernel_rfl) ?_
      clear HS
      repeat refine c_seq ?_
      refine c_region ?_
      refine l_op (o_val (r_mv) ?_)
      refine l_op (o_val (r_bin (a := (i : Int)) (b := 1) rfl rfl (fun _ => b_add (by omega) (by omega))) ?_)
      refine l_op (o_val (r_as) ?_)
      first | refine l_end ?_ | refine l_nil ?_
      rw [onF_succ _ t.cs.l i e26 he27] at H
      refine round_end (i + 1) ?_ ?_ ?_
      · exact ⟨rfl, rfl, rfl, show VI ((i : Int) + 1) = VI ((i + 1 : Nat) : Int) from congrArg VI (by omega), trivial⟩
      · refine ⟨?_, ?_⟩
        · try dsimp only
          exact by omega
        · exact H.sub (.cons_cons _ (.cons_cons _ (.cons_cons _ (.cons_cons _ (.cons_cons _ (.cons_cons _ (List.nil_sublist _)))))))
      · show t.cs.len - (i + 1 : Nat) < t.cs.len - i; omega
     ·
      repeat refine c_seq ?_
      refine c_no (by exact congrArg Value.bool (decide_eq_false hc22)) ?_
      refine c_exit ?_
      repeat refine c_seq ?_
      refine c_region ?_
      refine l_op (o_val (r_ldAA (l := onF (hmac key (framed [t.head])) (t.cs.l.take i)) H (i := 5) rfl rfl rt31 (show (onF (hmac key (framed [t.head])) (t.cs.l.take i)).length = 32 from onF_len _ (hmac_len _ _) _)) ?_)
      refine l_op (o_stA (l' := onF (hmac key (framed [t.head])) (t.cs.l.take i)) H (i := 2) rfl rfl rfl cs31 (show (List.replicate 32 (0 : UInt8)).length = 32 from (List.length_replicate ..)) (show (onF (hmac key (framed [t.head])) (t.cs.l.take i)).length = 32 from onF_len _ (hmac_len _ _) _) (fun w H => ?_))
      replace H : Hp _ w _ ([_, _, .blk b3 ((onF (hmac key (framed [t.head])) (t.cs.l.take i)).map V8) 31, _, _, _]) := H
      first | refine l_end ?_ | refine l_nil ?_
      refine c_ret ?_
      try dsimp only [Exit.then, Exit.inBlock]
      refine e_retA (l := onF (hmac key (framed [t.head])) (t.cs.l.take i)) Try.results116 H (i := 2) rfl rfl rt31 (show (onF (hmac key (framed [t.head])) (t.cs.l.take i)).length = 32 from onF_len _ (hmac_len _ _) _) ?_
      refine ⟨_, rfl, ?_⟩
      have hi2 : i = t.cs.len := by omega
      rw [List.take_of_length_le (by have := hc.ln; omega)]
      exact ⟨rfl, H.sub (List.nil_sublist _)⟩
   ·
    refine (o_alloc H zc31 (fun b32 w H hb32 => ?_))
    replace H : Hp _ w _ ([_, _, _, _, .blk b32 ((List.replicate 32 (0 : UInt8)).map V8) 31]) := H
    refine ⟨H.sub (.cons_cons _ (.cons_cons _ (.cons_cons _ (List.nil_sublist _)))), ?_⟩
    replace HS := H.sub (.cons_cons _ (.cons_cons _ (.cons_cons _ (List.nil_sublist _))))
    refine t_step 3 rfl (by kernel_rfl) (o_bslV ([.slice (hd a4) n5 c6]) H sl22 zc29 rfl (by simp [Value.oneCell']) rfl (by decide) (fun b33 w H hb33 => ?_))
    replace H : Hp _ w _ ([_, _, _, _, _, .own (some b33) 1 1 ([.slice (hd a4) n5 c6]) 29 1]) := H
    refine ⟨H.sub (.cons_cons _ (.cons_cons _ (.cons_cons _ (List.nil_sublist _)))), ?_⟩
    replace HS := H.sub (.cons_cons _ (.cons_cons _ (.cons_cons _ (List.nil_sublist _))))
    refine t_step 4 rfl (by kernel_rfl) (o_callR Try.func53 rfl rfl rfl (of3_ret _ (⟨some ⟨b1, 0, none⟩, 32, 32, key⟩ : Sl) (H.slBlkA (i := 0) rfl 32 (show (key).length = 32 from hk) (by decide)) (hd (some b33)) 1 1 [⟨hd a4, n5, c6, t.head⟩] (H.own (i := 5) rfl) rfl (all1 (H.slOwn (i := 3) rfl)) (by (try dsimp only); omega) (by omega) (by simp [framed, be_len] <;> omega)) ?_)
    rintro _ w ⟨rfl, Hc⟩
    replace H : Hp _ w _ ([_, _, _, _, _, _]) := H.call Hc
    clear Hc
    refine ⟨H.sub (.cons_cons _ (.cons_cons _ (.cons_cons _ (List.nil_sublist _)))), ?_⟩
    replace HS := H.sub (.cons_cons _ (.cons_cons _ (.cons_cons _ (List.nil_sublist _))))
    refine t_step 6 rfl (by kernel_rfl) (o_stA (l' := hmac (key) (framed [t.head])) H (i := 4) rfl rfl rfl cs31 (show (List.replicate 32 (0 : UInt8)).length = 32 from (List.length_replicate ..)) (show (hmac (key) (framed [t.head])).length = 32 from hmac_len _ _) (fun w H => ?_))
    replace H : Hp _ w _ ([_, _, _, _, .blk b32 ((hmac (key) (framed [t.head])).map V8) 31, _]) := H
    refine ⟨H.sub (.cons_cons _ (.cons_cons _ (.cons_cons _ (List.nil_sublist _)))), ?_⟩
    replace HS := H.sub (.cons_cons _ (.cons_cons _ (.cons_cons _ (List.nil_sublist _))))
    refine t_done (by kernel_rfl) ?_
    clear HS
    repeat refine c_seq ?_
    refine c_region ?_
    refine l_op (o_val (r_as) ?_)
    first | refine l_end ?_ | refine l_nil ?_
    repeat refine c_seq ?_
    refine c_block ?_
    repeat refine c_seq ?_
    refine c_loop (fun (i : Nat) => [(3, .pointer (some ⟨b2, 0, none⟩)), (4, .pointer (some ⟨b3, 0, none⟩)), (5, .pointer (some ⟨b32, 0, none⟩)), (6, VI (i : Int))])
      (fun (i : Nat) w => (i ≤ t.cs.len) ∧ Hp w0 w [] ([.blk b1 ((key).map V8) 31, .blk b2 ([V64 t.serial, .string ⟨(t.tenant).toArray⟩, V8 t.rights, VI t.from_, VI t.until_, t.cs.v] ++ (t.tag).map V8) 76, .blk b3 ((List.replicate 32 (0 : UInt8)).map V8) 31, .own a4 n5 c6 ((t.head).map V8) 5 1, .blk b32 ((onF (hmac key (framed [t.head])) (t.cs.l.take i)).map V8) 31, .own (some b33) 1 1 ([.slice (hd a4) n5 c6]) 29 1]))
      (fun (i : Nat) => t.cs.len - i) 0 ⟨rfl, rfl, rfl, rfl, trivial⟩ ⟨Nat.zero_le _, H⟩ ?_
    clear H
    rintro i τ w ⟨hi, H⟩
    repeat refine c_seq ?_
    refine c_region ?_
    refine l_op (o_val (r_mv) ?_)
    refine l_op (o_val (r_fa rfl fo76_5) ?_)
    refine l_op (o_val (r_ld (v := t.cs.v) H (i := 1) rfl rfl ct74 rfl) ?_)
    refine l_op (o_val (r_lens el74 rfl) ?_)
    refine l_op (o_val (r_bin (a := (i : Int)) (b := (t.cs.len : Int)) rfl rfl (fun _ => b_lss)) ?_)
    first | refine l_end ?_ | refine l_nil ?_
    by_cases hc34 : (i : Int) < (t.cs.len : Int)
    ·
     repeat refine c_seq ?_
     refine c_yes (by exact congrArg Value.bool (decide_eq_true hc34)) ?_
     refine c_skip ?_
     repeat refine c_seq ?_
     refine c_block ?_
     repeat refine c_seq ?_
     refine wp_held (fun w => Hp w0 w [] [.blk b1 ((key).map V8) 31, .blk b2 ([V64 t.serial, .string ⟨(t.tenant).toArray⟩, V8 t.rights, VI t.from_, VI t.until_, t.cs.v] ++ (t.tag).map V8) 76, .blk b3 ((List.replicate 32 (0 : UInt8)).map V8) 31, .own a4 n5 c6 ((t.head).map V8) 5 1, .own (some b33) 1 1 ([.slice (hd a4) n5 c6]) 29 1]) mixed ?_
     replace H := H.drew
     have HS := H.sub (.cons_cons _ (.cons_cons _ (.cons_cons _ (.cons_cons _ (.cons _ (.cons_cons _ (List.nil_sublist _)))))))
     refine t_take 0 rfl (by kernel_rfl) (by kernel_rfl) (by kernel_rfl) (fun _ _ _ h => h) (fun w HS => r_slA (h := 32) (m := 32) (lv := none) (hv := none) (mv := none) rfl ar31 rfl rfl rfl (fun w => sbn w)) HS ?_
     refine t_take 1 rfl (by kernel_rfl) (by kernel_rfl) (by kernel_rfl) (fun _ _ _ h => h) (fun w HS => r_fa rfl fo76_5) HS ?_
     refine t_take 2 rfl (by kernel_rfl) (by kernel_rfl) (by kernel_rfl) (fun _ _ _ h => h) (fun w HS => r_ld (v := t.cs.v) HS (i := 1) rfl rfl ct74 rfl) HS ?_
     refine t_take 3 rfl (by kernel_rfl) (by kernel_rfl) (by kernel_rfl) (fun _ _ _ h => h) (fun w HS => r_mv) HS ?_
     have ah37 := ((hc.up HS)).addr (by decide) (by first | omega | (dsimp only; omega))
     obtain ⟨ab35, ao36, ah37⟩ := ah37
     refine t_take 4 rfl (by kernel_rfl) (by kernel_rfl) (by kernel_rfl) (fun _ _ _ h => h) (fun w HS => r_isN i rfl rfl el74 ah37 (by omega) (by (try simp only [Sl.cut]); omega)) HS ?_
     have he39 : ∃ c, t.cs.l[i]? = some c := ⟨_, List.getElem?_eq_getElem (by have := ((hc.up HS)).ln; (try dsimp only at this ⊢); omega)⟩
     obtain ⟨e38, he39⟩ := he39
     have hez40 := ((hc.up HS)).sz e38 (List.mem_of_getElem? he39)
     refine t_take 5 rfl (by kernel_rfl) (by kernel_rfl) (by kernel_rfl) (fun _ _ _ h => h) (fun w HS => r_ldRow (s := t.cs) (k := i) (hc.up HS) ah37 rfl rt78 (by decide) he39) HS ?_
     refine t_step 6 rfl (by kernel_rfl) (o_callR Try.func120 rfl rfl rfl (caveat14_ret _ e38 (hb.cs _ (List.mem_of_getElem? (by assumption)))) ?_)
     rintro _ w ⟨a41, c42, rfl, Hc⟩
     replace H : Hp _ w _ ([_, _, _, _, _, _, .own a41 9 c42 ((cavB e38).map V8) 5 1]) := H.call Hc
     clear Hc
     refine ⟨H.sub (.cons_cons _ (.cons_cons _ (.cons_cons _ (.cons_cons _ (.cons _ (.cons_cons _ (List.nil_sublist _))))))), ?_⟩
     replace HS := H.sub (.cons_cons _ (.cons_cons _ (.cons_cons _ (.cons_cons _ (.cons _ (.cons_cons _ (List.nil_sublist _)))))))
     refine t_step 7 rfl (by kernel_rfl) (o_bslV ([.slice (hd a41) 9 c42]) H sl22 zc29 rfl (by simp [Value.oneCell']) rfl (by decide) (fun b43 w H hb43 => ?_))
     replace H : Hp _ w _ ([_, _, _, _, _, _, _, .own (some b43) 1 1 ([.slice (hd a41) 9 c42]) 29 1]) := H
     refine ⟨H.sub (.cons_cons _ (.cons_cons _ (.cons_cons _ (.cons_cons _ (.cons _ (.cons_cons _ (List.nil_sublist _))))))), ?_⟩
     replace HS := H.sub (.cons_cons _ (.cons_cons _ (.cons_cons _ (.cons_cons _ (.cons _ (.cons_cons _ (List.nil_sublist _)))))))
     refine t_step 8 rfl (by kernel_rfl) (o_callR Try.func53 rfl rfl rfl (of3_ret _ (⟨some ⟨b32, 0, none⟩, 32, 32, onF (hmac key (framed [t.head])) (t.cs.l.take i)⟩ : Sl) (H.slBlkA (i := 4) rfl 32 (show (onF (hmac key (framed [t.head])) (t.cs.l.take i)).length = 32 from onF_len _ (hmac_len _ _) _) (by decide)) (hd (some b43)) 1 1 [⟨hd a41, 9, c42, cavB e38⟩] (H.own (i := 7) rfl) rfl (all1 (H.slOwn (i := 6) rfl)) (by (try dsimp only); omega) (by omega) (by simp [framed, be_len, cavB_len] <;> omega)) ?_)
     rintro _ w ⟨rfl, Hc⟩
     replace H : Hp _ w _ ([_, _, _, _, _, _, _, _]) := H.call Hc
     clear Hc
     refine ⟨H.sub (.cons_cons _ (.cons_cons _ (.cons_cons _ (.cons_cons _ (.cons _ (.cons_cons _ (List.nil_sublist _))))))), ?_⟩
     replace HS := H.sub (.cons_cons _ (.cons_cons _ (.cons_cons _ (.cons_cons _ (.cons _ (.cons_cons _ (List.nil_sublist _)))))))
     refine t_step 9 rfl (by kernel_rfl) (o_stA (l' := hmac (onF (hmac key (framed [t.head])) (t.cs.l.take i)) (framed [cavB e38])) H (i := 4) rfl rfl rfl cs31 (show (onF (hmac key (framed [t.head])) (t.cs.l.take i)).length = 32 from onF_len _ (hmac_len _ _) _) (show (hmac (onF (hmac key (framed [t.head])) (t.cs.l.take i)) (framed [cavB e38])).length = 32 from hmac_len _ _) (fun w H => ?_))
     replace H : Hp _ w _ ([_, _, _, _, .blk b32 ((hmac (onF (hmac key (framed [t.head])) (t.cs.l.take i)) (framed [cavB e38])).map V8) 31, _, _, _]) := H
     refine ⟨H.sub (.cons_cons _ (.cons_cons _ (.cons_cons _ (.cons_cons _ (.cons _ (.cons_cons _ (List.nil_sublist _))))))), ?_⟩
     replace HS := H.sub (.cons_cons _ (.cons_cons _ (.cons_cons _ (.cons_cons _ (.cons _ (.cons_cons _ (List.nil_sublist _)))))))
     refine t_done (by kernel_rfl) ?_
     clear HS
     repeat refine c_seq ?_
     refine c_region ?_
     refine l_op (o_val (r_mv) ?_)
     refine l_op (o_val (r_bin (a := (i : Int)) (b := 1) rfl rfl (fun _ => b_add (by omega) (by omega))) ?_)
     refine l_op (o_val (r_as) ?_)
     first | refine l_end ?_ | refine l_nil ?_
     rw [onF_succ _ t.cs.l i e38 he39] at H
     refine round_end (i + 1) ?_ ?_ ?_
     · exact ⟨rfl, rfl, rfl, show VI ((i : Int) + 1) = VI ((i + 1 : Nat) : Int) from congrArg VI (by omega), trivial⟩
     · refine ⟨?_, ?_⟩
       · try dsimp only
         exact by omega
       · exact H.sub (.cons_cons _ (.cons_cons _ (.cons_cons _ (.cons_cons _ (.cons_cons _ (.cons_cons _ (List.nil_sublist _)))))))
     · show t.cs.len - (i + 1 : Nat) < t.cs.len - i; omega
    ·
     repeat refine c_seq ?_
     refine c_no (by exact congrArg Value.bool (decide_eq_false hc34)) ?_
     refine c_exit ?_
     repeat refine c_seq ?_
     refine c_region ?_
     refine l_op (o_val (r_ldAA (l := onF (hmac key (framed [t.head])) (t.cs.l.take i)) H (i := 4) rfl rfl rt31 (show (onF (hmac key (framed [t.head])) (t.cs.l.take i)).length = 32 from onF_len _ (hmac_len _ _) _)) ?_)
     refine l_op (o_stA (l' := onF (hmac key (framed [t.head])) (t.cs.l.take i)) H (i := 2) rfl rfl rfl cs31 (show (List.replicate 32 (0 : UInt8)).length = 32 from (List.length_replicate ..)) (show (onF (hmac key (framed [t.head])) (t.cs.l.take i)).length = 32 from onF_len _ (hmac_len _ _) _) (fun w H => ?_))
     replace H : Hp _ w _ ([_, _, .blk b3 ((onF (hmac key (framed [t.head])) (t.cs.l.take i)).map V8) 31, _, _, _]) := H
     first | refine l_end ?_ | refine l_nil ?_
     refine c_ret ?_
     try dsimp only [Exit.then, Exit.inBlock]
     refine e_retA (l := onF (hmac key (framed [t.head])) (t.cs.l.take i)) Try.results116 H (i := 2) rfl rfl rt31 (show (onF (hmac key (framed [t.head])) (t.cs.l.take i)).length = 32 from onF_len _ (hmac_len _ _) _) ?_
     refine ⟨_, rfl, ?_⟩
     have hi2 : i = t.cs.len := by omega
     rw [List.take_of_length_le (by have := hc.ln; omega)]
     exact ⟨rfl, H.sub (List.nil_sublist _)⟩
  ·
   refine (o_alloc H zc31 (fun b44 w H hb44 => ?_))
   replace H : Hp _ w _ ([_, _, _, .blk b44 ((List.replicate 32 (0 : UInt8)).map V8) 31]) := H
   refine ⟨H.sub (.cons_cons _ (.cons_cons _ (.cons_cons _ (List.nil_sublist _)))), ?_⟩
   replace HS := H.sub (.cons_cons _ (.cons_cons _ (.cons_cons _ (List.nil_sublist _))))
   refine t_step 2 rfl (by kernel_rfl) (o_callR Try.func126 rfl rfl rfl (head14_ret _ t (hc.up H) (show (t.tag).length = 32 from htag) (by first | omega | (dsimp only; omega) | simp) hb) ?_)
   rintro _ w ⟨a45, n46, c47, rfl, hn48, hh49, Hc⟩
   replace H : Hp _ w _ ([_, _, _, _, .own a45 n46 c47 ((t.head).map V8) 5 1]) := H.call Hc
   clear Hc
   try dsimp only at hn48
   refine ⟨H.sub (.cons_cons _ (.cons_cons _ (.cons_cons _ (List.nil_sublist _)))), ?_⟩
   replace HS := H.sub (.cons_cons _ (.cons_cons _ (.cons_cons _ (List.nil_sublist _))))
   refine t_step 3 rfl (by kernel_rfl) (o_bslV ([.slice (hd a45) n46 c47]) H sl22 zc29 rfl (by simp [Value.oneCell']) rfl (by decide) (fun b50 w H hb50 => ?_))
   replace H : Hp _ w _ ([_, _, _, _, _, .own (some b50) 1 1 ([.slice (hd a45) n46 c47]) 29 1]) := H
   refine ⟨H.sub (.cons_cons _ (.cons_cons _ (.cons_cons _ (List.nil_sublist _)))), ?_⟩
   replace HS := H.sub (.cons_cons _ (.cons_cons _ (.cons_cons _ (List.nil_sublist _))))
   refine t_step 4 rfl (by kernel_rfl) (o_callR Try.func53 rfl rfl rfl (of3_ret _ (⟨some ⟨b1, 0, none⟩, 32, 32, key⟩ : Sl) (H.slBlkA (i := 0) rfl 32 (show (key).length = 32 from hk) (by decide)) (hd (some b50)) 1 1 [⟨hd a45, n46, c47, t.head⟩] (H.own (i := 5) rfl) rfl (all1 (H.slOwn (i := 4) rfl)) (by (try dsimp only); omega) (by omega) (by simp [framed, be_len] <;> omega)) ?_)
   rintro _ w ⟨rfl, Hc⟩
   replace H : Hp _ w _ ([_, _, _, _, _, _]) := H.call Hc
   clear Hc
   refine ⟨H.sub (.cons_cons _ (.cons_cons _ (.cons_cons _ (List.nil_sublist _)))), ?_⟩
   replace HS := H.sub (.cons_cons _ (.cons_cons _ (.cons_cons _ (List.nil_sublist _))))
   refine t_step 6 rfl (by kernel_rfl) (o_stA (l' := hmac (key) (framed [t.head])) H (i := 3) rfl rfl rfl cs31 (show (List.replicate 32 (0 : UInt8)).length = 32 from (List.length_replicate ..)) (show (hmac (key) (framed [t.head])).length = 32 from hmac_len _ _) (fun w H => ?_))
   replace H : Hp _ w _ ([_, _, _, .blk b44 ((hmac (key) (framed [t.head])).map V8) 31, _, _]) := H
   refine ⟨H.sub (.cons_cons _ (.cons_cons _ (.cons_cons _ (List.nil_sublist _)))), ?_⟩
   replace HS := H.sub (.cons_cons _ (.cons_cons _ (.cons_cons _ (List.nil_sublist _))))
   refine t_done (by kernel_rfl) ?_
   clear HS
   repeat refine c_seq ?_
   refine c_region ?_
   refine l_op (o_val (r_as) ?_)
   first | refine l_end ?_ | refine l_nil ?_
   repeat refine c_seq ?_
   refine c_block ?_
   repeat refine c_seq ?_
   refine c_loop (fun (i : Nat) => [(3, .pointer (some ⟨b2, 0, none⟩)), (4, .pointer (some ⟨b3, 0, none⟩)), (5, .pointer (some ⟨b44, 0, none⟩)), (6, VI (i : Int))])
     (fun (i : Nat) w => (i ≤ t.cs.len) ∧ Hp w0 w [] ([.blk b1 ((key).map V8) 31, .blk b2 ([V64 t.serial, .string ⟨(t.tenant).toArray⟩, V8 t.rights, VI t.from_, VI t.until_, t.cs.v] ++ (t.tag).map V8) 76, .blk b3 ((List.replicate 32 (0 : UInt8)).map V8) 31, .blk b44 ((onF (hmac key (framed [t.head])) (t.cs.l.take i)).map V8) 31, .own a45 n46 c47 ((t.head).map V8) 5 1, .own (some b50) 1 1 ([.slice (hd a45) n46 c47]) 29 1]))
     (fun (i : Nat) => t.cs.len - i) 0 ⟨rfl, rfl, rfl, rfl, trivial⟩ ⟨Nat.zero_le _, H⟩ ?_
   clear H
   rintro i τ w ⟨hi, H⟩
   repeat refine c_seq ?_
   refine c_region ?_
   refine l_op (o_val (r_mv) ?_)
   refine l_op (o_val (r_fa rfl fo76_5) ?_)
   refine l_op (o_val (r_ld (v := t.cs.v) H (i := 1) rfl rfl ct74 rfl) ?_)
   refine l_op (o_val (r_lens el74 rfl) ?_)
   refine l_op (o_val (r_bin (a := (i : Int)) (b := (t.cs.len : Int)) rfl rfl (fun _ => b_lss)) ?_)
   first | refine l_end ?_ | refine l_nil ?_
   by_cases hc51 : (i : Int) < (t.cs.len : Int)
   ·
    repeat refine c_seq ?_
    refine c_yes (by exact congrArg Value.bool (decide_eq_true hc51)) ?_
    refine c_skip ?_
    repeat refine c_seq ?_
    refine c_block ?_
    repeat refine c_seq ?_
    refine wp_held (fun w => Hp w0 w [] [.blk b1 ((key).map V8) 31, .blk b2 ([V64 t.serial, .string ⟨(t.tenant).toArray⟩, V8 t.rights, VI t.from_, VI t.until_, t.cs.v] ++ (t.tag).map V8) 76, .blk b3 ((List.replicate 32 (0 : UInt8)).map V8) 31, .own a45 n46 c47 ((t.head).map V8) 5 1, .own (some b50) 1 1 ([.slice (hd a45) n46 c47]) 29 1]) mixed ?_
    replace H := H.drew
    have HS := H.sub (.cons_cons _ (.cons_cons _ (.cons_cons _ (.cons _ (.cons_cons _ (.cons_cons _ (List.nil_sublist _)))))))
    refine t_take 0 rfl (by kernel_rfl) (by kernel_rfl) (by kernel_rfl) (fun _ _ _ h => h) (fun w HS => r_slA (h := 32) (m := 32) (lv := none) (hv := none) (mv := none) rfl ar31 rfl rfl rfl (fun w => sbn w)) HS ?_
    refine t_take 1 rfl (by kernel_rfl) (by kernel_rfl) (by kernel_rfl) (fun _ _ _ h => h) (fun w HS => r_fa rfl fo76_5) HS ?_
    refine t_take 2 rfl (by kernel_rfl) (by kernel_rfl) (by kernel_rfl) (fun _ _ _ h => h) (fun w HS => r_ld (v := t.cs.v) HS (i := 1) rfl rfl ct74 rfl) HS ?_
    refine t_take 3 rfl (by kernel_rfl) (by kernel_rfl) (by kernel_rfl) (fun _ _ _ h => h) (fun w HS => r_mv) HS ?_
    have ah54 := ((hc.up HS)).addr (by decide) (by first | omega | (dsimp only; omega))
    obtain ⟨ab52, ao53, ah54⟩ := ah54
    refine t_take 4 rfl (by kernel_rfl) (by kernel_rfl) (by kernel_rfl) (fun _ _ _ h => h) (fun w HS => r_isN i rfl rfl el74 ah54 (by omega) (by (try simp only [Sl.cut]); omega)) HS ?_
    have he56 : ∃ c, t.cs.l[i]? = some c := ⟨_, List.getElem?_eq_getElem (by have := ((hc.up HS)).ln; (try dsimp only at this ⊢); omega)⟩
    obtain ⟨e55, he56⟩ := he56
    have hez57 := ((hc.up HS)).sz e55 (List.mem_of_getElem? he56)
    refine t_take 5 rfl (by kernel_rfl) (by kernel_rfl) (by kernel_rfl) (fun _ _ _ h => h) (fun w HS => r_ldRow (s := t.cs) (k := i) (hc.up HS) ah54 rfl rt78 (by decide) he56) HS ?_
    refine t_step 6 rfl (by kernel_rfl) (o_callR Try.func120 rfl rfl rfl (caveat14_ret _ e55 (hb.cs _ (List.mem_of_getElem? (by assumption)))) ?_)
    rintro _ w ⟨a58, c59, rfl, Hc⟩
    replace H : Hp _ w _ ([_, _, _, _, _, _, .own a58 9 c59 ((cavB e55).map V8) 5 1]) := H.call Hc
    clear Hc
    refine ⟨H.sub (.cons_cons _ (.cons_cons _ (.cons_cons _ (.cons _ (.cons_cons _ (.cons_cons _ (List.nil_sublist _))))))), ?_⟩
    replace HS := H.sub (.cons_cons _ (.cons_cons _ (.cons_cons _ (.cons _ (.cons_cons _ (.cons_cons _ (List.nil_sublist _)))))))
    refine t_step 7 rfl (by kernel_rfl) (o_bslV ([.slice (hd a58) 9 c59]) H sl22 zc29 rfl (by simp [Value.oneCell']) rfl (by decide) (fun b60 w H hb60 => ?_))
    replace H : Hp _ w _ ([_, _, _, _, _, _, _, .own (some b60) 1 1 ([.slice (hd a58) 9 c59]) 29 1]) := H
    refine ⟨H.sub (.cons_cons _ (.cons_cons _ (.cons_cons _ (.cons _ (.cons_cons _ (.cons_cons _ (List.nil_sublist _))))))), ?_⟩
    replace HS := H.sub (.cons_cons _ (.cons_cons _ (.cons_cons _ (.cons _ (.cons_cons _ (.cons_cons _ (List.nil_sublist _)))))))
    refine t_step 8 rfl (by kernel_rfl) (o_callR Try.func53 rfl rfl rfl (of3_ret _ (⟨some ⟨b44, 0, none⟩, 32, 32, onF (hmac key (framed [t.head])) (t.cs.l.take i)⟩ : Sl) (H.slBlkA (i := 3) rfl 32 (show (onF (hmac key (framed [t.head])) (t.cs.l.take i)).length = 32 from onF_len _ (hmac_len _ _) _) (by decide)) (hd (some b60)) 1 1 [⟨hd a58, 9, c59, cavB e55⟩] (H.own (i := 7) rfl) rfl (all1 (H.slOwn (i := 6) rfl)) (by (try dsimp only); omega) (by omega) (by simp [framed, be_len, cavB_len] <;> omega)) ?_)
    rintro _ w ⟨rfl, Hc⟩
    replace H : Hp _ w _ ([_, _, _, _, _, _, _, _]) := H.call Hc
    clear Hc
    refine ⟨H.sub (.cons_cons _ (.cons_cons _ (.cons_cons _ (.cons _ (.cons_cons _ (.cons_cons _ (List.nil_sublist _))))))), ?_⟩
    replace HS := H.sub (.cons_cons _ (.cons_cons _ (.cons_cons _ (.cons _ (.cons_cons _ (.cons_cons _ (List.nil_sublist _)))))))
    refine t_step 9 rfl (by kernel_rfl) (o_stA (l' := hmac (onF (hmac key (framed [t.head])) (t.cs.l.take i)) (framed [cavB e55])) H (i := 3) rfl rfl rfl cs31 (show (onF (hmac key (framed [t.head])) (t.cs.l.take i)).length = 32 from onF_len _ (hmac_len _ _) _) (show (hmac (onF (hmac key (framed [t.head])) (t.cs.l.take i)) (framed [cavB e55])).length = 32 from hmac_len _ _) (fun w H => ?_))
    replace H : Hp _ w _ ([_, _, _, .blk b44 ((hmac (onF (hmac key (framed [t.head])) (t.cs.l.take i)) (framed [cavB e55])).map V8) 31, _, _, _, _]) := H
    refine ⟨H.sub (.cons_cons _ (.cons_cons _ (.cons_cons _ (.cons _ (.cons_cons _ (.cons_cons _ (List.nil_sublist _))))))), ?_⟩
    replace HS := H.sub (.cons_cons _ (.cons_cons _ (.cons_cons _ (.cons _ (.cons_cons _ (.cons_cons _ (List.nil_sublist _)))))))
    refine t_done (by kernel_rfl) ?_
    clear HS
    repeat refine c_seq ?_
    refine c_region ?_
    refine l_op (o_val (r_mv) ?_)
    refine l_op (o_val (r_bin (a := (i : Int)) (b := 1) rfl rfl (fun _ => b_add (by omega) (by omega))) ?_)
    refine l_op (o_val (r_as) ?_)
    first | refine l_end ?_ | refine l_nil ?_
    rw [onF_succ _ t.cs.l i e55 he56] at H
    refine round_end (i + 1) ?_ ?_ ?_
    · exact ⟨rfl, rfl, rfl, show VI ((i : Int) + 1) = VI ((i + 1 : Nat) : Int) from congrArg VI (by omega), trivial⟩
    · refine ⟨?_, ?_⟩
      · try dsimp only
        exact by omega
      · exact H.sub (.cons_cons _ (.cons_cons _ (.cons_cons _ (.cons_cons _ (.cons_cons _ (.cons_cons _ (List.nil_sublist _)))))))
    · show t.cs.len - (i + 1 : Nat) < t.cs.len - i; omega
   ·
    repeat refine c_seq ?_
    refine c_no (by exact congrArg Value.bool (decide_eq_false hc51)) ?_
    refine c_exit ?_
    repeat refine c_seq ?_
    refine c_region ?_
    refine l_op (o_val (r_ldAA (l := onF (hmac key (framed [t.head])) (t.cs.l.take i)) H (i := 3) rfl rfl rt31 (show (onF (hmac key (framed [t.head])) (t.cs.l.take i)).length = 32 from onF_len _ (hmac_len _ _) _)) ?_)
    refine l_op (o_stA (l' := onF (hmac key (framed [t.head])) (t.cs.l.take i)) H (i := 2) rfl rfl rfl cs31 (show (List.replicate 32 (0 : UInt8)).length = 32 from (List.length_replicate ..)) (show (onF (hmac key (framed [t.head])) (t.cs.l.take i)).length = 32 from onF_len _ (hmac_len _ _) _) (fun w H => ?_))
    replace H : Hp _ w _ ([_, _, .blk b3 ((onF (hmac key (framed [t.head])) (t.cs.l.take i)).map V8) 31, _, _, _]) := H
    first | refine l_end ?_ | refine l_nil ?_
    refine c_ret ?_
    try dsimp only [Exit.then, Exit.inBlock]
    refine e_retA (l := onF (hmac key (framed [t.head])) (t.cs.l.take i)) Try.results116 H (i := 2) rfl rfl rt31 (show (onF (hmac key (framed [t.head])) (t.cs.l.take i)).length = 32 from onF_len _ (hmac_len _ _) _) ?_
    refine ⟨_, rfl, ?_⟩
    have hi2 : i = t.cs.len := by omega
    rw [List.take_of_length_le (by have := hc.ln; omega)]
    exact ⟨rfl, H.sub (List.nil_sublist _)⟩
end Go.Proofs.Ytjmbbhnpfmblpaa
namespace Go.Proofs.Ytjmbbhnpfmblpaa
open Go
section
variable {P : Program} {Q : Exit → Act → World → Prop} {n : Nat} {σ : Nat → Value} {w w0 : World} {K : Act → World → Prop}
  {ty : TypeId} {pos : String} {aft : Array Edge} {g : Option (Nat × Bool)} {d : Nat} {t : TypeId} {x y : Operand} {S : List Nat} {L : List Ch}
/-- arrays of truths. -/
theorem r_ldBB {b i k : Nat} {l : List Bool} {T : TypeId} (H : Hp w0 w S L) (hi : L[i]? = some (.blk b (l.map Value.bool) T)) (hx : ev n σ x = .pointer (some ⟨b, 0 + k * 1, none⟩)) (ht : cellTy P t = true) (hk : k < l.length) :
    (execOp (ev n σ) ⟨some d, .load t x, ty, pos, aft, g⟩).run P w = .ok (.value (.bool (l.getD k false))) w :=
  r_ld H hi hx ht (by rw [Nat.mul_one, Nat.zero_add, List.getElem?_map, List.getElem?_eq_getElem hk, List.getD_eq_getElem?_getD, List.getElem?_eq_getElem hk]; rfl)
theorem r_ldBA {b i k : Nat} {l : List Bool} {T : TypeId} (H : Hp w0 w S L) (hi : L[i]? = some (.blk b (l.map Value.bool) T)) (hx : ev n σ x = .pointer (some ⟨b, 0, none⟩)) (ht : rowTy P t = some k) (hk : l.length = k) :
    (execOp (ev n σ) ⟨some d, .load t x, ty, pos, aft, g⟩).run P w = .ok (.value (.agg (l.map Value.bool).toArray)) w :=
  r_ldA H hi hx ht (by rw [List.length_map, hk])
theorem o_stBB {b k i : Nat} {l : List Bool} {T : TypeId} {u : Bool} (H : Hp w0 w S L) (hi : L[i]? = some (.blk b (l.map Value.bool) T)) (hx : ev n σ x = .pointer (some ⟨b, 0 + k * 1, none⟩))
    (hy : ev n σ y = .bool u) (hs : cellSz P t = some 1) (hk : k < l.length)
    (h : ∀ w', Hp w0 w' S (L.set i (.blk b ((l.set k u).map Value.bool) T)) → K (mk n σ) w') : Oper.wp P ⟨none, .store t x y, ty, pos, aft, g⟩ (mk n σ) w K Q := by
  refine o_st H hi hx hy hs rfl (by simpa using hk) fun w' H' => h w' ?_
  rw [← List.map_set, Nat.mul_one, Nat.zero_add] at H'
  exact H'
theorem o_stBA {b i k : Nat} {l l' : List Bool} {T : TypeId} (H : Hp w0 w S L) (hi : L[i]? = some (.blk b (l.map Value.bool) T)) (hx : ev n σ x = .pointer (some ⟨b, 0, none⟩)) (hy : ev n σ y = .agg (l'.map Value.bool).toArray)
    (hs : cellSz P t = some k) (h1 : l.length = k) (h2 : l'.length = k)
    (h : ∀ w', Hp w0 w' S (L.set i (.blk b (l'.map Value.bool) T)) → K (mk n σ) w') : Oper.wp P ⟨none, .store t x y, ty, pos, aft, g⟩ (mk n σ) w K Q :=
  o_stw H hi hx hy (by rw [hs, List.size_toArray, List.length_map, h2]) (by rw [List.all_toArray]; simp [Value.oneCell']) (by rw [List.size_toArray, List.length_map, h2, List.length_map, h1]) fun w' H' => h w' H'
end
end Go.Proofs.Ytjmbbhnpfmblpaa
namespace Go.Proofs.Ytjmbbhnpfmblpaa
open Go
set_option maxRecDepth 100000
/-- the first i bits of a byte. -/
def bitsF (r : UInt8) (i : Nat) : List Bool := (List.range 8).map fun j => decide (j < i ∧ r.toNat / 2 ^ j % 2 = 1)
theorem bitsF_len (r : UInt8) (i : Nat) : (bitsF r i).length = 8 := by simp [bitsF]
theorem bitsF_zero (r : UInt8) : bitsF r 0 = List.replicate 8 false := by
  apply List.ext_getElem
  · simp [bitsF]
  · intro j h1 h2; simp only [bitsF, List.getElem_map, List.getElem_range, List.getElem_replicate]; simp
theorem bitsF_succ (r : UInt8) (i : Nat) : (bitsF r i).set i (decide (((r.toNat / 2 ^ i : Nat) : Int) % 2 = 1)) = bitsF r (i + 1) := by
  apply List.ext_getElem
  · simp [bitsF]
  · intro j h1 h2
    simp only [bitsF, List.getElem_set, List.getElem_map, List.getElem_range]
    by_cases hji : i = j
    · subst hji
      rw [if_pos rfl, decide_eq_decide]
      omega
    · rw [if_neg hji, decide_eq_decide]
      constructor <;> intro h <;> exact ⟨by omega, h.2⟩
theorem bits13_ret (w0 : World) (r : UInt8) :
    Ret Try.prog 143 [V8 r] w0 fun v w' => v = .agg ((bitsF r 8).map Value.bool).toArray ∧ Hp w0 w' [] [] := by
  refine ret_mk Try.func143 rfl Try.ntmps143 (by simp) ?_
  have H := Hp.refl w0 []
  repeat refine c_seq ?_
  refine c_region ?_
  refine l_op (o_alloc H zc158 (fun b1 w H hb1 => ?_))
  replace H : Hp _ w _ ([.blk b1 ((List.replicate 8 false).map Value.bool) 158]) := H
  first | refine l_end ?_ | refine l_nil ?_
  repeat refine c_seq ?_
  refine c_region ?_
  refine l_op (o_alloc H zc158 (fun b2 w H hb2 => ?_))
  replace H : Hp _ w _ ([_, .blk b2 ((List.replicate 8 false).map Value.bool) 158]) := H
  first | refine l_end ?_ | refine l_nil ?_
  repeat refine c_seq ?_
  refine c_region ?_
  refine l_op (o_val (r_mv) ?_)
  refine l_op (o_val (r_conv Try.underlying73 Try.underlying3 rfl (w_i64_8 _)) ?_)
  refine l_op (o_val (r_as) ?_)
  first | refine l_end ?_ | refine l_nil ?_
  repeat refine c_seq ?_
  refine c_region ?_
  refine l_op (o_val (r_as) ?_)
  first | refine l_end ?_ | refine l_nil ?_
  repeat refine c_seq ?_
  refine c_block ?_
  repeat refine c_seq ?_
  refine c_loop2 (fun (i : Nat) (k : Nat) => [(2, .pointer (some ⟨b1, 0, none⟩)), (3, .pointer (some ⟨b2, 0, none⟩)), (4, VI (k : Int)), (5, VI (i : Int))])
    (fun (i : Nat) (k : Nat) w => (i ≤ 8 ∧ k < 256 ∧ k = r.toNat / 2 ^ i) ∧ Hp w0 w [] ([.blk b1 ((List.replicate 8 false).map Value.bool) 158, .blk b2 ((bitsF r i).map Value.bool) 158]))
    (fun (i : Nat) (k : Nat) => 8 - i) 0 r.toNat ⟨rfl, rfl, rfl, rfl, trivial⟩ ⟨⟨by omega, u8_lt r, by simp⟩, (by rw [bitsF_zero]; exact H)⟩ ?_
  clear H
  rintro i k τ w ⟨⟨hi, hk2, hk⟩, H⟩
  repeat refine c_seq ?_
  refine c_region ?_
  refine l_op (o_val (r_mv) ?_)
  refine l_op (o_val (r_bin (a := (i : Int)) (b := 8) rfl rfl (fun _ => b_lss)) ?_)
  first | refine l_end ?_ | refine l_nil ?_
  by_cases hc3 : (i : Int) < 8
  ·
   repeat refine c_seq ?_
   refine c_yes (by exact congrArg Value.bool (decide_eq_true hc3)) ?_
   refine c_skip ?_
   repeat refine c_seq ?_
   refine c_block ?_
   repeat refine c_seq ?_
   refine c_region ?_
   refine l_op (o_val (r_mv) ?_)
   refine l_op (o_val (r_mv) ?_)
   refine l_op (o_val (r_bin (a := (k : Int)) (b := 2) rfl rfl (fun _ => b_rem (by omega) (by omega))) ?_)
   refine l_op (o_val (r_bin (a := (k : Int) % 2) (b := 1) rfl rfl (fun _ => b_eql)) ?_)
   refine l_op (o_val (r_iaN i rfl rfl ar158 (by omega) (by omega)) ?_)
   refine l_op (o_stBB (u := decide ((k : Int) % 2 = 1)) (k := i) H (i := 1) rfl rfl rfl cs4 (by rw [(show (bitsF r i).length = 8 from bitsF_len _ _)]; omega) (fun w H => ?_))
   rw [show (bitsF r i).set i (decide ((k : Int) % 2 = 1)) = bitsF r (i + 1) from (by rw [hk]; exact bitsF_succ r i)] at H
   replace H : Hp _ w _ ([_, .blk b2 ((bitsF r (i + 1)).map Value.bool) 158]) := H
   first | refine l_end ?_ | refine l_nil ?_
   repeat refine c_seq ?_
   refine c_region ?_
   refine l_op (o_val (r_mv) ?_)
   refine l_op (o_val (r_bin (a := (k : Int)) (b := 2) rfl rfl (fun _ => b_quo (by omega) (by omega) (by omega))) ?_)
   refine l_op (o_val (r_as) ?_)
   first | refine l_end ?_ | refine l_nil ?_
   repeat refine c_seq ?_
   refine c_region ?_
   refine l_op (o_val (r_mv) ?_)
   refine l_op (o_val (r_bin (a := (i : Int)) (b := 1) rfl rfl (fun _ => b_add (by omega) (by omega))) ?_)
   refine l_op (o_val (r_as) ?_)
   first | refine l_end ?_ | refine l_nil ?_
   refine round_end (i + 1, k / 2) ?_ ?_ ?_
   · exact ⟨rfl, rfl, show VI ((k : Int) / 2) = VI ((k / 2 : Nat) : Int) from congrArg VI (by omega), show VI ((i : Int) + 1) = VI ((i + 1 : Nat) : Int) from congrArg VI (by omega), trivial⟩
   · refine ⟨?_, ?_⟩
     · try dsimp only
       exact ⟨by omega, by omega, by rw [hk, Nat.pow_succ, ← Nat.div_div_eq_div_mul]⟩
     · exact H
   · show 8 - (i + 1 : Nat) < 8 - i; omega
  ·
   repeat refine c_seq ?_
   refine c_no (by exact congrArg Value.bool (decide_eq_false hc3)) ?_
   refine c_exit ?_
   repeat refine c_seq ?_
   refine c_region ?_
   refine l_op (o_val (r_ldBA (l := bitsF r i) H (i := 1) rfl rfl rt158 (show (bitsF r i).length = 8 from bitsF_len _ _)) ?_)
   refine l_op (o_stBA (l' := bitsF r i) H (i := 0) rfl rfl rfl cs158 (show (List.replicate 8 false).length = 8 from (List.length_replicate ..)) (show (bitsF r i).length = 8 from bitsF_len _ _) (fun w H => ?_))
   replace H : Hp _ w _ ([.blk b1 ((bitsF r i).map Value.bool) 158, _]) := H
   first | refine l_end ?_ | refine l_nil ?_
   refine c_ret ?_
   try dsimp only [Exit.then, Exit.inBlock]
   refine e_retc Try.results143 H (i := 0) rfl rfl rt158 (by rw [List.length_map, (show (bitsF r i).length = 8 from bitsF_len _ _)]) ?_
   refine ⟨_, rfl, ?_⟩
   have hi2 : i = 8 := by omega
   subst hi2
   exact ⟨rfl, H.sub (List.nil_sublist _)⟩
def ofF (l : List Bool) : Nat → Nat
  | 0 => 0
  | i + 1 => ofF l i + if l.getD i false = true then 2 ^ i else 0
theorem ofF_lt (l : List Bool) : ∀ i, ofF l i < 2 ^ i := by
  intro i
  induction i with
  | zero => simp [ofF]
  | succ i ih => simp only [ofF, Nat.pow_succ]; split <;> omega
def andF (r s : UInt8) (i : Nat) : List Bool := (List.range 8).map fun j => decide (r.toNat / 2 ^ j % 2 = 1) && (decide (i ≤ j) || decide (s.toNat / 2 ^ j % 2 = 1))
theorem andF_len (r s : UInt8) (i : Nat) : (andF r s i).length = 8 := by simp [andF]
theorem andF_zero (r s : UInt8) : andF r s 0 = bitsF r 8 := by
  apply List.ext_getElem
  · simp [andF, bitsF]
  · intro j h1 h2
    have : j < 8 := by simpa [andF] using h1
    simp only [andF, bitsF, List.getElem_map, List.getElem_range]; simp [this]
theorem bitsF_get (s : UInt8) (i : Nat) (h : i < 8) : (bitsF s 8).getD i false = decide (s.toNat / 2 ^ i % 2 = 1) := by
  rw [List.getD_eq_getElem?_getD, List.getElem?_eq_getElem (by rw [bitsF_len]; exact h), Option.getD_some]
  simp only [bitsF, List.getElem_map, List.getElem_range]; simp [h]
theorem andF_get (r s : UInt8) (i j : Nat) (h : j < 8) : (andF r s i).getD j false = (decide (r.toNat / 2 ^ j % 2 = 1) && (decide (i ≤ j) || decide (s.toNat / 2 ^ j % 2 = 1))) := by
  rw [List.getD_eq_getElem?_getD, List.getElem?_eq_getElem (by rw [andF_len]; exact h), Option.getD_some]
  simp only [andF, List.getElem_map, List.getElem_range]
theorem andF_succ (r s : UInt8) (i : Nat) (u : Bool) (h : i < 8) (hu : u = (decide (r.toNat / 2 ^ i % 2 = 1) && decide (s.toNat / 2 ^ i % 2 = 1))) : (andF r s i).set i u = andF r s (i + 1) := by
  apply List.ext_getElem
  · simp [andF]
  · intro j h1 h2
    simp only [andF, List.getElem_set, List.getElem_map, List.getElem_range]
    by_cases hji : i = j
    · subst hji
      rw [if_pos rfl, hu, decide_eq_false (by omega : ¬ (i + 1 ≤ i)), Bool.false_or]
    · rw [if_neg hji, show decide (i ≤ j) = decide (i + 1 ≤ j) from decide_eq_decide.2 (by omega)]
theorem andF_t (r s : UInt8) (i : Nat) (h : i < 8) (ht : (andF r s i).getD i false = true) : (andF r s i).set i ((bitsF s 8).getD i false) = andF r s (i + 1) := by
  apply andF_succ _ _ _ _ h
  rw [andF_get _ _ _ _ h] at ht
  rw [bitsF_get _ _ h, (Bool.and_eq_true_iff.1 ht).1, Bool.true_and]
theorem andF_f (r s : UInt8) (i : Nat) (h : i < 8) (ht : (andF r s i).getD i false = false) : (andF r s i).set i false = andF r s (i + 1) := by
  apply andF_succ _ _ _ _ h
  rw [andF_get _ _ _ _ h, decide_eq_true (Nat.le_refl i), Bool.true_or, Bool.and_true] at ht
  rw [ht, Bool.false_and]
theorem ofF_and (r s : UInt8) : ∀ i, i ≤ 8 → ofF (andF r s 8) i = (r.toNat &&& s.toNat) % 2 ^ i := by
  intro i
  induction i with
  | zero => intro _; simp [ofF, Nat.mod_one]
  | succ i ih =>
    intro h
    rw [ofF, ih (by omega), Nat.mod_pow_succ, andF_get _ _ _ _ (by omega), decide_eq_false (by omega : ¬ (8 ≤ i)), Bool.false_or]
    congr 1
    have e : (r.toNat &&& s.toNat).testBit i = (r.toNat.testBit i && s.toNat.testBit i) := Nat.testBit_and ..
    simp only [Nat.testBit_eq_decide_div_mod_eq] at e
    rw [← e]
    simp only [decide_eq_true_eq]
    split
    · rename_i h1; rw [h1, Nat.mul_one]
    · rename_i h1; rw [show (r.toNat &&& s.toNat) / 2 ^ i % 2 = 0 by omega, Nat.mul_zero]
theorem of_meet (r s : UInt8) : UInt8.ofNat (ofF (andF r s 8) 8) = r &&& s := by
  have h2 : r.toNat &&& s.toNat ≤ r.toNat := Nat.and_le_left
  have := u8_lt r
  apply UInt8.toNat_inj.1
  rw [ofF_and r s 8 (by omega), UInt8.toNat_ofNat', UInt8.toNat_and]
  omega
theorem of13_ret (w0 : World) (l : List Bool) (hl : l.length = 8) :
    Ret Try.prog 144 [.agg ((l).map Value.bool).toArray] w0 fun v w' => v = V8 (UInt8.ofNat (ofF l 8)) ∧ Hp w0 w' [] [] := by
  refine ret_mk Try.func144 rfl Try.ntmps144 (by simp) ?_
  have H := Hp.refl w0 []
  repeat refine c_seq ?_
  refine c_region ?_
  refine l_op (o_box (v := .agg ((l).map Value.bool).toArray) H rfl (fun b1 w H hb1 => ?_))
  replace H : Hp _ w _ ([.blk b1 ((l).map Value.bool) 158]) := H
  refine l_op (o_val (r_asV (c8 0 (by decide))) ?_)
  first | refine l_end ?_ | refine l_nil ?_
  repeat refine c_seq ?_
  refine c_region ?_
  refine l_op (o_val (r_as) ?_)
  refine l_op (o_val (r_as) ?_)
  first | refine l_end ?_ | refine l_nil ?_
  repeat refine c_seq ?_
  refine c_region ?_
  refine l_op (o_val (r_as) ?_)
  first | refine l_end ?_ | refine l_nil ?_
  repeat refine c_seq ?_
  refine c_block ?_
  repeat refine c_seq ?_
  refine c_loop3 (fun (i : Nat) (k : Nat) (p : Nat) => [(1, .pointer (some ⟨b1, 0, none⟩)), (3, VI (k : Int)), (4, VI (p : Int)), (5, VI (i : Int))])
    (fun (i : Nat) (k : Nat) (p : Nat) w => (i ≤ 8 ∧ p = 2 ^ i ∧ k = ofF l i) ∧ Hp w0 w [] ([.blk b1 ((l).map Value.bool) 158]))
    (fun (i : Nat) (k : Nat) (p : Nat) => 8 - i) 0 0 1 ⟨rfl, rfl, rfl, rfl, trivial⟩ ⟨⟨by omega, rfl, rfl⟩, H⟩ ?_
  clear H
  rintro i k p τ w ⟨⟨hi, hp, hk⟩, H⟩
  have hkl := ofF_lt l i
  have hpl : 2 ^ i ≤ 2 ^ 8 := Nat.pow_le_pow_right (by omega) hi
  rw [← hk, ← hp] at hkl
  rw [← hp] at hpl
  repeat refine c_seq ?_
  refine c_region ?_
  refine l_op (o_val (r_mv) ?_)
  refine l_op (o_val (r_bin (a := (i : Int)) (b := 8) rfl rfl (fun _ => b_lss)) ?_)
  first | refine l_end ?_ | refine l_nil ?_
  by_cases hc2 : (i : Int) < 8
  ·
   repeat refine c_seq ?_
   refine c_yes (by exact congrArg Value.bool (decide_eq_true hc2)) ?_
   refine c_skip ?_
   repeat refine c_seq ?_
   refine c_block ?_
   repeat refine c_seq ?_
   refine c_region ?_
   refine l_op (o_val (r_mv) ?_)
   refine l_op (o_val (r_iaN i rfl rfl ar158 (by omega) (by omega)) ?_)
   refine l_op (o_val (r_ldBB (k := i) (l := l) H (i := 0) rfl rfl ct4 (by rw [(show (l).length = 8 from hl)]; omega)) ?_)
   first | refine l_end ?_ | refine l_nil ?_
   rcases Bool.eq_false_or_eq_true ((l).getD i false) with hc3 | hc3
   ·
    repeat refine c_seq ?_
    refine c_yes (by exact congrArg Value.bool hc3) ?_
    repeat refine c_seq ?_
    refine c_region ?_
    refine l_op (o_val (r_mv) ?_)
    refine l_op (o_val (r_mv) ?_)
    refine l_op (o_val (r_bin (a := (k : Int)) (b := (p : Int)) rfl rfl (fun _ => b_add (by omega) (by omega))) ?_)
    refine l_op (o_val (r_as) ?_)
    first | refine l_end ?_ | refine l_nil ?_
    repeat refine c_seq ?_
    refine c_region ?_
    refine l_op (o_val (r_mv) ?_)
    refine l_op (o_val (r_bin (a := (p : Int)) (b := 2) rfl rfl (fun _ => b_mul (by omega) (by omega))) ?_)
    refine l_op (o_val (r_as) ?_)
    first | refine l_end ?_ | refine l_nil ?_
    repeat refine c_seq ?_
    refine c_region ?_
    refine l_op (o_val (r_mv) ?_)
    refine l_op (o_val (r_bin (a := (i : Int)) (b := 1) rfl rfl (fun _ => b_add (by omega) (by omega))) ?_)
    refine l_op (o_val (r_as) ?_)
    first | refine l_end ?_ | refine l_nil ?_
    refine round_end (i + 1, k + p, p * 2) ?_ ?_ ?_
    · exact ⟨rfl, show VI ((k : Int) + (p : Int)) = VI ((k + p : Nat) : Int) from congrArg VI (by omega), show VI ((p : Int) * 2) = VI ((p * 2 : Nat) : Int) from congrArg VI (by omega), show VI ((i : Int) + 1) = VI ((i + 1 : Nat) : Int) from congrArg VI (by omega), trivial⟩
    · refine ⟨?_, ?_⟩
      · try dsimp only
        exact ⟨by omega, by rw [Nat.pow_succ, hp], by rw [ofF, ← hk]; rw [if_pos hc3]; omega⟩
      · exact H
    · show 8 - (i + 1 : Nat) < 8 - i; omega
   ·
    repeat refine c_seq ?_
    refine c_no (by exact congrArg Value.bool hc3) ?_
    refine c_skip ?_
    repeat refine c_seq ?_
    refine c_region ?_
    refine l_op (o_val (r_mv) ?_)
    refine l_op (o_val (r_bin (a := (p : Int)) (b := 2) rfl rfl (fun _ => b_mul (by omega) (by omega))) ?_)
    refine l_op (o_val (r_as) ?_)
    first | refine l_end ?_ | refine l_nil ?_
    repeat refine c_seq ?_
    refine c_region ?_
    refine l_op (o_val (r_mv) ?_)
    refine l_op (o_val (r_bin (a := (i : Int)) (b := 1) rfl rfl (fun _ => b_add (by omega) (by omega))) ?_)
    refine l_op (o_val (r_as) ?_)
    first | refine l_end ?_ | refine l_nil ?_
    refine round_end (i + 1, k, p * 2) ?_ ?_ ?_
    · exact ⟨rfl, show VI (k : Int) = VI ((k : Nat) : Int) from congrArg VI (by omega), show VI ((p : Int) * 2) = VI ((p * 2 : Nat) : Int) from congrArg VI (by omega), show VI ((i : Int) + 1) = VI ((i + 1 : Nat) : Int) from congrArg VI (by omega), trivial⟩
    · refine ⟨?_, ?_⟩
      · try dsimp only
        exact ⟨by omega, by rw [Nat.pow_succ, hp], by rw [ofF, ← hk]; rw [if_neg (by rw [hc3]; decide)]; rfl⟩
      · exact H
    · show 8 - (i + 1 : Nat) < 8 - i; omega
  ·
   repeat refine c_seq ?_
   refine c_no (by exact congrArg Value.bool (decide_eq_false hc2)) ?_
   refine c_exit ?_
   repeat refine c_seq ?_
   refine c_region ?_
   refine l_op (o_val (r_mv) ?_)
   refine l_op (o_val (r_conv (v := ((UInt8.ofNat k).toNat : Int)) Try.underlying3 Try.underlying73 rfl (w_u8_N k (by omega))) ?_)
   refine l_op (o_val (r_as) ?_)
   first | refine l_end ?_ | refine l_nil ?_
   refine c_ret ?_
   try dsimp only [Exit.then, Exit.inBlock]
   refine e_ret1 (v := V8 (UInt8.ofNat k)) Try.results144 rfl ?_
   refine ⟨_, rfl, ?_⟩
   have hi2 : i = 8 := by omega
   subst hi2
   rw [← hk]
   exact ⟨rfl, H.sub (List.nil_sublist _)⟩
theorem meet13_ret (w0 : World) (r s : UInt8) :
    Ret Try.prog 122 [V8 r, V8 s] w0 fun v w' => v = V8 (r &&& s) ∧ Hp w0 w' [] [] := by
  refine ret_mk Try.func122 rfl Try.ntmps122 (by simp) ?_
  have H := Hp.refl w0 []
  repeat refine c_seq ?_
  refine c_region ?_
  refine l_op (o_val (r_asV (c8 0 (by decide))) ?_)
  first | refine l_end ?_ | refine l_nil ?_
  repeat refine c_seq ?_
  refine c_region ?_
  refine l_op (o_val (r_mv) ?_)
  refine l_op (o_callR Try.func143 rfl rfl rfl (bits13_ret _ (r)) ?_)
  rintro _ w ⟨rfl, Hc⟩
  replace H : Hp _ w _ ([]) := H.call Hc
  clear Hc
  refine l_op (o_val (r_mv) ?_)
  refine l_op (o_callR Try.func143 rfl rfl rfl (bits13_ret _ (s)) ?_)
  rintro _ w ⟨rfl, Hc⟩
  replace H : Hp _ w _ ([]) := H.call Hc
  clear Hc
  refine l_op (o_alloc H zc158 (fun b1 w H hb1 => ?_))
  replace H : Hp _ w _ ([.blk b1 ((List.replicate 8 false).map Value.bool) 158]) := H
  refine l_op (o_alloc H zc158 (fun b2 w H hb2 => ?_))
  replace H : Hp _ w _ ([_, .blk b2 ((List.replicate 8 false).map Value.bool) 158]) := H
  refine l_op (o_stBA (l' := bitsF (r) 8) H (i := 0) rfl rfl rfl cs158 (show (List.replicate 8 false).length = 8 from (List.length_replicate ..)) (show (bitsF (r) 8).length = 8 from bitsF_len _ _) (fun w H => ?_))
  replace H : Hp _ w _ ([.blk b1 ((bitsF (r) 8).map Value.bool) 158, _]) := H
  refine l_op (o_stBA (l' := bitsF (s) 8) H (i := 1) rfl rfl rfl cs158 (show (List.replicate 8 false).length = 8 from (List.length_replicate ..)) (show (bitsF (s) 8).length = 8 from bitsF_len _ _) (fun w H => ?_))
  replace H : Hp _ w _ ([_, .blk b2 ((bitsF (s) 8).map Value.bool) 158]) := H
  first | refine l_end ?_ | refine l_nil ?_
  repeat refine c_seq ?_
  refine c_region ?_
  refine l_op (o_val (r_as) ?_)
  first | refine l_end ?_ | refine l_nil ?_
  repeat refine c_seq ?_
  refine c_block ?_
  repeat refine c_seq ?_
  refine c_loop (fun (i : Nat) => [(5, .pointer (some ⟨b1, 0, none⟩)), (6, .pointer (some ⟨b2, 0, none⟩)), (7, VI (i : Int))])
    (fun (i : Nat) w => (i ≤ 8) ∧ Hp w0 w [] ([.blk b1 ((andF r s i).map Value.bool) 158, .blk b2 ((bitsF (s) 8).map Value.bool) 158]))
    (fun (i : Nat) => 8 - i) 0 ⟨rfl, rfl, rfl, trivial⟩ ⟨by omega, (by rw [andF_zero]; exact H)⟩ ?_
  clear H
  rintro i τ w ⟨hi, H⟩
  repeat refine c_seq ?_
  refine c_region ?_
  refine l_op (o_val (r_mv) ?_)
  refine l_op (o_val (r_bin (a := (i : Int)) (b := 8) rfl rfl (fun _ => b_lss)) ?_)
  first | refine l_end ?_ | refine l_nil ?_
  by_cases hc3 : (i : Int) < 8
  ·
   repeat refine c_seq ?_
   refine c_yes (by exact congrArg Value.bool (decide_eq_true hc3)) ?_
   refine c_skip ?_
   repeat refine c_seq ?_
   refine c_block ?_
   repeat refine c_seq ?_
   refine c_region ?_
   refine l_op (o_val (r_mv) ?_)
   refine l_op (o_val (r_mv) ?_)
   refine l_op (o_val (r_iaN i rfl rfl ar158 (by omega) (by omega)) ?_)
   refine l_op (o_val (r_ldBB (k := i) (l := andF r s i) H (i := 0) rfl rfl ct4 (by rw [(show (andF r s i).length = 8 from andF_len _ _ _)]; omega)) ?_)
   refine l_op (o_val (r_mv) ?_)
   rcases Bool.eq_false_or_eq_true ((andF r s i).getD i false) with hc4 | hc4
   ·
    refine l_yes rfl rfl (by exact congrArg Value.bool hc4) (o_val (r_mv) ?_)
    refine l_yes rfl rfl (by exact congrArg Value.bool hc4) (o_val (r_iaN i rfl rfl ar158 (by omega) (by omega)) ?_)
    refine l_yes rfl rfl (by exact congrArg Value.bool hc4) (o_val (r_ldBB (k := i) (l := bitsF (s) 8) H (i := 1) rfl rfl ct4 (by rw [(show (bitsF (s) 8).length = 8 from bitsF_len _ _)]; omega)) ?_)
    refine l_op (o_val (r_pick (b := true) (congrArg Value.bool hc4)) ?_)
    refine l_op (o_val (r_iaN i rfl rfl ar158 (by omega) (by omega)) ?_)
    refine l_op (o_stBB (u := (bitsF (s) 8).getD i false) (k := i) H (i := 0) rfl rfl rfl cs4 (by rw [(show (andF r s i).length = 8 from andF_len _ _ _)]; omega) (fun w H => ?_))
    rw [show (andF r s i).set i ((bitsF (s) 8).getD i false) = andF r s (i + 1) from andF_t r s i (by omega) hc4] at H
    replace H : Hp _ w _ ([.blk b1 ((andF r s (i + 1)).map Value.bool) 158, _]) := H
    first | refine l_end ?_ | refine l_nil ?_
    repeat refine c_seq ?_
    refine c_region ?_
    refine l_op (o_val (r_mv) ?_)
    refine l_op (o_val (r_bin (a := (i : Int)) (b := 1) rfl rfl (fun _ => b_add (by omega) (by omega))) ?_)
    refine l_op (o_val (r_as) ?_)
    first | refine l_end ?_ | refine l_nil ?_
    refine round_end (i + 1) ?_ ?_ ?_
    · exact ⟨rfl, rfl, show VI ((i : Int) + 1) = VI ((i + 1 : Nat) : Int) from congrArg VI (by omega), trivial⟩
    · refine ⟨?_, ?_⟩
      · try dsimp only
        exact by omega
      · exact H
    · show 8 - (i + 1 : Nat) < 8 - i; omega
   ·
    refine l_no rfl rfl (by exact congrArg Value.bool hc4) rfl ?_
    refine l_no rfl rfl (by exact congrArg Value.bool hc4) rfl ?_
    refine l_no rfl rfl (by exact congrArg Value.bool hc4) rfl ?_
    refine l_op (o_val (r_pick (b := false) (congrArg Value.bool hc4)) ?_)
    refine l_op (o_val (r_iaN i rfl rfl ar158 (by omega) (by omega)) ?_)
    refine l_op (o_stBB (u := false) (k := i) H (i := 0) rfl rfl rfl cs4 (by rw [(show (andF r s i).length = 8 from andF_len _ _ _)]; omega) (fun w H => ?_))
    rw [show (andF r s i).set i (false) = andF r s (i + 1) from andF_f r s i (by omega) hc4] at H
    replace H : Hp _ w _ ([.blk b1 ((andF r s (i + 1)).map Value.bool) 158, _]) := H
    first | refine l_end ?_ | refine l_nil ?_
    repeat refine c_seq ?_
    refine c_region ?_
    refine l_op (o_val (r_mv) ?_)
    refine l_op (o_val (r_bin (a := (i : Int)) (b := 1) rfl rfl (fun _ => b_add (by omega) (by omega))) ?_)
    refine l_op (o_val (r_as) ?_)
    first | refine l_end ?_ | refine l_nil ?_
    refine round_end (i + 1) ?_ ?_ ?_
    · exact ⟨rfl, rfl, show VI ((i : Int) + 1) = VI ((i + 1 : Nat) : Int) from congrArg VI (by omega), trivial⟩
    · refine ⟨?_, ?_⟩
      · try dsimp only
        exact by omega
      · exact H
    · show 8 - (i + 1 : Nat) < 8 - i; omega
  ·
   repeat refine c_seq ?_
   refine c_no (by exact congrArg Value.bool (decide_eq_false hc3)) ?_
   refine c_exit ?_
   repeat refine c_seq ?_
   refine c_region ?_
   refine l_op (o_val (r_ldBA (l := andF r s i) H (i := 0) rfl rfl rt158 (show (andF r s i).length = 8 from andF_len _ _ _)) ?_)
   refine l_op (o_callR Try.func144 rfl rfl rfl (of13_ret _ (andF r s i) (show (andF r s i).length = 8 from andF_len _ _ _)) ?_)
   rintro _ w ⟨rfl, Hc⟩
   replace H : Hp _ w _ ([_, _]) := H.call Hc
   clear Hc
   refine l_op (o_val (r_as) ?_)
   first | refine l_end ?_ | refine l_nil ?_
   refine c_ret ?_
   try dsimp only [Exit.then, Exit.inBlock]
   refine e_ret1 (v := V8 (UInt8.ofNat (ofF (andF r s i) 8))) Try.results122 rfl ?_
   refine ⟨_, rfl, ?_⟩
   have hi2 : i = 8 := by omega
   subst hi2
   rw [of_meet]
   exact ⟨rfl, H.sub (List.nil_sublist _)⟩
end Go.Proofs.Ytjmbbhnpfmblpaa
