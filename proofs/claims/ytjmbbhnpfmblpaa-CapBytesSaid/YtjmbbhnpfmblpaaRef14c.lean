import Derived.Test.YtjmbbhnpfmblpaaRef14b
/- the document's tokens: Bytes. -/
namespace Go.Proofs.Ytjmbbhnpfmblpaa
open Go
set_option maxRecDepth 100000
theorem bytes14_ok (w0 : World) (t : Tok) (hc : t.cs.ok cavE 2 w0) (htag : t.tag.length = 32) (hn : t.tenant.length ≤ 65536) (hb : t.bd) (hm : mayT t = true) :
    Ret Try.prog 82 [.agg ([V64 t.serial, .string ⟨(t.tenant).toArray⟩, V8 t.rights, VI t.from_, VI t.until_, t.cs.v] ++ (t.tag).map V8).toArray] w0 fun v w' => ∃ a n k, v = .tuple #[.slice (hd a) n k, VI 0] ∧ n ≤ t.tenant.length + 200 ∧ Hp w0 w' [] [.own a n k (t.bytes.map V8) 5 1] := by
  refine ret_mk Try.func82 rfl Try.ntmps82 (by simp) ?_
  have H := Hp.refl w0 []
  have hcl := hc.ln
  have hxl := hc.le
  have hxm := hc.mx
  have hmL : maxLen = 9223372036854775807 := rfl
  have h8 := ((mayT_iff t).1 hm).2.2.1
  repeat refine c_seq ?_
  refine c_region ?_
  refine l_op (o_box (v := .agg ([V64 t.serial, .string ⟨(t.tenant).toArray⟩, V8 t.rights, VI t.from_, VI t.until_, t.cs.v] ++ (t.tag).map V8).toArray) H rfl (fun b1 w H hb1 => ?_))
  replace H : Hp w0 w [] ([.blk b1 ([V64 t.serial, .string ⟨(t.tenant).toArray⟩, V8 t.rights, VI t.from_, VI t.until_, t.cs.v] ++ (t.tag).map V8) 76]) := H
  refine l_op (o_val (r_as) ?_)
  refine l_op (o_val (r_as) ?_)
  first | refine l_end ?_ | refine l_nil ?_
  repeat refine c_seq ?_
  refine c_region ?_
  refine l_op (o_val (r_ldA (C := [V64 t.serial, .string ⟨(t.tenant).toArray⟩, V8 t.rights, VI t.from_, VI t.until_, t.cs.v] ++ (t.tag).map V8) H (i := 0) rfl rfl rt76 (by rw [List.length_append, List.length_map, (show (t.tag).length = 32 from htag)]; rfl)) ?_)
  refine l_op (o_callR Try.func76 rfl rfl rfl (may14_ret _ t (hc.up H) (show (t.tag).length = 32 from htag) (by first | omega | (dsimp only; omega) | simp)) ?_)
  rintro _ w ⟨rfl, Hc⟩
  replace H : Hp w0 w [] ([.blk b1 ([V64 t.serial, .string ⟨(t.tenant).toArray⟩, V8 t.rights, VI t.from_, VI t.until_, t.cs.v] ++ (t.tag).map V8) 76]) := H.call Hc
  clear Hc
  have hk2 : (mayT t) = true := hm
  refine l_op (o_val (r_not rfl) ?_)
  first | refine l_end ?_ | refine l_nil ?_
  repeat refine c_seq ?_
  refine c_no (by exact congrArg Value.bool (congrArg not hk2)) ?_
  refine c_skip ?_
  repeat refine c_seq ?_
  refine wp_held (fun w => Hp w0 w [] [.blk b1 ([V64 t.serial, .string ⟨(t.tenant).toArray⟩, V8 t.rights, VI t.from_, VI t.until_, t.cs.v] ++ (t.tag).map V8) 76]) mixed ?_
  replace H := H.drew
  have HS := H
  refine t_take 1 rfl (by kernel_rfl) (by kernel_rfl) (by kernel_rfl) (fun _ _ _ h => h) (fun w HS => r_ldA (C := [V64 t.serial, .string ⟨(t.tenant).toArray⟩, V8 t.rights, VI t.from_, VI t.until_, t.cs.v] ++ (t.tag).map V8) HS (i := 0) rfl rfl rt76 (by rw [List.length_append, List.length_map, (show (t.tag).length = 32 from htag)]; rfl)) HS ?_
  refine t_take 4 rfl (by kernel_rfl) (by kernel_rfl) (by kernel_rfl) (fun _ _ _ h => h) (fun w HS => r_fa rfl fo76_5) HS ?_
  refine t_take 5 rfl (by kernel_rfl) (by kernel_rfl) (by kernel_rfl) (fun _ _ _ h => h) (fun w HS => r_ld (v := t.cs.v) HS (i := 0) rfl rfl ct74 rfl) HS ?_
  refine t_take 6 rfl (by kernel_rfl) (by kernel_rfl) (by kernel_rfl) (fun _ _ _ h => h) (fun w HS => r_lens el74 rfl) HS ?_
  refine t_take 7 rfl (by kernel_rfl) (by kernel_rfl) (by kernel_rfl) (fun _ _ _ h => h) (fun w HS => r_conv (v := ((UInt8.ofNat t.cs.len).toNat : Int)) Try.underlying3 Try.underlying5 rfl (w_u8_N t.cs.len (by omega))) HS ?_
  refine t_all [0, 2, 8] (by kernel_rfl) (by simp) (all_cons (w_op 0 rfl ?_) (all_cons (w_op 2 rfl ?_) (all_cons (w_op 8 rfl ?_) (all_nil))))
  · skip
    refine (o_bslB ([(1 : UInt8)]) H sl29 zc5 rfl rfl (by decide) (fun b3 w H hb3 => ?_))
    replace H : Hp w0 w [] ([.blk b1 ([V64 t.serial, .string ⟨(t.tenant).toArray⟩, V8 t.rights, VI t.from_, VI t.until_, t.cs.v] ++ (t.tag).map V8) 76, .own (some b3) 1 1 (([(1 : UInt8)]).map V8) 5 1]) := H
    refine ⟨H.sub (.cons_cons _ (List.nil_sublist _)), ?_⟩
    replace HS := H.sub (.cons_cons _ (List.nil_sublist _))
    refine t_all [2, 8] (by kernel_rfl) (by simp) (all_cons (w_op 2 rfl ?_) (all_cons (w_op 8 rfl ?_) (all_nil)))
    · skip
      refine (o_callR Try.func126 rfl rfl rfl (head14_ret _ t (hc.up H) (show (t.tag).length = 32 from htag) (by first | omega | (dsimp only; omega) | simp) hb) ?_)
      rintro _ w ⟨a4, n5, c6, rfl, hn7, hh8, Hc⟩
      replace H : Hp w0 w [] ([.blk b1 ([V64 t.serial, .string ⟨(t.tenant).toArray⟩, V8 t.rights, VI t.from_, VI t.until_, t.cs.v] ++ (t.tag).map V8) 76, .own (some b3) 1 1 (([(1 : UInt8)]).map V8) 5 1, .own a4 n5 c6 ((t.head).map V8) 5 1]) := H.call Hc
      clear Hc
      try dsimp only at hn7
      refine ⟨H.sub (.cons_cons _ (List.nil_sublist _)), ?_⟩
      replace HS := H.sub (.cons_cons _ (List.nil_sublist _))
      refine t_all [3, 8] (by kernel_rfl) (by simp) (all_cons (w_op 3 rfl ?_) (all_cons (w_op 8 rfl ?_) (all_nil)))
      · skip
        refine (o_appB (s := ⟨hd a4, n5, c6, t.head⟩) (l' := [(1 : UInt8)] ++ t.head) (len' := 1 + n5) rfl rfl H (i := 1) rfl sl29 Try.underlying29 rfl rfl (H.slOwn (i := 2) rfl) (by omega) (fun a9 c10 w H => ?_))
        replace H : Hp w0 w [] ([.blk b1 ([V64 t.serial, .string ⟨(t.tenant).toArray⟩, V8 t.rights, VI t.from_, VI t.until_, t.cs.v] ++ (t.tag).map V8) 76, .own a9 (1 + n5) c10 (([(1 : UInt8)] ++ t.head).map V8) 5 1, .own a4 n5 c6 ((t.head).map V8) 5 1]) := H
        refine ⟨H.sub (.cons_cons _ (List.nil_sublist _)), ?_⟩
        replace HS := H.sub (.cons_cons _ (List.nil_sublist _))
        refine t_step 8 rfl (by kernel_rfl) (o_bslB ([UInt8.ofNat t.cs.len]) H sl29 zc5 rfl rfl (by decide) (fun b11 w H hb11 => ?_))
        replace H : Hp w0 w [] ([.blk b1 ([V64 t.serial, .string ⟨(t.tenant).toArray⟩, V8 t.rights, VI t.from_, VI t.until_, t.cs.v] ++ (t.tag).map V8) 76, .own a9 (1 + n5) c10 (([(1 : UInt8)] ++ t.head).map V8) 5 1, .own a4 n5 c6 ((t.head).map V8) 5 1, .own (some b11) 1 1 (([UInt8.ofNat t.cs.len]).map V8) 5 1]) := H
        refine ⟨H.sub (.cons_cons _ (List.nil_sublist _)), ?_⟩
        replace HS := H.sub (.cons_cons _ (List.nil_sublist _))
        refine t_step 9 rfl (by kernel_rfl) (o_appB (s := ⟨hd (some b11), 1, 1, [UInt8.ofNat t.cs.len]⟩) (l' := [(1 : UInt8)] ++ t.head ++ ([UInt8.ofNat t.cs.len])) (len' := 1 + n5 + 1) rfl rfl H (i := 1) rfl sl29 Try.underlying29 rfl rfl (H.slOwn (i := 3) rfl) (by omega) (fun a12 c13 w H => ?_))
        replace H : Hp w0 w [] ([.blk b1 ([V64 t.serial, .string ⟨(t.tenant).toArray⟩, V8 t.rights, VI t.from_, VI t.until_, t.cs.v] ++ (t.tag).map V8) 76, .own a12 (1 + n5 + 1) c13 (([(1 : UInt8)] ++ t.head ++ ([UInt8.ofNat t.cs.len])).map V8) 5 1, .own a4 n5 c6 ((t.head).map V8) 5 1, .own (some b11) 1 1 (([UInt8.ofNat t.cs.len]).map V8) 5 1]) := H
        refine ⟨H.sub (.cons_cons _ (List.nil_sublist _)), ?_⟩
        replace HS := H.sub (.cons_cons _ (List.nil_sublist _))
        refine t_take 10 rfl (by kernel_rfl) (by kernel_rfl) (by kernel_rfl) (fun _ _ _ h => h) (fun w HS => r_as) HS ?_
        refine t_done (by kernel_rfl) ?_
        clear HS
        repeat refine c_seq ?_
        refine c_region ?_
        refine l_op (o_val (r_as) ?_)
        first | refine l_end ?_ | refine l_nil ?_
        repeat refine c_seq ?_
        refine c_block ?_
        repeat refine c_seq ?_
        refine c_loop4 (fun (i : Nat) (a : Option Nat) (ln : Nat) (k : Nat) => [(1, .pointer (some ⟨b1, 0, none⟩)), (4, .slice (hd a) ln k), (5, VI (i : Int))])
          (fun (i : Nat) (a : Option Nat) (ln : Nat) (k : Nat) w => (i ≤ t.cs.len ∧ ln ≤ t.tenant.length + 66 + 9 * i) ∧ Hp w0 w [] ([.blk b1 ([V64 t.serial, .string ⟨(t.tenant).toArray⟩, V8 t.rights, VI t.from_, VI t.until_, t.cs.v] ++ (t.tag).map V8) 76, .own a ln k (([1] ++ t.head ++ [UInt8.ofNat t.cs.len] ++ cavsB (t.cs.l.take i)).map V8) 5 1, .own a4 n5 c6 ((t.head).map V8) 5 1, .own (some b11) 1 1 (([UInt8.ofNat t.cs.len]).map V8) 5 1]))
          (fun (i : Nat) (a : Option Nat) (ln : Nat) (k : Nat) => t.cs.len - i) 0 a12 (1 + n5 + 1) c13 ⟨rfl, rfl, rfl, trivial⟩ ⟨⟨Nat.zero_le _, by omega⟩, (by rw [show cavsB (t.cs.l.take 0) = [] from rfl, List.append_nil]; exact H)⟩ ?_
        clear H
        rintro i a ln k τ w ⟨⟨hi, hln⟩, H⟩
        repeat refine c_seq ?_
        refine c_region ?_
        refine l_op (o_val (r_mv) ?_)
        refine l_op (o_val (r_fa rfl fo76_5) ?_)
        refine l_op (o_val (r_ld (v := t.cs.v) H (i := 0) rfl rfl ct74 rfl) ?_)
        refine l_op (o_val (r_lens el74 rfl) ?_)
        refine l_op (o_val (r_bin (a := (i : Int)) (b := (t.cs.len : Int)) rfl rfl (fun _ => b_lss)) ?_)
        first | refine l_end ?_ | refine l_nil ?_
        by_cases hc14 : (i : Int) < (t.cs.len : Int)
        · skip
          repeat refine c_seq ?_
          refine c_yes (by exact congrArg Value.bool (decide_eq_true hc14)) ?_
          refine c_skip ?_
          repeat refine c_seq ?_
          refine c_block ?_
          repeat refine c_seq ?_
          refine c_region ?_
          refine l_op (o_val (r_mv) ?_)
          refine l_op (o_val (r_fa rfl fo76_5) ?_)
          refine l_op (o_val (r_ld (v := t.cs.v) H (i := 0) rfl rfl ct74 rfl) ?_)
          refine l_op (o_val (r_mv) ?_)
          have ah17 := ((hc.up H)).addr (by decide) (by omega)
          obtain ⟨ab15, ao16, ah17⟩ := ah17
          refine l_op (o_val (r_isN i rfl rfl el74 ah17 (by omega) (by (try simp only [Sl.cut]); omega)) ?_)
          have he19 : ∃ c, t.cs.l[i]? = some c := ⟨_, List.getElem?_eq_getElem (by have := ((hc.up H)).ln; omega)⟩
          obtain ⟨e18, he19⟩ := he19
          have hez20 := ((hc.up H)).sz e18 (List.mem_of_getElem? he19)
          refine l_op (o_val (r_ldRow (s := t.cs) (k := i) (hc.up H) ah17 rfl rt78 (by decide) he19) ?_)
          refine l_op (o_callR Try.func120 rfl rfl rfl (caveat14_ret _ e18 (hb.cs _ (List.mem_of_getElem? (by assumption)))) ?_)
          rintro _ w ⟨a21, c22, rfl, Hc⟩
          replace H : Hp w0 w [] ([.blk b1 ([V64 t.serial, .string ⟨(t.tenant).toArray⟩, V8 t.rights, VI t.from_, VI t.until_, t.cs.v] ++ (t.tag).map V8) 76, .own a ln k (([1] ++ t.head ++ [UInt8.ofNat t.cs.len] ++ cavsB (t.cs.l.take i)).map V8) 5 1, .own a4 n5 c6 ((t.head).map V8) 5 1, .own (some b11) 1 1 (([UInt8.ofNat t.cs.len]).map V8) 5 1, .own a21 9 c22 ((cavB e18).map V8) 5 1]) := H.call Hc
          clear Hc
          refine l_op (o_appB (s := ⟨hd a21, 9, c22, cavB e18⟩) (l' := [1] ++ t.head ++ [UInt8.ofNat t.cs.len] ++ cavsB (t.cs.l.take i) ++ (cavB e18)) (len' := ln + 9) rfl rfl H (i := 1) rfl sl29 Try.underlying29 rfl rfl (H.slOwn (i := 4) rfl) (by omega) (fun a23 c24 w H => ?_))
          replace H : Hp w0 w [] ([.blk b1 ([V64 t.serial, .string ⟨(t.tenant).toArray⟩, V8 t.rights, VI t.from_, VI t.until_, t.cs.v] ++ (t.tag).map V8) 76, .own a23 (ln + 9) c24 (([1] ++ t.head ++ [UInt8.ofNat t.cs.len] ++ cavsB (t.cs.l.take i) ++ (cavB e18)).map V8) 5 1, .own a4 n5 c6 ((t.head).map V8) 5 1, .own (some b11) 1 1 (([UInt8.ofNat t.cs.len]).map V8) 5 1, .own a21 9 c22 ((cavB e18).map V8) 5 1]) := H
          refine l_op (o_val (r_as) ?_)
          first | refine l_end ?_ | refine l_nil ?_
          repeat refine c_seq ?_
          refine c_region ?_
          refine l_op (o_val (r_mv) ?_)
          refine l_op (o_val (r_bin (a := (i : Int)) (b := 1) rfl rfl (fun _ => b_add (by omega) (by omega))) ?_)
          refine l_op (o_val (r_as) ?_)
          first | refine l_end ?_ | refine l_nil ?_
          rw [List.append_assoc, cavsB_succ t.cs.l i e18 he19] at H
          refine round_end (i + 1, a23, ln + 9, c24) ?_ ?_ ?_
          · exact ⟨rfl, rfl, show VI ((i : Int) + 1) = VI ((i + 1 : Nat) : Int) from congrArg VI (by omega), trivial⟩
          · refine ⟨?_, ?_⟩
            · try dsimp only
              exact ⟨by omega, by omega⟩
            · exact H.sub (.cons_cons _ (.cons_cons _ (.cons_cons _ (.cons_cons _ (List.nil_sublist _)))))
          · show t.cs.len - (i + 1 : Nat) < t.cs.len - i; omega
        · skip
          repeat refine c_seq ?_
          refine c_no (by exact congrArg Value.bool (decide_eq_false hc14)) ?_
          refine c_exit ?_
          repeat refine c_seq ?_
          refine c_region ?_
          refine l_op (o_val (r_mv) ?_)
          refine l_op (o_val (r_fa rfl fo76_6) ?_)
          refine l_op (o_val (r_slAo (o := 6) (h := 32) (m := 32) (lv := none) (hv := none) (mv := none) rfl ar31 rfl rfl rfl (fun w => sbn w)) ?_)
          refine l_op (o_appB (s := (⟨some ⟨b1, 6, none⟩, 32, 32, t.tag⟩ : Sl)) (l' := [1] ++ t.head ++ [UInt8.ofNat t.cs.len] ++ cavsB (t.cs.l.take i) ++ t.tag) (len' := ln + 32) rfl rfl H (i := 1) rfl sl29 Try.underlying29 rfl rfl (H.slTail (i := 0) (o := 6) (pre := [V64 t.serial, .string ⟨(t.tenant).toArray⟩, V8 t.rights, VI t.from_, VI t.until_, t.cs.v]) rfl rfl (show (t.tag).length = 32 from htag) (by decide)) (by omega) (fun a25 c26 w H => ?_))
          replace H : Hp w0 w [] ([.blk b1 ([V64 t.serial, .string ⟨(t.tenant).toArray⟩, V8 t.rights, VI t.from_, VI t.until_, t.cs.v] ++ (t.tag).map V8) 76, .own a25 (ln + 32) c26 (([1] ++ t.head ++ [UInt8.ofNat t.cs.len] ++ cavsB (t.cs.l.take i) ++ t.tag).map V8) 5 1, .own a4 n5 c6 ((t.head).map V8) 5 1, .own (some b11) 1 1 (([UInt8.ofNat t.cs.len]).map V8) 5 1]) := H
          refine l_op (o_val (r_as) ?_)
          refine l_op (o_val (r_as) ?_)
          first | refine l_end ?_ | refine l_nil ?_
          refine c_ret ?_
          try dsimp only [Exit.then, Exit.inBlock]
          refine e_retN (vs := [.slice (hd a25) (ln + 32) c26, VI 0]) _ Try.results82 rfl (resT (v := .slice (hd a25) (ln + 32) c26) rfl (resT (v := VI 0) rfl (resZ))) ?_
          refine ⟨_, rfl, ?_⟩
          have hi2 : i = t.cs.len := by omega
          refine ⟨_, _, _, rfl, by omega, ?_⟩
          rw [List.take_of_length_le (by have := hc.ln; omega)] at H
          exact H.sub (.cons _ (.cons_cons _ (List.nil_sublist _)))
      · skip
        refine (o_bslB ([UInt8.ofNat t.cs.len]) H sl29 zc5 rfl rfl (by decide) (fun b27 w H hb27 => ?_))
        replace H : Hp w0 w [] ([.blk b1 ([V64 t.serial, .string ⟨(t.tenant).toArray⟩, V8 t.rights, VI t.from_, VI t.until_, t.cs.v] ++ (t.tag).map V8) 76, .own (some b3) 1 1 (([(1 : UInt8)]).map V8) 5 1, .own a4 n5 c6 ((t.head).map V8) 5 1, .own (some b27) 1 1 (([UInt8.ofNat t.cs.len]).map V8) 5 1]) := H
        refine ⟨H.sub (.cons_cons _ (List.nil_sublist _)), ?_⟩
        replace HS := H.sub (.cons_cons _ (List.nil_sublist _))
        refine t_step 3 rfl (by kernel_rfl) (o_appB (s := ⟨hd a4, n5, c6, t.head⟩) (l' := [(1 : UInt8)] ++ t.head) (len' := 1 + n5) rfl rfl H (i := 1) rfl sl29 Try.underlying29 rfl rfl (H.slOwn (i := 2) rfl) (by omega) (fun a28 c29 w H => ?_))
        replace H : Hp w0 w [] ([.blk b1 ([V64 t.serial, .string ⟨(t.tenant).toArray⟩, V8 t.rights, VI t.from_, VI t.until_, t.cs.v] ++ (t.tag).map V8) 76, .own a28 (1 + n5) c29 (([(1 : UInt8)] ++ t.head).map V8) 5 1, .own a4 n5 c6 ((t.head).map V8) 5 1, .own (some b27) 1 1 (([UInt8.ofNat t.cs.len]).map V8) 5 1]) := H
        refine ⟨H.sub (.cons_cons _ (List.nil_sublist _)), ?_⟩
        replace HS := H.sub (.cons_cons _ (List.nil_sublist _))
        refine t_step 9 rfl (by kernel_rfl) (o_appB (s := ⟨hd (some b27), 1, 1, [UInt8.ofNat t.cs.len]⟩) (l' := [(1 : UInt8)] ++ t.head ++ ([UInt8.ofNat t.cs.len])) (len' := 1 + n5 + 1) rfl rfl H (i := 1) rfl sl29 Try.underlying29 rfl rfl (H.slOwn (i := 3) rfl) (by omega) (fun a30 c31 w H => ?_))
        replace H : Hp w0 w [] ([.blk b1 ([V64 t.serial, .string ⟨(t.tenant).toArray⟩, V8 t.rights, VI t.from_, VI t.until_, t.cs.v] ++ (t.tag).map V8) 76, .own a30 (1 + n5 + 1) c31 (([(1 : UInt8)] ++ t.head ++ ([UInt8.ofNat t.cs.len])).map V8) 5 1, .own a4 n5 c6 ((t.head).map V8) 5 1, .own (some b27) 1 1 (([UInt8.ofNat t.cs.len]).map V8) 5 1]) := H
        refine ⟨H.sub (.cons_cons _ (List.nil_sublist _)), ?_⟩
        replace HS := H.sub (.cons_cons _ (List.nil_sublist _))
        refine t_take 10 rfl (by kernel_rfl) (by kernel_rfl) (by kernel_rfl) (fun _ _ _ h => h) (fun w HS => r_as) HS ?_
        refine t_done (by kernel_rfl) ?_
        clear HS
        repeat refine c_seq ?_
        refine c_region ?_
        refine l_op (o_val (r_as) ?_)
        first | refine l_end ?_ | refine l_nil ?_
        repeat refine c_seq ?_
        refine c_block ?_
        repeat refine c_seq ?_
        refine c_loop4 (fun (i : Nat) (a : Option Nat) (ln : Nat) (k : Nat) => [(1, .pointer (some ⟨b1, 0, none⟩)), (4, .slice (hd a) ln k), (5, VI (i : Int))])
          (fun (i : Nat) (a : Option Nat) (ln : Nat) (k : Nat) w => (i ≤ t.cs.len ∧ ln ≤ t.tenant.length + 66 + 9 * i) ∧ Hp w0 w [] ([.blk b1 ([V64 t.serial, .string ⟨(t.tenant).toArray⟩, V8 t.rights, VI t.from_, VI t.until_, t.cs.v] ++ (t.tag).map V8) 76, .own a ln k (([1] ++ t.head ++ [UInt8.ofNat t.cs.len] ++ cavsB (t.cs.l.take i)).map V8) 5 1, .own a4 n5 c6 ((t.head).map V8) 5 1, .own (some b27) 1 1 (([UInt8.ofNat t.cs.len]).map V8) 5 1]))
          (fun (i : Nat) (a : Option Nat) (ln : Nat) (k : Nat) => t.cs.len - i) 0 a30 (1 + n5 + 1) c31 ⟨rfl, rfl, rfl, trivial⟩ ⟨⟨Nat.zero_le _, by omega⟩, (by rw [show cavsB (t.cs.l.take 0) = [] from rfl, List.append_nil]; exact H)⟩ ?_
        clear H
        rintro i a ln k τ w ⟨⟨hi, hln⟩, H⟩
        repeat refine c_seq ?_
        refine c_region ?_
        refine l_op (o_val (r_mv) ?_)
        refine l_op (o_val (r_fa rfl fo76_5) ?_)
        refine l_op (o_val (r_ld (v := t.cs.v) H (i := 0) rfl rfl ct74 rfl) ?_)
        refine l_op (o_val (r_lens el74 rfl) ?_)
        refine l_op (o_val (r_bin (a := (i : Int)) (b := (t.cs.len : Int)) rfl rfl (fun _ => b_lss)) ?_)
        first | refine l_end ?_ | refine l_nil ?_
        by_cases hc32 : (i : Int) < (t.cs.len : Int)
        · skip
          repeat refine c_seq ?_
          refine c_yes (by exact congrArg Value.bool (decide_eq_true hc32)) ?_
          refine c_skip ?_
          repeat refine c_seq ?_
          refine c_block ?_
          repeat refine c_seq ?_
          refine c_region ?_
          refine l_op (o_val (r_mv) ?_)
          refine l_op (o_val (r_fa rfl fo76_5) ?_)
          refine l_op (o_val (r_ld (v := t.cs.v) H (i := 0) rfl rfl ct74 rfl) ?_)
          refine l_op (o_val (r_mv) ?_)
          have ah35 := ((hc.up H)).addr (by decide) (by omega)
          obtain ⟨ab33, ao34, ah35⟩ := ah35
          refine l_op (o_val (r_isN i rfl rfl el74 ah35 (by omega) (by (try simp only [Sl.cut]); omega)) ?_)
          have he37 : ∃ c, t.cs.l[i]? = some c := ⟨_, List.getElem?_eq_getElem (by have := ((hc.up H)).ln; omega)⟩
          obtain ⟨e36, he37⟩ := he37
          have hez38 := ((hc.up H)).sz e36 (List.mem_of_getElem? he37)
          refine l_op (o_val (r_ldRow (s := t.cs) (k := i) (hc.up H) ah35 rfl rt78 (by decide) he37) ?_)
          refine l_op (o_callR Try.func120 rfl rfl rfl (caveat14_ret _ e36 (hb.cs _ (List.mem_of_getElem? (by assumption)))) ?_)
          rintro _ w ⟨a39, c40, rfl, Hc⟩
          replace H : Hp w0 w [] ([.blk b1 ([V64 t.serial, .string ⟨(t.tenant).toArray⟩, V8 t.rights, VI t.from_, VI t.until_, t.cs.v] ++ (t.tag).map V8) 76, .own a ln k (([1] ++ t.head ++ [UInt8.ofNat t.cs.len] ++ cavsB (t.cs.l.take i)).map V8) 5 1, .own a4 n5 c6 ((t.head).map V8) 5 1, .own (some b27) 1 1 (([UInt8.ofNat t.cs.len]).map V8) 5 1, .own a39 9 c40 ((cavB e36).map V8) 5 1]) := H.call Hc
          clear Hc
          refine l_op (o_appB (s := ⟨hd a39, 9, c40, cavB e36⟩) (l' := [1] ++ t.head ++ [UInt8.ofNat t.cs.len] ++ cavsB (t.cs.l.take i) ++ (cavB e36)) (len' := ln + 9) rfl rfl H (i := 1) rfl sl29 Try.underlying29 rfl rfl (H.slOwn (i := 4) rfl) (by omega) (fun a41 c42 w H => ?_))
          replace H : Hp w0 w [] ([.blk b1 ([V64 t.serial, .string ⟨(t.tenant).toArray⟩, V8 t.rights, VI t.from_, VI t.until_, t.cs.v] ++ (t.tag).map V8) 76, .own a41 (ln + 9) c42 (([1] ++ t.head ++ [UInt8.ofNat t.cs.len] ++ cavsB (t.cs.l.take i) ++ (cavB e36)).map V8) 5 1, .own a4 n5 c6 ((t.head).map V8) 5 1, .own (some b27) 1 1 (([UInt8.ofNat t.cs.len]).map V8) 5 1, .own a39 9 c40 ((cavB e36).map V8) 5 1]) := H
          refine l_op (o_val (r_as) ?_)
          first | refine l_end ?_ | refine l_nil ?_
          repeat refine c_seq ?_
          refine c_region ?_
          refine l_op (o_val (r_mv) ?_)
          refine l_op (o_val (r_bin (a := (i : Int)) (b := 1) rfl rfl (fun _ => b_add (by omega) (by omega))) ?_)
          refine l_op (o_val (r_as) ?_)
          first | refine l_end ?_ | refine l_nil ?_
          rw [List.append_assoc, cavsB_succ t.cs.l i e36 he37] at H
          refine round_end (i + 1, a41, ln + 9, c42) ?_ ?_ ?_
          · exact ⟨rfl, rfl, show VI ((i : Int) + 1) = VI ((i + 1 : Nat) : Int) from congrArg VI (by omega), trivial⟩
          · refine ⟨?_, ?_⟩
            · try dsimp only
              exact ⟨by omega, by omega⟩
            · exact H.sub (.cons_cons _ (.cons_cons _ (.cons_cons _ (.cons_cons _ (List.nil_sublist _)))))
          · show t.cs.len - (i + 1 : Nat) < t.cs.len - i; omega
        · skip
          repeat refine c_seq ?_
          refine c_no (by exact congrArg Value.bool (decide_eq_false hc32)) ?_
          refine c_exit ?_
          repeat refine c_seq ?_
          refine c_region ?_
          refine l_op (o_val (r_mv) ?_)
          refine l_op (o_val (r_fa rfl fo76_6) ?_)
          refine l_op (o_val (r_slAo (o := 6) (h := 32) (m := 32) (lv := none) (hv := none) (mv := none) rfl ar31 rfl rfl rfl (fun w => sbn w)) ?_)
          refine l_op (o_appB (s := (⟨some ⟨b1, 6, none⟩, 32, 32, t.tag⟩ : Sl)) (l' := [1] ++ t.head ++ [UInt8.ofNat t.cs.len] ++ cavsB (t.cs.l.take i) ++ t.tag) (len' := ln + 32) rfl rfl H (i := 1) rfl sl29 Try.underlying29 rfl rfl (H.slTail (i := 0) (o := 6) (pre := [V64 t.serial, .string ⟨(t.tenant).toArray⟩, V8 t.rights, VI t.from_, VI t.until_, t.cs.v]) rfl rfl (show (t.tag).length = 32 from htag) (by decide)) (by omega) (fun a43 c44 w H => ?_))
          replace H : Hp w0 w [] ([.blk b1 ([V64 t.serial, .string ⟨(t.tenant).toArray⟩, V8 t.rights, VI t.from_, VI t.until_, t.cs.v] ++ (t.tag).map V8) 76, .own a43 (ln + 32) c44 (([1] ++ t.head ++ [UInt8.ofNat t.cs.len] ++ cavsB (t.cs.l.take i) ++ t.tag).map V8) 5 1, .own a4 n5 c6 ((t.head).map V8) 5 1, .own (some b27) 1 1 (([UInt8.ofNat t.cs.len]).map V8) 5 1]) := H
          refine l_op (o_val (r_as) ?_)
          refine l_op (o_val (r_as) ?_)
          first | refine l_end ?_ | refine l_nil ?_
          refine c_ret ?_
          try dsimp only [Exit.then, Exit.inBlock]
          refine e_retN (vs := [.slice (hd a43) (ln + 32) c44, VI 0]) _ Try.results82 rfl (resT (v := .slice (hd a43) (ln + 32) c44) rfl (resT (v := VI 0) rfl (resZ))) ?_
          refine ⟨_, rfl, ?_⟩
          have hi2 : i = t.cs.len := by omega
          refine ⟨_, _, _, rfl, by omega, ?_⟩
          rw [List.take_of_length_le (by have := hc.ln; omega)] at H
          exact H.sub (.cons _ (.cons_cons _ (List.nil_sublist _)))
    · skip
      refine (o_bslB ([UInt8.ofNat t.cs.len]) H sl29 zc5 rfl rfl (by decide) (fun b45 w H hb45 => ?_))
      replace H : Hp w0 w [] ([.blk b1 ([V64 t.serial, .string ⟨(t.tenant).toArray⟩, V8 t.rights, VI t.from_, VI t.until_, t.cs.v] ++ (t.tag).map V8) 76, .own (some b3) 1 1 (([(1 : UInt8)]).map V8) 5 1, .own (some b45) 1 1 (([UInt8.ofNat t.cs.len]).map V8) 5 1]) := H
      refine ⟨H.sub (.cons_cons _ (List.nil_sublist _)), ?_⟩
      replace HS := H.sub (.cons_cons _ (List.nil_sublist _))
      refine t_step 2 rfl (by kernel_rfl) (o_callR Try.func126 rfl rfl rfl (head14_ret _ t (hc.up H) (show (t.tag).length = 32 from htag) (by first | omega | (dsimp only; omega) | simp) hb) ?_)
      rintro _ w ⟨a46, n47, c48, rfl, hn49, hh50, Hc⟩
      replace H : Hp w0 w [] ([.blk b1 ([V64 t.serial, .string ⟨(t.tenant).toArray⟩, V8 t.rights, VI t.from_, VI t.until_, t.cs.v] ++ (t.tag).map V8) 76, .own (some b3) 1 1 (([(1 : UInt8)]).map V8) 5 1, .own (some b45) 1 1 (([UInt8.ofNat t.cs.len]).map V8) 5 1, .own a46 n47 c48 ((t.head).map V8) 5 1]) := H.call Hc
      clear Hc
      try dsimp only at hn49
      refine ⟨H.sub (.cons_cons _ (List.nil_sublist _)), ?_⟩
      replace HS := H.sub (.cons_cons _ (List.nil_sublist _))
      refine t_step 3 rfl (by kernel_rfl) (o_appB (s := ⟨hd a46, n47, c48, t.head⟩) (l' := [(1 : UInt8)] ++ t.head) (len' := 1 + n47) rfl rfl H (i := 1) rfl sl29 Try.underlying29 rfl rfl (H.slOwn (i := 3) rfl) (by omega) (fun a51 c52 w H => ?_))
      replace H : Hp w0 w [] ([.blk b1 ([V64 t.serial, .string ⟨(t.tenant).toArray⟩, V8 t.rights, VI t.from_, VI t.until_, t.cs.v] ++ (t.tag).map V8) 76, .own a51 (1 + n47) c52 (([(1 : UInt8)] ++ t.head).map V8) 5 1, .own (some b45) 1 1 (([UInt8.ofNat t.cs.len]).map V8) 5 1, .own a46 n47 c48 ((t.head).map V8) 5 1]) := H
      refine ⟨H.sub (.cons_cons _ (List.nil_sublist _)), ?_⟩
      replace HS := H.sub (.cons_cons _ (List.nil_sublist _))
      refine t_step 9 rfl (by kernel_rfl) (o_appB (s := ⟨hd (some b45), 1, 1, [UInt8.ofNat t.cs.len]⟩) (l' := [(1 : UInt8)] ++ t.head ++ ([UInt8.ofNat t.cs.len])) (len' := 1 + n47 + 1) rfl rfl H (i := 1) rfl sl29 Try.underlying29 rfl rfl (H.slOwn (i := 2) rfl) (by omega) (fun a53 c54 w H => ?_))
      replace H : Hp w0 w [] ([.blk b1 ([V64 t.serial, .string ⟨(t.tenant).toArray⟩, V8 t.rights, VI t.from_, VI t.until_, t.cs.v] ++ (t.tag).map V8) 76, .own a53 (1 + n47 + 1) c54 (([(1 : UInt8)] ++ t.head ++ ([UInt8.ofNat t.cs.len])).map V8) 5 1, .own (some b45) 1 1 (([UInt8.ofNat t.cs.len]).map V8) 5 1, .own a46 n47 c48 ((t.head).map V8) 5 1]) := H
      refine ⟨H.sub (.cons_cons _ (List.nil_sublist _)), ?_⟩
      replace HS := H.sub (.cons_cons _ (List.nil_sublist _))
      refine t_take 10 rfl (by kernel_rfl) (by kernel_rfl) (by kernel_rfl) (fun _ _ _ h => h) (fun w HS => r_as) HS ?_
      refine t_done (by kernel_rfl) ?_
      clear HS
      repeat refine c_seq ?_
      refine c_region ?_
      refine l_op (o_val (r_as) ?_)
      first | refine l_end ?_ | refine l_nil ?_
      repeat refine c_seq ?_
      refine c_block ?_
      repeat refine c_seq ?_
      refine c_loop4 (fun (i : Nat) (a : Option Nat) (ln : Nat) (k : Nat) => [(1, .pointer (some ⟨b1, 0, none⟩)), (4, .slice (hd a) ln k), (5, VI (i : Int))])
        (fun (i : Nat) (a : Option Nat) (ln : Nat) (k : Nat) w => (i ≤ t.cs.len ∧ ln ≤ t.tenant.length + 66 + 9 * i) ∧ Hp w0 w [] ([.blk b1 ([V64 t.serial, .string ⟨(t.tenant).toArray⟩, V8 t.rights, VI t.from_, VI t.until_, t.cs.v] ++ (t.tag).map V8) 76, .own a ln k (([1] ++ t.head ++ [UInt8.ofNat t.cs.len] ++ cavsB (t.cs.l.take i)).map V8) 5 1, .own (some b45) 1 1 (([UInt8.ofNat t.cs.len]).map V8) 5 1, .own a46 n47 c48 ((t.head).map V8) 5 1]))
        (fun (i : Nat) (a : Option Nat) (ln : Nat) (k : Nat) => t.cs.len - i) 0 a53 (1 + n47 + 1) c54 ⟨rfl, rfl, rfl, trivial⟩ ⟨⟨Nat.zero_le _, by omega⟩, (by rw [show cavsB (t.cs.l.take 0) = [] from rfl, List.append_nil]; exact H)⟩ ?_
      clear H
      rintro i a ln k τ w ⟨⟨hi, hln⟩, H⟩
      repeat refine c_seq ?_
      refine c_region ?_
      refine l_op (o_val (r_mv) ?_)
      refine l_op (o_val (r_fa rfl fo76_5) ?_)
      refine l_op (o_val (r_ld (v := t.cs.v) H (i := 0) rfl rfl ct74 rfl) ?_)
      refine l_op (o_val (r_lens el74 rfl) ?_)
      refine l_op (o_val (r_bin (a := (i : Int)) (b := (t.cs.len : Int)) rfl rfl (fun _ => b_lss)) ?_)
      first | refine l_end ?_ | refine l_nil ?_
      by_cases hc55 : (i : Int) < (t.cs.len : Int)
      · skip
        repeat refine c_seq ?_
        refine c_yes (by exact congrArg Value.bool (decide_eq_true hc55)) ?_
        refine c_skip ?_
        repeat refine c_seq ?_
        refine c_block ?_
        repeat refine c_seq ?_
        refine c_region ?_
        refine l_op (o_val (r_mv) ?_)
        refine l_op (o_val (r_fa rfl fo76_5) ?_)
        refine l_op (o_val (r_ld (v := t.cs.v) H (i := 0) rfl rfl ct74 rfl) ?_)
        refine l_op (o_val (r_mv) ?_)
        have ah58 := ((hc.up H)).addr (by decide) (by omega)
        obtain ⟨ab56, ao57, ah58⟩ := ah58
        refine l_op (o_val (r_isN i rfl rfl el74 ah58 (by omega) (by (try simp only [Sl.cut]); omega)) ?_)
        have he60 : ∃ c, t.cs.l[i]? = some c := ⟨_, List.getElem?_eq_getElem (by have := ((hc.up H)).ln; omega)⟩
        obtain ⟨e59, he60⟩ := he60
        have hez61 := ((hc.up H)).sz e59 (List.mem_of_getElem? he60)
        refine l_op (o_val (r_ldRow (s := t.cs) (k := i) (hc.up H) ah58 rfl rt78 (by decide) he60) ?_)
        refine l_op (o_callR Try.func120 rfl rfl rfl (caveat14_ret _ e59 (hb.cs _ (List.mem_of_getElem? (by assumption)))) ?_)
        rintro _ w ⟨a62, c63, rfl, Hc⟩
        replace H : Hp w0 w [] ([.blk b1 ([V64 t.serial, .string ⟨(t.tenant).toArray⟩, V8 t.rights, VI t.from_, VI t.until_, t.cs.v] ++ (t.tag).map V8) 76, .own a ln k (([1] ++ t.head ++ [UInt8.ofNat t.cs.len] ++ cavsB (t.cs.l.take i)).map V8) 5 1, .own (some b45) 1 1 (([UInt8.ofNat t.cs.len]).map V8) 5 1, .own a46 n47 c48 ((t.head).map V8) 5 1, .own a62 9 c63 ((cavB e59).map V8) 5 1]) := H.call Hc
        clear Hc
        refine l_op (o_appB (s := ⟨hd a62, 9, c63, cavB e59⟩) (l' := [1] ++ t.head ++ [UInt8.ofNat t.cs.len] ++ cavsB (t.cs.l.take i) ++ (cavB e59)) (len' := ln + 9) rfl rfl H (i := 1) rfl sl29 Try.underlying29 rfl rfl (H.slOwn (i := 4) rfl) (by omega) (fun a64 c65 w H => ?_))
        replace H : Hp w0 w [] ([.blk b1 ([V64 t.serial, .string ⟨(t.tenant).toArray⟩, V8 t.rights, VI t.from_, VI t.until_, t.cs.v] ++ (t.tag).map V8) 76, .own a64 (ln + 9) c65 (([1] ++ t.head ++ [UInt8.ofNat t.cs.len] ++ cavsB (t.cs.l.take i) ++ (cavB e59)).map V8) 5 1, .own (some b45) 1 1 (([UInt8.ofNat t.cs.len]).map V8) 5 1, .own a46 n47 c48 ((t.head).map V8) 5 1, .own a62 9 c63 ((cavB e59).map V8) 5 1]) := H
        refine l_op (o_val (r_as) ?_)
        first | refine l_end ?_ | refine l_nil ?_
        repeat refine c_seq ?_
        refine c_region ?_
        refine l_op (o_val (r_mv) ?_)
        refine l_op (o_val (r_bin (a := (i : Int)) (b := 1) rfl rfl (fun _ => b_add (by omega) (by omega))) ?_)
        refine l_op (o_val (r_as) ?_)
        first | refine l_end ?_ | refine l_nil ?_
        rw [List.append_assoc, cavsB_succ t.cs.l i e59 he60] at H
        refine round_end (i + 1, a64, ln + 9, c65) ?_ ?_ ?_
        · exact ⟨rfl, rfl, show VI ((i : Int) + 1) = VI ((i + 1 : Nat) : Int) from congrArg VI (by omega), trivial⟩
        · refine ⟨?_, ?_⟩
          · try dsimp only
            exact ⟨by omega, by omega⟩
          · exact H.sub (.cons_cons _ (.cons_cons _ (.cons_cons _ (.cons_cons _ (List.nil_sublist _)))))
        · show t.cs.len - (i + 1 : Nat) < t.cs.len - i; omega
      · skip
        repeat refine c_seq ?_
        refine c_no (by exact congrArg Value.bool (decide_eq_false hc55)) ?_
        refine c_exit ?_
        repeat refine c_seq ?_
        refine c_region ?_
        refine l_op (o_val (r_mv) ?_)
        refine l_op (o_val (r_fa rfl fo76_6) ?_)
        refine l_op (o_val (r_slAo (o := 6) (h := 32) (m := 32) (lv := none) (hv := none) (mv := none) rfl ar31 rfl rfl rfl (fun w => sbn w)) ?_)
        refine l_op (o_appB (s := (⟨some ⟨b1, 6, none⟩, 32, 32, t.tag⟩ : Sl)) (l' := [1] ++ t.head ++ [UInt8.ofNat t.cs.len] ++ cavsB (t.cs.l.take i) ++ t.tag) (len' := ln + 32) rfl rfl H (i := 1) rfl sl29 Try.underlying29 rfl rfl (H.slTail (i := 0) (o := 6) (pre := [V64 t.serial, .string ⟨(t.tenant).toArray⟩, V8 t.rights, VI t.from_, VI t.until_, t.cs.v]) rfl rfl (show (t.tag).length = 32 from htag) (by decide)) (by omega) (fun a66 c67 w H => ?_))
        replace H : Hp w0 w [] ([.blk b1 ([V64 t.serial, .string ⟨(t.tenant).toArray⟩, V8 t.rights, VI t.from_, VI t.until_, t.cs.v] ++ (t.tag).map V8) 76, .own a66 (ln + 32) c67 (([1] ++ t.head ++ [UInt8.ofNat t.cs.len] ++ cavsB (t.cs.l.take i) ++ t.tag).map V8) 5 1, .own (some b45) 1 1 (([UInt8.ofNat t.cs.len]).map V8) 5 1, .own a46 n47 c48 ((t.head).map V8) 5 1]) := H
        refine l_op (o_val (r_as) ?_)
        refine l_op (o_val (r_as) ?_)
        first | refine l_end ?_ | refine l_nil ?_
        refine c_ret ?_
        try dsimp only [Exit.then, Exit.inBlock]
        refine e_retN (vs := [.slice (hd a66) (ln + 32) c67, VI 0]) _ Try.results82 rfl (resT (v := .slice (hd a66) (ln + 32) c67) rfl (resT (v := VI 0) rfl (resZ))) ?_
        refine ⟨_, rfl, ?_⟩
        have hi2 : i = t.cs.len := by omega
        refine ⟨_, _, _, rfl, by omega, ?_⟩
        rw [List.take_of_length_le (by have := hc.ln; omega)] at H
        exact H.sub (.cons _ (.cons_cons _ (List.nil_sublist _)))
  · skip
    refine (o_callR Try.func126 rfl rfl rfl (head14_ret _ t (hc.up H) (show (t.tag).length = 32 from htag) (by first | omega | (dsimp only; omega) | simp) hb) ?_)
    rintro _ w ⟨a68, n69, c70, rfl, hn71, hh72, Hc⟩
    replace H : Hp w0 w [] ([.blk b1 ([V64 t.serial, .string ⟨(t.tenant).toArray⟩, V8 t.rights, VI t.from_, VI t.until_, t.cs.v] ++ (t.tag).map V8) 76, .own a68 n69 c70 ((t.head).map V8) 5 1]) := H.call Hc
    clear Hc
    try dsimp only at hn71
    refine ⟨H.sub (.cons_cons _ (List.nil_sublist _)), ?_⟩
    replace HS := H.sub (.cons_cons _ (List.nil_sublist _))
    refine t_all [0, 8] (by kernel_rfl) (by simp) (all_cons (w_op 0 rfl ?_) (all_cons (w_op 8 rfl ?_) (all_nil)))
    · skip
      refine (o_bslB ([(1 : UInt8)]) H sl29 zc5 rfl rfl (by decide) (fun b73 w H hb73 => ?_))
      replace H : Hp w0 w [] ([.blk b1 ([V64 t.serial, .string ⟨(t.tenant).toArray⟩, V8 t.rights, VI t.from_, VI t.until_, t.cs.v] ++ (t.tag).map V8) 76, .own a68 n69 c70 ((t.head).map V8) 5 1, .own (some b73) 1 1 (([(1 : UInt8)]).map V8) 5 1]) := H
      refine ⟨H.sub (.cons_cons _ (List.nil_sublist _)), ?_⟩
      replace HS := H.sub (.cons_cons _ (List.nil_sublist _))
      refine t_all [3, 8] (by kernel_rfl) (by simp) (all_cons (w_op 3 rfl ?_) (all_cons (w_op 8 rfl ?_) (all_nil)))
      · skip
        refine (o_appB (s := ⟨hd a68, n69, c70, t.head⟩) (l' := [(1 : UInt8)] ++ t.head) (len' := 1 + n69) rfl rfl H (i := 2) rfl sl29 Try.underlying29 rfl rfl (H.slOwn (i := 1) rfl) (by omega) (fun a74 c75 w H => ?_))
        replace H : Hp w0 w [] ([.blk b1 ([V64 t.serial, .string ⟨(t.tenant).toArray⟩, V8 t.rights, VI t.from_, VI t.until_, t.cs.v] ++ (t.tag).map V8) 76, .own a68 n69 c70 ((t.head).map V8) 5 1, .own a74 (1 + n69) c75 (([(1 : UInt8)] ++ t.head).map V8) 5 1]) := H
        refine ⟨H.sub (.cons_cons _ (List.nil_sublist _)), ?_⟩
        replace HS := H.sub (.cons_cons _ (List.nil_sublist _))
        refine t_step 8 rfl (by kernel_rfl) (o_bslB ([UInt8.ofNat t.cs.len]) H sl29 zc5 rfl rfl (by decide) (fun b76 w H hb76 => ?_))
        replace H : Hp w0 w [] ([.blk b1 ([V64 t.serial, .string ⟨(t.tenant).toArray⟩, V8 t.rights, VI t.from_, VI t.until_, t.cs.v] ++ (t.tag).map V8) 76, .own a68 n69 c70 ((t.head).map V8) 5 1, .own a74 (1 + n69) c75 (([(1 : UInt8)] ++ t.head).map V8) 5 1, .own (some b76) 1 1 (([UInt8.ofNat t.cs.len]).map V8) 5 1]) := H
        refine ⟨H.sub (.cons_cons _ (List.nil_sublist _)), ?_⟩
        replace HS := H.sub (.cons_cons _ (List.nil_sublist _))
        refine t_step 9 rfl (by kernel_rfl) (o_appB (s := ⟨hd (some b76), 1, 1, [UInt8.ofNat t.cs.len]⟩) (l' := [(1 : UInt8)] ++ t.head ++ ([UInt8.ofNat t.cs.len])) (len' := 1 + n69 + 1) rfl rfl H (i := 2) rfl sl29 Try.underlying29 rfl rfl (H.slOwn (i := 3) rfl) (by omega) (fun a77 c78 w H => ?_))
        replace H : Hp w0 w [] ([.blk b1 ([V64 t.serial, .string ⟨(t.tenant).toArray⟩, V8 t.rights, VI t.from_, VI t.until_, t.cs.v] ++ (t.tag).map V8) 76, .own a68 n69 c70 ((t.head).map V8) 5 1, .own a77 (1 + n69 + 1) c78 (([(1 : UInt8)] ++ t.head ++ ([UInt8.ofNat t.cs.len])).map V8) 5 1, .own (some b76) 1 1 (([UInt8.ofNat t.cs.len]).map V8) 5 1]) := H
        refine ⟨H.sub (.cons_cons _ (List.nil_sublist _)), ?_⟩
        replace HS := H.sub (.cons_cons _ (List.nil_sublist _))
        refine t_take 10 rfl (by kernel_rfl) (by kernel_rfl) (by kernel_rfl) (fun _ _ _ h => h) (fun w HS => r_as) HS ?_
        refine t_done (by kernel_rfl) ?_
        clear HS
        repeat refine c_seq ?_
        refine c_region ?_
        refine l_op (o_val (r_as) ?_)
        first | refine l_end ?_ | refine l_nil ?_
        repeat refine c_seq ?_
        refine c_block ?_
        repeat refine c_seq ?_
        refine c_loop4 (fun (i : Nat) (a : Option Nat) (ln : Nat) (k : Nat) => [(1, .pointer (some ⟨b1, 0, none⟩)), (4, .slice (hd a) ln k), (5, VI (i : Int))])
          (fun (i : Nat) (a : Option Nat) (ln : Nat) (k : Nat) w => (i ≤ t.cs.len ∧ ln ≤ t.tenant.length + 66 + 9 * i) ∧ Hp w0 w [] ([.blk b1 ([V64 t.serial, .string ⟨(t.tenant).toArray⟩, V8 t.rights, VI t.from_, VI t.until_, t.cs.v] ++ (t.tag).map V8) 76, .own a68 n69 c70 ((t.head).map V8) 5 1, .own a ln k (([1] ++ t.head ++ [UInt8.ofNat t.cs.len] ++ cavsB (t.cs.l.take i)).map V8) 5 1, .own (some b76) 1 1 (([UInt8.ofNat t.cs.len]).map V8) 5 1]))
          (fun (i : Nat) (a : Option Nat) (ln : Nat) (k : Nat) => t.cs.len - i) 0 a77 (1 + n69 + 1) c78 ⟨rfl, rfl, rfl, trivial⟩ ⟨⟨Nat.zero_le _, by omega⟩, (by rw [show cavsB (t.cs.l.take 0) = [] from rfl, List.append_nil]; exact H)⟩ ?_
        clear H
        rintro i a ln k τ w ⟨⟨hi, hln⟩, H⟩
        repeat refine c_seq ?_
        refine c_region ?_
        refine l_op (o_val (r_mv) ?_)
        refine l_op (o_val (r_fa rfl fo76_5) ?_)
        refine l_op (o_val (r_ld (v := t.cs.v) H (i := 0) rfl rfl ct74 rfl) ?_)
        refine l_op (o_val (r_lens el74 rfl) ?_)
        refine l_op (o_val (r_bin (a := (i : Int)) (b := (t.cs.len : Int)) rfl rfl (fun _ => b_lss)) ?_)
        first | refine l_end ?_ | refine l_nil ?_
        by_cases hc79 : (i : Int) < (t.cs.len : Int)
        · skip
          repeat refine c_seq ?_
          refine c_yes (by exact congrArg Value.bool (decide_eq_true hc79)) ?_
          refine c_skip ?_
          repeat refine c_seq ?_
          refine c_block ?_
          repeat refine c_seq ?_
          refine c_region ?_
          refine l_op (o_val (r_mv) ?_)
          refine l_op (o_val (r_fa rfl fo76_5) ?_)
          refine l_op (o_val (r_ld (v := t.cs.v) H (i := 0) rfl rfl ct74 rfl) ?_)
          refine l_op (o_val (r_mv) ?_)
          have ah82 := ((hc.up H)).addr (by decide) (by omega)
          obtain ⟨ab80, ao81, ah82⟩ := ah82
          refine l_op (o_val (r_isN i rfl rfl el74 ah82 (by omega) (by (try simp only [Sl.cut]); omega)) ?_)
          have he84 : ∃ c, t.cs.l[i]? = some c := ⟨_, List.getElem?_eq_getElem (by have := ((hc.up H)).ln; omega)⟩
          obtain ⟨e83, he84⟩ := he84
          have hez85 := ((hc.up H)).sz e83 (List.mem_of_getElem? he84)
          refine l_op (o_val (r_ldRow (s := t.cs) (k := i) (hc.up H) ah82 rfl rt78 (by decide) he84) ?_)
          refine l_op (o_callR Try.func120 rfl rfl rfl (caveat14_ret _ e83 (hb.cs _ (List.mem_of_getElem? (by assumption)))) ?_)
          rintro _ w ⟨a86, c87, rfl, Hc⟩
          replace H : Hp w0 w [] ([.blk b1 ([V64 t.serial, .string ⟨(t.tenant).toArray⟩, V8 t.rights, VI t.from_, VI t.until_, t.cs.v] ++ (t.tag).map V8) 76, .own a68 n69 c70 ((t.head).map V8) 5 1, .own a ln k (([1] ++ t.head ++ [UInt8.ofNat t.cs.len] ++ cavsB (t.cs.l.take i)).map V8) 5 1, .own (some b76) 1 1 (([UInt8.ofNat t.cs.len]).map V8) 5 1, .own a86 9 c87 ((cavB e83).map V8) 5 1]) := H.call Hc
          clear Hc
          refine l_op (o_appB (s := ⟨hd a86, 9, c87, cavB e83⟩) (l' := [1] ++ t.head ++ [UInt8.ofNat t.cs.len] ++ cavsB (t.cs.l.take i) ++ (cavB e83)) (len' := ln + 9) rfl rfl H (i := 2) rfl sl29 Try.underlying29 rfl rfl (H.slOwn (i := 4) rfl) (by omega) (fun a88 c89 w H => ?_))
          replace H : Hp w0 w [] ([.blk b1 ([V64 t.serial, .string ⟨(t.tenant).toArray⟩, V8 t.rights, VI t.from_, VI t.until_, t.cs.v] ++ (t.tag).map V8) 76, .own a68 n69 c70 ((t.head).map V8) 5 1, .own a88 (ln + 9) c89 (([1] ++ t.head ++ [UInt8.ofNat t.cs.len] ++ cavsB (t.cs.l.take i) ++ (cavB e83)).map V8) 5 1, .own (some b76) 1 1 (([UInt8.ofNat t.cs.len]).map V8) 5 1, .own a86 9 c87 ((cavB e83).map V8) 5 1]) := H
          refine l_op (o_val (r_as) ?_)
          first | refine l_end ?_ | refine l_nil ?_
          repeat refine c_seq ?_
          refine c_region ?_
          refine l_op (o_val (r_mv) ?_)
          refine l_op (o_val (r_bin (a := (i : Int)) (b := 1) rfl rfl (fun _ => b_add (by omega) (by omega))) ?_)
          refine l_op (o_val (r_as) ?_)
          first | refine l_end ?_ | refine l_nil ?_
          rw [List.append_assoc, cavsB_succ t.cs.l i e83 he84] at H
          refine round_end (i + 1, a88, ln + 9, c89) ?_ ?_ ?_
          · exact ⟨rfl, rfl, show VI ((i : Int) + 1) = VI ((i + 1 : Nat) : Int) from congrArg VI (by omega), trivial⟩
          · refine ⟨?_, ?_⟩
            · try dsimp only
              exact ⟨by omega, by omega⟩
            · exact H.sub (.cons_cons _ (.cons_cons _ (.cons_cons _ (.cons_cons _ (List.nil_sublist _)))))
          · show t.cs.len - (i + 1 : Nat) < t.cs.len - i; omega
        · skip
          repeat refine c_seq ?_
          refine c_no (by exact congrArg Value.bool (decide_eq_false hc79)) ?_
          refine c_exit ?_
          repeat refine c_seq ?_
          refine c_region ?_
          refine l_op (o_val (r_mv) ?_)
          refine l_op (o_val (r_fa rfl fo76_6) ?_)
          refine l_op (o_val (r_slAo (o := 6) (h := 32) (m := 32) (lv := none) (hv := none) (mv := none) rfl ar31 rfl rfl rfl (fun w => sbn w)) ?_)
          refine l_op (o_appB (s := (⟨some ⟨b1, 6, none⟩, 32, 32, t.tag⟩ : Sl)) (l' := [1] ++ t.head ++ [UInt8.ofNat t.cs.len] ++ cavsB (t.cs.l.take i) ++ t.tag) (len' := ln + 32) rfl rfl H (i := 2) rfl sl29 Try.underlying29 rfl rfl (H.slTail (i := 0) (o := 6) (pre := [V64 t.serial, .string ⟨(t.tenant).toArray⟩, V8 t.rights, VI t.from_, VI t.until_, t.cs.v]) rfl rfl (show (t.tag).length = 32 from htag) (by decide)) (by omega) (fun a90 c91 w H => ?_))
          replace H : Hp w0 w [] ([.blk b1 ([V64 t.serial, .string ⟨(t.tenant).toArray⟩, V8 t.rights, VI t.from_, VI t.until_, t.cs.v] ++ (t.tag).map V8) 76, .own a68 n69 c70 ((t.head).map V8) 5 1, .own a90 (ln + 32) c91 (([1] ++ t.head ++ [UInt8.ofNat t.cs.len] ++ cavsB (t.cs.l.take i) ++ t.tag).map V8) 5 1, .own (some b76) 1 1 (([UInt8.ofNat t.cs.len]).map V8) 5 1]) := H
          refine l_op (o_val (r_as) ?_)
          refine l_op (o_val (r_as) ?_)
          first | refine l_end ?_ | refine l_nil ?_
          refine c_ret ?_
          try dsimp only [Exit.then, Exit.inBlock]
          refine e_retN (vs := [.slice (hd a90) (ln + 32) c91, VI 0]) _ Try.results82 rfl (resT (v := .slice (hd a90) (ln + 32) c91) rfl (resT (v := VI 0) rfl (resZ))) ?_
          refine ⟨_, rfl, ?_⟩
          have hi2 : i = t.cs.len := by omega
          refine ⟨_, _, _, rfl, by omega, ?_⟩
          rw [List.take_of_length_le (by have := hc.ln; omega)] at H
          exact H.sub (.cons _ (.cons _ (.cons_cons _ (List.nil_sublist _))))
      · skip
        refine (o_bslB ([UInt8.ofNat t.cs.len]) H sl29 zc5 rfl rfl (by decide) (fun b92 w H hb92 => ?_))
        replace H : Hp w0 w [] ([.blk b1 ([V64 t.serial, .string ⟨(t.tenant).toArray⟩, V8 t.rights, VI t.from_, VI t.until_, t.cs.v] ++ (t.tag).map V8) 76, .own a68 n69 c70 ((t.head).map V8) 5 1, .own (some b73) 1 1 (([(1 : UInt8)]).map V8) 5 1, .own (some b92) 1 1 (([UInt8.ofNat t.cs.len]).map V8) 5 1]) := H
        refine ⟨H.sub (.cons_cons _ (List.nil_sublist _)), ?_⟩
        replace HS := H.sub (.cons_cons _ (List.nil_sublist _))
        refine t_step 3 rfl (by kernel_rfl) (o_appB (s := ⟨hd a68, n69, c70, t.head⟩) (l' := [(1 : UInt8)] ++ t.head) (len' := 1 + n69) rfl rfl H (i := 2) rfl sl29 Try.underlying29 rfl rfl (H.slOwn (i := 1) rfl) (by omega) (fun a93 c94 w H => ?_))
        replace H : Hp w0 w [] ([.blk b1 ([V64 t.serial, .string ⟨(t.tenant).toArray⟩, V8 t.rights, VI t.from_, VI t.until_, t.cs.v] ++ (t.tag).map V8) 76, .own a68 n69 c70 ((t.head).map V8) 5 1, .own a93 (1 + n69) c94 (([(1 : UInt8)] ++ t.head).map V8) 5 1, .own (some b92) 1 1 (([UInt8.ofNat t.cs.len]).map V8) 5 1]) := H
        refine ⟨H.sub (.cons_cons _ (List.nil_sublist _)), ?_⟩
        replace HS := H.sub (.cons_cons _ (List.nil_sublist _))
        refine t_step 9 rfl (by kernel_rfl) (o_appB (s := ⟨hd (some b92), 1, 1, [UInt8.ofNat t.cs.len]⟩) (l' := [(1 : UInt8)] ++ t.head ++ ([UInt8.ofNat t.cs.len])) (len' := 1 + n69 + 1) rfl rfl H (i := 2) rfl sl29 Try.underlying29 rfl rfl (H.slOwn (i := 3) rfl) (by omega) (fun a95 c96 w H => ?_))
        replace H : Hp w0 w [] ([.blk b1 ([V64 t.serial, .string ⟨(t.tenant).toArray⟩, V8 t.rights, VI t.from_, VI t.until_, t.cs.v] ++ (t.tag).map V8) 76, .own a68 n69 c70 ((t.head).map V8) 5 1, .own a95 (1 + n69 + 1) c96 (([(1 : UInt8)] ++ t.head ++ ([UInt8.ofNat t.cs.len])).map V8) 5 1, .own (some b92) 1 1 (([UInt8.ofNat t.cs.len]).map V8) 5 1]) := H
        refine ⟨H.sub (.cons_cons _ (List.nil_sublist _)), ?_⟩
        replace HS := H.sub (.cons_cons _ (List.nil_sublist _))
        refine t_take 10 rfl (by kernel_rfl) (by kernel_rfl) (by kernel_rfl) (fun _ _ _ h => h) (fun w HS => r_as) HS ?_
        refine t_done (by kernel_rfl) ?_
        clear HS
        repeat refine c_seq ?_
        refine c_region ?_
        refine l_op (o_val (r_as) ?_)
        first | refine l_end ?_ | refine l_nil ?_
        repeat refine c_seq ?_
        refine c_block ?_
        repeat refine c_seq ?_
        refine c_loop4 (fun (i : Nat) (a : Option Nat) (ln : Nat) (k : Nat) => [(1, .pointer (some ⟨b1, 0, none⟩)), (4, .slice (hd a) ln k), (5, VI (i : Int))])
          (fun (i : Nat) (a : Option Nat) (ln : Nat) (k : Nat) w => (i ≤ t.cs.len ∧ ln ≤ t.tenant.length + 66 + 9 * i) ∧ Hp w0 w [] ([.blk b1 ([V64 t.serial, .string ⟨(t.tenant).toArray⟩, V8 t.rights, VI t.from_, VI t.until_, t.cs.v] ++ (t.tag).map V8) 76, .own a68 n69 c70 ((t.head).map V8) 5 1, .own a ln k (([1] ++ t.head ++ [UInt8.ofNat t.cs.len] ++ cavsB (t.cs.l.take i)).map V8) 5 1, .own (some b92) 1 1 (([UInt8.ofNat t.cs.len]).map V8) 5 1]))
          (fun (i : Nat) (a : Option Nat) (ln : Nat) (k : Nat) => t.cs.len - i) 0 a95 (1 + n69 + 1) c96 ⟨rfl, rfl, rfl, trivial⟩ ⟨⟨Nat.zero_le _, by omega⟩, (by rw [show cavsB (t.cs.l.take 0) = [] from rfl, List.append_nil]; exact H)⟩ ?_
        clear H
        rintro i a ln k τ w ⟨⟨hi, hln⟩, H⟩
        repeat refine c_seq ?_
        refine c_region ?_
        refine l_op (o_val (r_mv) ?_)
        refine l_op (o_val (r_fa rfl fo76_5) ?_)
        refine l_op (o_val (r_ld (v := t.cs.v) H (i := 0) rfl rfl ct74 rfl) ?_)
        refine l_op (o_val (r_lens el74 rfl) ?_)
        refine l_op (o_val (r_bin (a := (i : Int)) (b := (t.cs.len : Int)) rfl rfl (fun _ => b_lss)) ?_)
        first | refine l_end ?_ | refine l_nil ?_
        by_cases hc97 : (i : Int) < (t.cs.len : Int)
        · skip
          repeat refine c_seq ?_
          refine c_yes (by exact congrArg Value.bool (decide_eq_true hc97)) ?_
          refine c_skip ?_
          repeat refine c_seq ?_
          refine c_block ?_
          repeat refine c_seq ?_
          refine c_region ?_
          refine l_op (o_val (r_mv) ?_)
          refine l_op (o_val (r_fa rfl fo76_5) ?_)
          refine l_op (o_val (r_ld (v := t.cs.v) H (i := 0) rfl rfl ct74 rfl) ?_)
          refine l_op (o_val (r_mv) ?_)
          have ah100 := ((hc.up H)).addr (by decide) (by omega)
          obtain ⟨ab98, ao99, ah100⟩ := ah100
          refine l_op (o_val (r_isN i rfl rfl el74 ah100 (by omega) (by (try simp only [Sl.cut]); omega)) ?_)
          have he102 : ∃ c, t.cs.l[i]? = some c := ⟨_, List.getElem?_eq_getElem (by have := ((hc.up H)).ln; omega)⟩
          obtain ⟨e101, he102⟩ := he102
          have hez103 := ((hc.up H)).sz e101 (List.mem_of_getElem? he102)
          refine l_op (o_val (r_ldRow (s := t.cs) (k := i) (hc.up H) ah100 rfl rt78 (by decide) he102) ?_)
          refine l_op (o_callR Try.func120 rfl rfl rfl (caveat14_ret _ e101 (hb.cs _ (List.mem_of_getElem? (by assumption)))) ?_)
          rintro _ w ⟨a104, c105, rfl, Hc⟩
          replace H : Hp w0 w [] ([.blk b1 ([V64 t.serial, .string ⟨(t.tenant).toArray⟩, V8 t.rights, VI t.from_, VI t.until_, t.cs.v] ++ (t.tag).map V8) 76, .own a68 n69 c70 ((t.head).map V8) 5 1, .own a ln k (([1] ++ t.head ++ [UInt8.ofNat t.cs.len] ++ cavsB (t.cs.l.take i)).map V8) 5 1, .own (some b92) 1 1 (([UInt8.ofNat t.cs.len]).map V8) 5 1, .own a104 9 c105 ((cavB e101).map V8) 5 1]) := H.call Hc
          clear Hc
          refine l_op (o_appB (s := ⟨hd a104, 9, c105, cavB e101⟩) (l' := [1] ++ t.head ++ [UInt8.ofNat t.cs.len] ++ cavsB (t.cs.l.take i) ++ (cavB e101)) (len' := ln + 9) rfl rfl H (i := 2) rfl sl29 Try.underlying29 rfl rfl (H.slOwn (i := 4) rfl) (by omega) (fun a106 c107 w H => ?_))
          replace H : Hp w0 w [] ([.blk b1 ([V64 t.serial, .string ⟨(t.tenant).toArray⟩, V8 t.rights, VI t.from_, VI t.until_, t.cs.v] ++ (t.tag).map V8) 76, .own a68 n69 c70 ((t.head).map V8) 5 1, .own a106 (ln + 9) c107 (([1] ++ t.head ++ [UInt8.ofNat t.cs.len] ++ cavsB (t.cs.l.take i) ++ (cavB e101)).map V8) 5 1, .own (some b92) 1 1 (([UInt8.ofNat t.cs.len]).map V8) 5 1, .own a104 9 c105 ((cavB e101).map V8) 5 1]) := H
          refine l_op (o_val (r_as) ?_)
          first | refine l_end ?_ | refine l_nil ?_
          repeat refine c_seq ?_
          refine c_region ?_
          refine l_op (o_val (r_mv) ?_)
          refine l_op (o_val (r_bin (a := (i : Int)) (b := 1) rfl rfl (fun _ => b_add (by omega) (by omega))) ?_)
          refine l_op (o_val (r_as) ?_)
          first | refine l_end ?_ | refine l_nil ?_
          rw [List.append_assoc, cavsB_succ t.cs.l i e101 he102] at H
          refine round_end (i + 1, a106, ln + 9, c107) ?_ ?_ ?_
          · exact ⟨rfl, rfl, show VI ((i : Int) + 1) = VI ((i + 1 : Nat) : Int) from congrArg VI (by omega), trivial⟩
          · refine ⟨?_, ?_⟩
            · try dsimp only
              exact ⟨by omega, by omega⟩
            · exact H.sub (.cons_cons _ (.cons_cons _ (.cons_cons _ (.cons_cons _ (List.nil_sublist _)))))
          · show t.cs.len - (i + 1 : Nat) < t.cs.len - i; omega
        · skip
          repeat refine c_seq ?_
          refine c_no (by exact congrArg Value.bool (decide_eq_false hc97)) ?_
          refine c_exit ?_
          repeat refine c_seq ?_
          refine c_region ?_
          refine l_op (o_val (r_mv) ?_)
          refine l_op (o_val (r_fa rfl fo76_6) ?_)
          refine l_op (o_val (r_slAo (o := 6) (h := 32) (m := 32) (lv := none) (hv := none) (mv := none) rfl ar31 rfl rfl rfl (fun w => sbn w)) ?_)
          refine l_op (o_appB (s := (⟨some ⟨b1, 6, none⟩, 32, 32, t.tag⟩ : Sl)) (l' := [1] ++ t.head ++ [UInt8.ofNat t.cs.len] ++ cavsB (t.cs.l.take i) ++ t.tag) (len' := ln + 32) rfl rfl H (i := 2) rfl sl29 Try.underlying29 rfl rfl (H.slTail (i := 0) (o := 6) (pre := [V64 t.serial, .string ⟨(t.tenant).toArray⟩, V8 t.rights, VI t.from_, VI t.until_, t.cs.v]) rfl rfl (show (t.tag).length = 32 from htag) (by decide)) (by omega) (fun a108 c109 w H => ?_))
          replace H : Hp w0 w [] ([.blk b1 ([V64 t.serial, .string ⟨(t.tenant).toArray⟩, V8 t.rights, VI t.from_, VI t.until_, t.cs.v] ++ (t.tag).map V8) 76, .own a68 n69 c70 ((t.head).map V8) 5 1, .own a108 (ln + 32) c109 (([1] ++ t.head ++ [UInt8.ofNat t.cs.len] ++ cavsB (t.cs.l.take i) ++ t.tag).map V8) 5 1, .own (some b92) 1 1 (([UInt8.ofNat t.cs.len]).map V8) 5 1]) := H
          refine l_op (o_val (r_as) ?_)
          refine l_op (o_val (r_as) ?_)
          first | refine l_end ?_ | refine l_nil ?_
          refine c_ret ?_
          try dsimp only [Exit.then, Exit.inBlock]
          refine e_retN (vs := [.slice (hd a108) (ln + 32) c109, VI 0]) _ Try.results82 rfl (resT (v := .slice (hd a108) (ln + 32) c109) rfl (resT (v := VI 0) rfl (resZ))) ?_
          refine ⟨_, rfl, ?_⟩
          have hi2 : i = t.cs.len := by omega
          refine ⟨_, _, _, rfl, by omega, ?_⟩
          rw [List.take_of_length_le (by have := hc.ln; omega)] at H
          exact H.sub (.cons _ (.cons _ (.cons_cons _ (List.nil_sublist _))))
    · skip
      refine (o_bslB ([UInt8.ofNat t.cs.len]) H sl29 zc5 rfl rfl (by decide) (fun b110 w H hb110 => ?_))
      replace H : Hp w0 w [] ([.blk b1 ([V64 t.serial, .string ⟨(t.tenant).toArray⟩, V8 t.rights, VI t.from_, VI t.until_, t.cs.v] ++ (t.tag).map V8) 76, .own a68 n69 c70 ((t.head).map V8) 5 1, .own (some b110) 1 1 (([UInt8.ofNat t.cs.len]).map V8) 5 1]) := H
      refine ⟨H.sub (.cons_cons _ (List.nil_sublist _)), ?_⟩
      replace HS := H.sub (.cons_cons _ (List.nil_sublist _))
      refine t_step 0 rfl (by kernel_rfl) (o_bslB ([(1 : UInt8)]) H sl29 zc5 rfl rfl (by decide) (fun b111 w H hb111 => ?_))
      replace H : Hp w0 w [] ([.blk b1 ([V64 t.serial, .string ⟨(t.tenant).toArray⟩, V8 t.rights, VI t.from_, VI t.until_, t.cs.v] ++ (t.tag).map V8) 76, .own a68 n69 c70 ((t.head).map V8) 5 1, .own (some b110) 1 1 (([UInt8.ofNat t.cs.len]).map V8) 5 1, .own (some b111) 1 1 (([(1 : UInt8)]).map V8) 5 1]) := H
      refine ⟨H.sub (.cons_cons _ (List.nil_sublist _)), ?_⟩
      replace HS := H.sub (.cons_cons _ (List.nil_sublist _))
      refine t_step 3 rfl (by kernel_rfl) (o_appB (s := ⟨hd a68, n69, c70, t.head⟩) (l' := [(1 : UInt8)] ++ t.head) (len' := 1 + n69) rfl rfl H (i := 3) rfl sl29 Try.underlying29 rfl rfl (H.slOwn (i := 1) rfl) (by omega) (fun a112 c113 w H => ?_))
      replace H : Hp w0 w [] ([.blk b1 ([V64 t.serial, .string ⟨(t.tenant).toArray⟩, V8 t.rights, VI t.from_, VI t.until_, t.cs.v] ++ (t.tag).map V8) 76, .own a68 n69 c70 ((t.head).map V8) 5 1, .own (some b110) 1 1 (([UInt8.ofNat t.cs.len]).map V8) 5 1, .own a112 (1 + n69) c113 (([(1 : UInt8)] ++ t.head).map V8) 5 1]) := H
      refine ⟨H.sub (.cons_cons _ (List.nil_sublist _)), ?_⟩
      replace HS := H.sub (.cons_cons _ (List.nil_sublist _))
      refine t_step 9 rfl (by kernel_rfl) (o_appB (s := ⟨hd (some b110), 1, 1, [UInt8.ofNat t.cs.len]⟩) (l' := [(1 : UInt8)] ++ t.head ++ ([UInt8.ofNat t.cs.len])) (len' := 1 + n69 + 1) rfl rfl H (i := 3) rfl sl29 Try.underlying29 rfl rfl (H.slOwn (i := 2) rfl) (by omega) (fun a114 c115 w H => ?_))
      replace H : Hp w0 w [] ([.blk b1 ([V64 t.serial, .string ⟨(t.tenant).toArray⟩, V8 t.rights, VI t.from_, VI t.until_, t.cs.v] ++ (t.tag).map V8) 76, .own a68 n69 c70 ((t.head).map V8) 5 1, .own (some b110) 1 1 (([UInt8.ofNat t.cs.len]).map V8) 5 1, .own a114 (1 + n69 + 1) c115 (([(1 : UInt8)] ++ t.head ++ ([UInt8.ofNat t.cs.len])).map V8) 5 1]) := H
      refine ⟨H.sub (.cons_cons _ (List.nil_sublist _)), ?_⟩
      replace HS := H.sub (.cons_cons _ (List.nil_sublist _))
      refine t_take 10 rfl (by kernel_rfl) (by kernel_rfl) (by kernel_rfl) (fun _ _ _ h => h) (fun w HS => r_as) HS ?_
      refine t_done (by kernel_rfl) ?_
      clear HS
      repeat refine c_seq ?_
      refine c_region ?_
      refine l_op (o_val (r_as) ?_)
      first | refine l_end ?_ | refine l_nil ?_
      repeat refine c_seq ?_
      refine c_block ?_
      repeat refine c_seq ?_
      refine c_loop4 (fun (i : Nat) (a : Option Nat) (ln : Nat) (k : Nat) => [(1, .pointer (some ⟨b1, 0, none⟩)), (4, .slice (hd a) ln k), (5, VI (i : Int))])
        (fun (i : Nat) (a : Option Nat) (ln : Nat) (k : Nat) w => (i ≤ t.cs.len ∧ ln ≤ t.tenant.length + 66 + 9 * i) ∧ Hp w0 w [] ([.blk b1 ([V64 t.serial, .string ⟨(t.tenant).toArray⟩, V8 t.rights, VI t.from_, VI t.until_, t.cs.v] ++ (t.tag).map V8) 76, .own a68 n69 c70 ((t.head).map V8) 5 1, .own (some b110) 1 1 (([UInt8.ofNat t.cs.len]).map V8) 5 1, .own a ln k (([1] ++ t.head ++ [UInt8.ofNat t.cs.len] ++ cavsB (t.cs.l.take i)).map V8) 5 1]))
        (fun (i : Nat) (a : Option Nat) (ln : Nat) (k : Nat) => t.cs.len - i) 0 a114 (1 + n69 + 1) c115 ⟨rfl, rfl, rfl, trivial⟩ ⟨⟨Nat.zero_le _, by omega⟩, (by rw [show cavsB (t.cs.l.take 0) = [] from rfl, List.append_nil]; exact H)⟩ ?_
      clear H
      rintro i a ln k τ w ⟨⟨hi, hln⟩, H⟩
      repeat refine c_seq ?_
      refine c_region ?_
      refine l_op (o_val (r_mv) ?_)
      refine l_op (o_val (r_fa rfl fo76_5) ?_)
      refine l_op (o_val (r_ld (v := t.cs.v) H (i := 0) rfl rfl ct74 rfl) ?_)
      refine l_op (o_val (r_lens el74 rfl) ?_)
      refine l_op (o_val (r_bin (a := (i : Int)) (b := (t.cs.len : Int)) rfl rfl (fun _ => b_lss)) ?_)
      first | refine l_end ?_ | refine l_nil ?_
      by_cases hc116 : (i : Int) < (t.cs.len : Int)
      · skip
        repeat refine c_seq ?_
        refine c_yes (by exact congrArg Value.bool (decide_eq_true hc116)) ?_
        refine c_skip ?_
        repeat refine c_seq ?_
        refine c_block ?_
        repeat refine c_seq ?_
        refine c_region ?_
        refine l_op (o_val (r_mv) ?_)
        refine l_op (o_val (r_fa rfl fo76_5) ?_)
        refine l_op (o_val (r_ld (v := t.cs.v) H (i := 0) rfl rfl ct74 rfl) ?_)
        refine l_op (o_val (r_mv) ?_)
        have ah119 := ((hc.up H)).addr (by decide) (by omega)
        obtain ⟨ab117, ao118, ah119⟩ := ah119
        refine l_op (o_val (r_isN i rfl rfl el74 ah119 (by omega) (by (try simp only [Sl.cut]); omega)) ?_)
        have he121 : ∃ c, t.cs.l[i]? = some c := ⟨_, List.getElem?_eq_getElem (by have := ((hc.up H)).ln; omega)⟩
        obtain ⟨e120, he121⟩ := he121
        have hez122 := ((hc.up H)).sz e120 (List.mem_of_getElem? he121)
        refine l_op (o_val (r_ldRow (s := t.cs) (k := i) (hc.up H) ah119 rfl rt78 (by decide) he121) ?_)
        refine l_op (o_callR Try.func120 rfl rfl rfl (caveat14_ret _ e120 (hb.cs _ (List.mem_of_getElem? (by assumption)))) ?_)
        rintro _ w ⟨a123, c124, rfl, Hc⟩
        replace H : Hp w0 w [] ([.blk b1 ([V64 t.serial, .string ⟨(t.tenant).toArray⟩, V8 t.rights, VI t.from_, VI t.until_, t.cs.v] ++ (t.tag).map V8) 76, .own a68 n69 c70 ((t.head).map V8) 5 1, .own (some b110) 1 1 (([UInt8.ofNat t.cs.len]).map V8) 5 1, .own a ln k (([1] ++ t.head ++ [UInt8.ofNat t.cs.len] ++ cavsB (t.cs.l.take i)).map V8) 5 1, .own a123 9 c124 ((cavB e120).map V8) 5 1]) := H.call Hc
        clear Hc
        refine l_op (o_appB (s := ⟨hd a123, 9, c124, cavB e120⟩) (l' := [1] ++ t.head ++ [UInt8.ofNat t.cs.len] ++ cavsB (t.cs.l.take i) ++ (cavB e120)) (len' := ln + 9) rfl rfl H (i := 3) rfl sl29 Try.underlying29 rfl rfl (H.slOwn (i := 4) rfl) (by omega) (fun a125 c126 w H => ?_))
        replace H : Hp w0 w [] ([.blk b1 ([V64 t.serial, .string ⟨(t.tenant).toArray⟩, V8 t.rights, VI t.from_, VI t.until_, t.cs.v] ++ (t.tag).map V8) 76, .own a68 n69 c70 ((t.head).map V8) 5 1, .own (some b110) 1 1 (([UInt8.ofNat t.cs.len]).map V8) 5 1, .own a125 (ln + 9) c126 (([1] ++ t.head ++ [UInt8.ofNat t.cs.len] ++ cavsB (t.cs.l.take i) ++ (cavB e120)).map V8) 5 1, .own a123 9 c124 ((cavB e120).map V8) 5 1]) := H
        refine l_op (o_val (r_as) ?_)
        first | refine l_end ?_ | refine l_nil ?_
        repeat refine c_seq ?_
        refine c_region ?_
        refine l_op (o_val (r_mv) ?_)
        refine l_op (o_val (r_bin (a := (i : Int)) (b := 1) rfl rfl (fun _ => b_add (by omega) (by omega))) ?_)
        refine l_op (o_val (r_as) ?_)
        first | refine l_end ?_ | refine l_nil ?_
        rw [List.append_assoc, cavsB_succ t.cs.l i e120 he121] at H
        refine round_end (i + 1, a125, ln + 9, c126) ?_ ?_ ?_
        · exact ⟨rfl, rfl, show VI ((i : Int) + 1) = VI ((i + 1 : Nat) : Int) from congrArg VI (by omega), trivial⟩
        · refine ⟨?_, ?_⟩
          · try dsimp only
            exact ⟨by omega, by omega⟩
          · exact H.sub (.cons_cons _ (.cons_cons _ (.cons_cons _ (.cons_cons _ (List.nil_sublist _)))))
        · show t.cs.len - (i + 1 : Nat) < t.cs.len - i; omega
      · skip
        repeat refine c_seq ?_
        refine c_no (by exact congrArg Value.bool (decide_eq_false hc116)) ?_
        refine c_exit ?_
        repeat refine c_seq ?_
        refine c_region ?_
        refine l_op (o_val (r_mv) ?_)
        refine l_op (o_val (r_fa rfl fo76_6) ?_)
        refine l_op (o_val (r_slAo (o := 6) (h := 32) (m := 32) (lv := none) (hv := none) (mv := none) rfl ar31 rfl rfl rfl (fun w => sbn w)) ?_)
        refine l_op (o_appB (s := (⟨some ⟨b1, 6, none⟩, 32, 32, t.tag⟩ : Sl)) (l' := [1] ++ t.head ++ [UInt8.ofNat t.cs.len] ++ cavsB (t.cs.l.take i) ++ t.tag) (len' := ln + 32) rfl rfl H (i := 3) rfl sl29 Try.underlying29 rfl rfl (H.slTail (i := 0) (o := 6) (pre := [V64 t.serial, .string ⟨(t.tenant).toArray⟩, V8 t.rights, VI t.from_, VI t.until_, t.cs.v]) rfl rfl (show (t.tag).length = 32 from htag) (by decide)) (by omega) (fun a127 c128 w H => ?_))
        replace H : Hp w0 w [] ([.blk b1 ([V64 t.serial, .string ⟨(t.tenant).toArray⟩, V8 t.rights, VI t.from_, VI t.until_, t.cs.v] ++ (t.tag).map V8) 76, .own a68 n69 c70 ((t.head).map V8) 5 1, .own (some b110) 1 1 (([UInt8.ofNat t.cs.len]).map V8) 5 1, .own a127 (ln + 32) c128 (([1] ++ t.head ++ [UInt8.ofNat t.cs.len] ++ cavsB (t.cs.l.take i) ++ t.tag).map V8) 5 1]) := H
        refine l_op (o_val (r_as) ?_)
        refine l_op (o_val (r_as) ?_)
        first | refine l_end ?_ | refine l_nil ?_
        refine c_ret ?_
        try dsimp only [Exit.then, Exit.inBlock]
        refine e_retN (vs := [.slice (hd a127) (ln + 32) c128, VI 0]) _ Try.results82 rfl (resT (v := .slice (hd a127) (ln + 32) c128) rfl (resT (v := VI 0) rfl (resZ))) ?_
        refine ⟨_, rfl, ?_⟩
        have hi2 : i = t.cs.len := by omega
        refine ⟨_, _, _, rfl, by omega, ?_⟩
        rw [List.take_of_length_le (by have := hc.ln; omega)] at H
        exact H.sub (.cons _ (.cons _ (.cons _ (.cons_cons _ (List.nil_sublist _)))))
  · skip
    refine (o_bslB ([UInt8.ofNat t.cs.len]) H sl29 zc5 rfl rfl (by decide) (fun b129 w H hb129 => ?_))
    replace H : Hp w0 w [] ([.blk b1 ([V64 t.serial, .string ⟨(t.tenant).toArray⟩, V8 t.rights, VI t.from_, VI t.until_, t.cs.v] ++ (t.tag).map V8) 76, .own (some b129) 1 1 (([UInt8.ofNat t.cs.len]).map V8) 5 1]) := H
    refine ⟨H.sub (.cons_cons _ (List.nil_sublist _)), ?_⟩
    replace HS := H.sub (.cons_cons _ (List.nil_sublist _))
    refine t_all [0, 2] (by kernel_rfl) (by simp) (all_cons (w_op 0 rfl ?_) (all_cons (w_op 2 rfl ?_) (all_nil)))
    · skip
      refine (o_bslB ([(1 : UInt8)]) H sl29 zc5 rfl rfl (by decide) (fun b130 w H hb130 => ?_))
      replace H : Hp w0 w [] ([.blk b1 ([V64 t.serial, .string ⟨(t.tenant).toArray⟩, V8 t.rights, VI t.from_, VI t.until_, t.cs.v] ++ (t.tag).map V8) 76, .own (some b129) 1 1 (([UInt8.ofNat t.cs.len]).map V8) 5 1, .own (some b130) 1 1 (([(1 : UInt8)]).map V8) 5 1]) := H
      refine ⟨H.sub (.cons_cons _ (List.nil_sublist _)), ?_⟩
      replace HS := H.sub (.cons_cons _ (List.nil_sublist _))
      refine t_step 2 rfl (by kernel_rfl) (o_callR Try.func126 rfl rfl rfl (head14_ret _ t (hc.up H) (show (t.tag).length = 32 from htag) (by first | omega | (dsimp only; omega) | simp) hb) ?_)
      rintro _ w ⟨a131, n132, c133, rfl, hn134, hh135, Hc⟩
      replace H : Hp w0 w [] ([.blk b1 ([V64 t.serial, .string ⟨(t.tenant).toArray⟩, V8 t.rights, VI t.from_, VI t.until_, t.cs.v] ++ (t.tag).map V8) 76, .own (some b129) 1 1 (([UInt8.ofNat t.cs.len]).map V8) 5 1, .own (some b130) 1 1 (([(1 : UInt8)]).map V8) 5 1, .own a131 n132 c133 ((t.head).map V8) 5 1]) := H.call Hc
      clear Hc
      try dsimp only at hn134
      refine ⟨H.sub (.cons_cons _ (List.nil_sublist _)), ?_⟩
      replace HS := H.sub (.cons_cons _ (List.nil_sublist _))
      refine t_step 3 rfl (by kernel_rfl) (o_appB (s := ⟨hd a131, n132, c133, t.head⟩) (l' := [(1 : UInt8)] ++ t.head) (len' := 1 + n132) rfl rfl H (i := 2) rfl sl29 Try.underlying29 rfl rfl (H.slOwn (i := 3) rfl) (by omega) (fun a136 c137 w H => ?_))
      replace H : Hp w0 w [] ([.blk b1 ([V64 t.serial, .string ⟨(t.tenant).toArray⟩, V8 t.rights, VI t.from_, VI t.until_, t.cs.v] ++ (t.tag).map V8) 76, .own (some b129) 1 1 (([UInt8.ofNat t.cs.len]).map V8) 5 1, .own a136 (1 + n132) c137 (([(1 : UInt8)] ++ t.head).map V8) 5 1, .own a131 n132 c133 ((t.head).map V8) 5 1]) := H
      refine ⟨H.sub (.cons_cons _ (List.nil_sublist _)), ?_⟩
      replace HS := H.sub (.cons_cons _ (List.nil_sublist _))
      refine t_step 9 rfl (by kernel_rfl) (o_appB (s := ⟨hd (some b129), 1, 1, [UInt8.ofNat t.cs.len]⟩) (l' := [(1 : UInt8)] ++ t.head ++ ([UInt8.ofNat t.cs.len])) (len' := 1 + n132 + 1) rfl rfl H (i := 2) rfl sl29 Try.underlying29 rfl rfl (H.slOwn (i := 1) rfl) (by omega) (fun a138 c139 w H => ?_))
      replace H : Hp w0 w [] ([.blk b1 ([V64 t.serial, .string ⟨(t.tenant).toArray⟩, V8 t.rights, VI t.from_, VI t.until_, t.cs.v] ++ (t.tag).map V8) 76, .own (some b129) 1 1 (([UInt8.ofNat t.cs.len]).map V8) 5 1, .own a138 (1 + n132 + 1) c139 (([(1 : UInt8)] ++ t.head ++ ([UInt8.ofNat t.cs.len])).map V8) 5 1, .own a131 n132 c133 ((t.head).map V8) 5 1]) := H
      refine ⟨H.sub (.cons_cons _ (List.nil_sublist _)), ?_⟩
      replace HS := H.sub (.cons_cons _ (List.nil_sublist _))
      refine t_take 10 rfl (by kernel_rfl) (by kernel_rfl) (by kernel_rfl) (fun _ _ _ h => h) (fun w HS => r_as) HS ?_
      refine t_done (by kernel_rfl) ?_
      clear HS
      repeat refine c_seq ?_
      refine c_region ?_
      refine l_op (o_val (r_as) ?_)
      first | refine l_end ?_ | refine l_nil ?_
      repeat refine c_seq ?_
      refine c_block ?_
      repeat refine c_seq ?_
      refine c_loop4 (fun (i : Nat) (a : Option Nat) (ln : Nat) (k : Nat) => [(1, .pointer (some ⟨b1, 0, none⟩)), (4, .slice (hd a) ln k), (5, VI (i : Int))])
        (fun (i : Nat) (a : Option Nat) (ln : Nat) (k : Nat) w => (i ≤ t.cs.len ∧ ln ≤ t.tenant.length + 66 + 9 * i) ∧ Hp w0 w [] ([.blk b1 ([V64 t.serial, .string ⟨(t.tenant).toArray⟩, V8 t.rights, VI t.from_, VI t.until_, t.cs.v] ++ (t.tag).map V8) 76, .own (some b129) 1 1 (([UInt8.ofNat t.cs.len]).map V8) 5 1, .own a ln k (([1] ++ t.head ++ [UInt8.ofNat t.cs.len] ++ cavsB (t.cs.l.take i)).map V8) 5 1, .own a131 n132 c133 ((t.head).map V8) 5 1]))
        (fun (i : Nat) (a : Option Nat) (ln : Nat) (k : Nat) => t.cs.len - i) 0 a138 (1 + n132 + 1) c139 ⟨rfl, rfl, rfl, trivial⟩ ⟨⟨Nat.zero_le _, by omega⟩, (by rw [show cavsB (t.cs.l.take 0) = [] from rfl, List.append_nil]; exact H)⟩ ?_
      clear H
      rintro i a ln k τ w ⟨⟨hi, hln⟩, H⟩
      repeat refine c_seq ?_
      refine c_region ?_
      refine l_op (o_val (r_mv) ?_)
      refine l_op (o_val (r_fa rfl fo76_5) ?_)
      refine l_op (o_val (r_ld (v := t.cs.v) H (i := 0) rfl rfl ct74 rfl) ?_)
      refine l_op (o_val (r_lens el74 rfl) ?_)
      refine l_op (o_val (r_bin (a := (i : Int)) (b := (t.cs.len : Int)) rfl rfl (fun _ => b_lss)) ?_)
      first | refine l_end ?_ | refine l_nil ?_
      by_cases hc140 : (i : Int) < (t.cs.len : Int)
      · skip
        repeat refine c_seq ?_
        refine c_yes (by exact congrArg Value.bool (decide_eq_true hc140)) ?_
        refine c_skip ?_
        repeat refine c_seq ?_
        refine c_block ?_
        repeat refine c_seq ?_
        refine c_region ?_
        refine l_op (o_val (r_mv) ?_)
        refine l_op (o_val (r_fa rfl fo76_5) ?_)
        refine l_op (o_val (r_ld (v := t.cs.v) H (i := 0) rfl rfl ct74 rfl) ?_)
        refine l_op (o_val (r_mv) ?_)
        have ah143 := ((hc.up H)).addr (by decide) (by omega)
        obtain ⟨ab141, ao142, ah143⟩ := ah143
        refine l_op (o_val (r_isN i rfl rfl el74 ah143 (by omega) (by (try simp only [Sl.cut]); omega)) ?_)
        have he145 : ∃ c, t.cs.l[i]? = some c := ⟨_, List.getElem?_eq_getElem (by have := ((hc.up H)).ln; omega)⟩
        obtain ⟨e144, he145⟩ := he145
        have hez146 := ((hc.up H)).sz e144 (List.mem_of_getElem? he145)
        refine l_op (o_val (r_ldRow (s := t.cs) (k := i) (hc.up H) ah143 rfl rt78 (by decide) he145) ?_)
        refine l_op (o_callR Try.func120 rfl rfl rfl (caveat14_ret _ e144 (hb.cs _ (List.mem_of_getElem? (by assumption)))) ?_)
        rintro _ w ⟨a147, c148, rfl, Hc⟩
        replace H : Hp w0 w [] ([.blk b1 ([V64 t.serial, .string ⟨(t.tenant).toArray⟩, V8 t.rights, VI t.from_, VI t.until_, t.cs.v] ++ (t.tag).map V8) 76, .own (some b129) 1 1 (([UInt8.ofNat t.cs.len]).map V8) 5 1, .own a ln k (([1] ++ t.head ++ [UInt8.ofNat t.cs.len] ++ cavsB (t.cs.l.take i)).map V8) 5 1, .own a131 n132 c133 ((t.head).map V8) 5 1, .own a147 9 c148 ((cavB e144).map V8) 5 1]) := H.call Hc
        clear Hc
        refine l_op (o_appB (s := ⟨hd a147, 9, c148, cavB e144⟩) (l' := [1] ++ t.head ++ [UInt8.ofNat t.cs.len] ++ cavsB (t.cs.l.take i) ++ (cavB e144)) (len' := ln + 9) rfl rfl H (i := 2) rfl sl29 Try.underlying29 rfl rfl (H.slOwn (i := 4) rfl) (by omega) (fun a149 c150 w H => ?_))
        replace H : Hp w0 w [] ([.blk b1 ([V64 t.serial, .string ⟨(t.tenant).toArray⟩, V8 t.rights, VI t.from_, VI t.until_, t.cs.v] ++ (t.tag).map V8) 76, .own (some b129) 1 1 (([UInt8.ofNat t.cs.len]).map V8) 5 1, .own a149 (ln + 9) c150 (([1] ++ t.head ++ [UInt8.ofNat t.cs.len] ++ cavsB (t.cs.l.take i) ++ (cavB e144)).map V8) 5 1, .own a131 n132 c133 ((t.head).map V8) 5 1, .own a147 9 c148 ((cavB e144).map V8) 5 1]) := H
        refine l_op (o_val (r_as) ?_)
        first | refine l_end ?_ | refine l_nil ?_
        repeat refine c_seq ?_
        refine c_region ?_
        refine l_op (o_val (r_mv) ?_)
        refine l_op (o_val (r_bin (a := (i : Int)) (b := 1) rfl rfl (fun _ => b_add (by omega) (by omega))) ?_)
        refine l_op (o_val (r_as) ?_)
        first | refine l_end ?_ | refine l_nil ?_
        rw [List.append_assoc, cavsB_succ t.cs.l i e144 he145] at H
        refine round_end (i + 1, a149, ln + 9, c150) ?_ ?_ ?_
        · exact ⟨rfl, rfl, show VI ((i : Int) + 1) = VI ((i + 1 : Nat) : Int) from congrArg VI (by omega), trivial⟩
        · refine ⟨?_, ?_⟩
          · try dsimp only
            exact ⟨by omega, by omega⟩
          · exact H.sub (.cons_cons _ (.cons_cons _ (.cons_cons _ (.cons_cons _ (List.nil_sublist _)))))
        · show t.cs.len - (i + 1 : Nat) < t.cs.len - i; omega
      · skip
        repeat refine c_seq ?_
        refine c_no (by exact congrArg Value.bool (decide_eq_false hc140)) ?_
        refine c_exit ?_
        repeat refine c_seq ?_
        refine c_region ?_
        refine l_op (o_val (r_mv) ?_)
        refine l_op (o_val (r_fa rfl fo76_6) ?_)
        refine l_op (o_val (r_slAo (o := 6) (h := 32) (m := 32) (lv := none) (hv := none) (mv := none) rfl ar31 rfl rfl rfl (fun w => sbn w)) ?_)
        refine l_op (o_appB (s := (⟨some ⟨b1, 6, none⟩, 32, 32, t.tag⟩ : Sl)) (l' := [1] ++ t.head ++ [UInt8.ofNat t.cs.len] ++ cavsB (t.cs.l.take i) ++ t.tag) (len' := ln + 32) rfl rfl H (i := 2) rfl sl29 Try.underlying29 rfl rfl (H.slTail (i := 0) (o := 6) (pre := [V64 t.serial, .string ⟨(t.tenant).toArray⟩, V8 t.rights, VI t.from_, VI t.until_, t.cs.v]) rfl rfl (show (t.tag).length = 32 from htag) (by decide)) (by omega) (fun a151 c152 w H => ?_))
        replace H : Hp w0 w [] ([.blk b1 ([V64 t.serial, .string ⟨(t.tenant).toArray⟩, V8 t.rights, VI t.from_, VI t.until_, t.cs.v] ++ (t.tag).map V8) 76, .own (some b129) 1 1 (([UInt8.ofNat t.cs.len]).map V8) 5 1, .own a151 (ln + 32) c152 (([1] ++ t.head ++ [UInt8.ofNat t.cs.len] ++ cavsB (t.cs.l.take i) ++ t.tag).map V8) 5 1, .own a131 n132 c133 ((t.head).map V8) 5 1]) := H
        refine l_op (o_val (r_as) ?_)
        refine l_op (o_val (r_as) ?_)
        first | refine l_end ?_ | refine l_nil ?_
        refine c_ret ?_
        try dsimp only [Exit.then, Exit.inBlock]
        refine e_retN (vs := [.slice (hd a151) (ln + 32) c152, VI 0]) _ Try.results82 rfl (resT (v := .slice (hd a151) (ln + 32) c152) rfl (resT (v := VI 0) rfl (resZ))) ?_
        refine ⟨_, rfl, ?_⟩
        have hi2 : i = t.cs.len := by omega
        refine ⟨_, _, _, rfl, by omega, ?_⟩
        rw [List.take_of_length_le (by have := hc.ln; omega)] at H
        exact H.sub (.cons _ (.cons _ (.cons_cons _ (List.nil_sublist _))))
    · skip
      refine (o_callR Try.func126 rfl rfl rfl (head14_ret _ t (hc.up H) (show (t.tag).length = 32 from htag) (by first | omega | (dsimp only; omega) | simp) hb) ?_)
      rintro _ w ⟨a153, n154, c155, rfl, hn156, hh157, Hc⟩
      replace H : Hp w0 w [] ([.blk b1 ([V64 t.serial, .string ⟨(t.tenant).toArray⟩, V8 t.rights, VI t.from_, VI t.until_, t.cs.v] ++ (t.tag).map V8) 76, .own (some b129) 1 1 (([UInt8.ofNat t.cs.len]).map V8) 5 1, .own a153 n154 c155 ((t.head).map V8) 5 1]) := H.call Hc
      clear Hc
      try dsimp only at hn156
      refine ⟨H.sub (.cons_cons _ (List.nil_sublist _)), ?_⟩
      replace HS := H.sub (.cons_cons _ (List.nil_sublist _))
      refine t_step 0 rfl (by kernel_rfl) (o_bslB ([(1 : UInt8)]) H sl29 zc5 rfl rfl (by decide) (fun b158 w H hb158 => ?_))
      replace H : Hp w0 w [] ([.blk b1 ([V64 t.serial, .string ⟨(t.tenant).toArray⟩, V8 t.rights, VI t.from_, VI t.until_, t.cs.v] ++ (t.tag).map V8) 76, .own (some b129) 1 1 (([UInt8.ofNat t.cs.len]).map V8) 5 1, .own a153 n154 c155 ((t.head).map V8) 5 1, .own (some b158) 1 1 (([(1 : UInt8)]).map V8) 5 1]) := H
      refine ⟨H.sub (.cons_cons _ (List.nil_sublist _)), ?_⟩
      replace HS := H.sub (.cons_cons _ (List.nil_sublist _))
      refine t_step 3 rfl (by kernel_rfl) (o_appB (s := ⟨hd a153, n154, c155, t.head⟩) (l' := [(1 : UInt8)] ++ t.head) (len' := 1 + n154) rfl rfl H (i := 3) rfl sl29 Try.underlying29 rfl rfl (H.slOwn (i := 2) rfl) (by omega) (fun a159 c160 w H => ?_))
      replace H : Hp w0 w [] ([.blk b1 ([V64 t.serial, .string ⟨(t.tenant).toArray⟩, V8 t.rights, VI t.from_, VI t.until_, t.cs.v] ++ (t.tag).map V8) 76, .own (some b129) 1 1 (([UInt8.ofNat t.cs.len]).map V8) 5 1, .own a153 n154 c155 ((t.head).map V8) 5 1, .own a159 (1 + n154) c160 (([(1 : UInt8)] ++ t.head).map V8) 5 1]) := H
      refine ⟨H.sub (.cons_cons _ (List.nil_sublist _)), ?_⟩
      replace HS := H.sub (.cons_cons _ (List.nil_sublist _))
      refine t_step 9 rfl (by kernel_rfl) (o_appB (s := ⟨hd (some b129), 1, 1, [UInt8.ofNat t.cs.len]⟩) (l' := [(1 : UInt8)] ++ t.head ++ ([UInt8.ofNat t.cs.len])) (len' := 1 + n154 + 1) rfl rfl H (i := 3) rfl sl29 Try.underlying29 rfl rfl (H.slOwn (i := 1) rfl) (by omega) (fun a161 c162 w H => ?_))
      replace H : Hp w0 w [] ([.blk b1 ([V64 t.serial, .string ⟨(t.tenant).toArray⟩, V8 t.rights, VI t.from_, VI t.until_, t.cs.v] ++ (t.tag).map V8) 76, .own (some b129) 1 1 (([UInt8.ofNat t.cs.len]).map V8) 5 1, .own a153 n154 c155 ((t.head).map V8) 5 1, .own a161 (1 + n154 + 1) c162 (([(1 : UInt8)] ++ t.head ++ ([UInt8.ofNat t.cs.len])).map V8) 5 1]) := H
      refine ⟨H.sub (.cons_cons _ (List.nil_sublist _)), ?_⟩
      replace HS := H.sub (.cons_cons _ (List.nil_sublist _))
      refine t_take 10 rfl (by kernel_rfl) (by kernel_rfl) (by kernel_rfl) (fun _ _ _ h => h) (fun w HS => r_as) HS ?_
      refine t_done (by kernel_rfl) ?_
      clear HS
      repeat refine c_seq ?_
      refine c_region ?_
      refine l_op (o_val (r_as) ?_)
      first | refine l_end ?_ | refine l_nil ?_
      repeat refine c_seq ?_
      refine c_block ?_
      repeat refine c_seq ?_
      refine c_loop4 (fun (i : Nat) (a : Option Nat) (ln : Nat) (k : Nat) => [(1, .pointer (some ⟨b1, 0, none⟩)), (4, .slice (hd a) ln k), (5, VI (i : Int))])
        (fun (i : Nat) (a : Option Nat) (ln : Nat) (k : Nat) w => (i ≤ t.cs.len ∧ ln ≤ t.tenant.length + 66 + 9 * i) ∧ Hp w0 w [] ([.blk b1 ([V64 t.serial, .string ⟨(t.tenant).toArray⟩, V8 t.rights, VI t.from_, VI t.until_, t.cs.v] ++ (t.tag).map V8) 76, .own (some b129) 1 1 (([UInt8.ofNat t.cs.len]).map V8) 5 1, .own a153 n154 c155 ((t.head).map V8) 5 1, .own a ln k (([1] ++ t.head ++ [UInt8.ofNat t.cs.len] ++ cavsB (t.cs.l.take i)).map V8) 5 1]))
        (fun (i : Nat) (a : Option Nat) (ln : Nat) (k : Nat) => t.cs.len - i) 0 a161 (1 + n154 + 1) c162 ⟨rfl, rfl, rfl, trivial⟩ ⟨⟨Nat.zero_le _, by omega⟩, (by rw [show cavsB (t.cs.l.take 0) = [] from rfl, List.append_nil]; exact H)⟩ ?_
      clear H
      rintro i a ln k τ w ⟨⟨hi, hln⟩, H⟩
      repeat refine c_seq ?_
      refine c_region ?_
      refine l_op (o_val (r_mv) ?_)
      refine l_op (o_val (r_fa rfl fo76_5) ?_)
      refine l_op (o_val (r_ld (v := t.cs.v) H (i := 0) rfl rfl ct74 rfl) ?_)
      refine l_op (o_val (r_lens el74 rfl) ?_)
      refine l_op (o_val (r_bin (a := (i : Int)) (b := (t.cs.len : Int)) rfl rfl (fun _ => b_lss)) ?_)
      first | refine l_end ?_ | refine l_nil ?_
      by_cases hc163 : (i : Int) < (t.cs.len : Int)
      · skip
        repeat refine c_seq ?_
        refine c_yes (by exact congrArg Value.bool (decide_eq_true hc163)) ?_
        refine c_skip ?_
        repeat refine c_seq ?_
        refine c_block ?_
        repeat refine c_seq ?_
        refine c_region ?_
        refine l_op (o_val (r_mv) ?_)
        refine l_op (o_val (r_fa rfl fo76_5) ?_)
        refine l_op (o_val (r_ld (v := t.cs.v) H (i := 0) rfl rfl ct74 rfl) ?_)
        refine l_op (o_val (r_mv) ?_)
        have ah166 := ((hc.up H)).addr (by decide) (by omega)
        obtain ⟨ab164, ao165, ah166⟩ := ah166
        refine l_op (o_val (r_isN i rfl rfl el74 ah166 (by omega) (by (try simp only [Sl.cut]); omega)) ?_)
        have he168 : ∃ c, t.cs.l[i]? = some c := ⟨_, List.getElem?_eq_getElem (by have := ((hc.up H)).ln; omega)⟩
        obtain ⟨e167, he168⟩ := he168
        have hez169 := ((hc.up H)).sz e167 (List.mem_of_getElem? he168)
        refine l_op (o_val (r_ldRow (s := t.cs) (k := i) (hc.up H) ah166 rfl rt78 (by decide) he168) ?_)
        refine l_op (o_callR Try.func120 rfl rfl rfl (caveat14_ret _ e167 (hb.cs _ (List.mem_of_getElem? (by assumption)))) ?_)
        rintro _ w ⟨a170, c171, rfl, Hc⟩
        replace H : Hp w0 w [] ([.blk b1 ([V64 t.serial, .string ⟨(t.tenant).toArray⟩, V8 t.rights, VI t.from_, VI t.until_, t.cs.v] ++ (t.tag).map V8) 76, .own (some b129) 1 1 (([UInt8.ofNat t.cs.len]).map V8) 5 1, .own a153 n154 c155 ((t.head).map V8) 5 1, .own a ln k (([1] ++ t.head ++ [UInt8.ofNat t.cs.len] ++ cavsB (t.cs.l.take i)).map V8) 5 1, .own a170 9 c171 ((cavB e167).map V8) 5 1]) := H.call Hc
        clear Hc
        refine l_op (o_appB (s := ⟨hd a170, 9, c171, cavB e167⟩) (l' := [1] ++ t.head ++ [UInt8.ofNat t.cs.len] ++ cavsB (t.cs.l.take i) ++ (cavB e167)) (len' := ln + 9) rfl rfl H (i := 3) rfl sl29 Try.underlying29 rfl rfl (H.slOwn (i := 4) rfl) (by omega) (fun a172 c173 w H => ?_))
        replace H : Hp w0 w [] ([.blk b1 ([V64 t.serial, .string ⟨(t.tenant).toArray⟩, V8 t.rights, VI t.from_, VI t.until_, t.cs.v] ++ (t.tag).map V8) 76, .own (some b129) 1 1 (([UInt8.ofNat t.cs.len]).map V8) 5 1, .own a153 n154 c155 ((t.head).map V8) 5 1, .own a172 (ln + 9) c173 (([1] ++ t.head ++ [UInt8.ofNat t.cs.len] ++ cavsB (t.cs.l.take i) ++ (cavB e167)).map V8) 5 1, .own a170 9 c171 ((cavB e167).map V8) 5 1]) := H
        refine l_op (o_val (r_as) ?_)
        first | refine l_end ?_ | refine l_nil ?_
        repeat refine c_seq ?_
        refine c_region ?_
        refine l_op (o_val (r_mv) ?_)
        refine l_op (o_val (r_bin (a := (i : Int)) (b := 1) rfl rfl (fun _ => b_add (by omega) (by omega))) ?_)
        refine l_op (o_val (r_as) ?_)
        first | refine l_end ?_ | refine l_nil ?_
        rw [List.append_assoc, cavsB_succ t.cs.l i e167 he168] at H
        refine round_end (i + 1, a172, ln + 9, c173) ?_ ?_ ?_
        · exact ⟨rfl, rfl, show VI ((i : Int) + 1) = VI ((i + 1 : Nat) : Int) from congrArg VI (by omega), trivial⟩
        · refine ⟨?_, ?_⟩
          · try dsimp only
            exact ⟨by omega, by omega⟩
          · exact H.sub (.cons_cons _ (.cons_cons _ (.cons_cons _ (.cons_cons _ (List.nil_sublist _)))))
        · show t.cs.len - (i + 1 : Nat) < t.cs.len - i; omega
      · skip
        repeat refine c_seq ?_
        refine c_no (by exact congrArg Value.bool (decide_eq_false hc163)) ?_
        refine c_exit ?_
        repeat refine c_seq ?_
        refine c_region ?_
        refine l_op (o_val (r_mv) ?_)
        refine l_op (o_val (r_fa rfl fo76_6) ?_)
        refine l_op (o_val (r_slAo (o := 6) (h := 32) (m := 32) (lv := none) (hv := none) (mv := none) rfl ar31 rfl rfl rfl (fun w => sbn w)) ?_)
        refine l_op (o_appB (s := (⟨some ⟨b1, 6, none⟩, 32, 32, t.tag⟩ : Sl)) (l' := [1] ++ t.head ++ [UInt8.ofNat t.cs.len] ++ cavsB (t.cs.l.take i) ++ t.tag) (len' := ln + 32) rfl rfl H (i := 3) rfl sl29 Try.underlying29 rfl rfl (H.slTail (i := 0) (o := 6) (pre := [V64 t.serial, .string ⟨(t.tenant).toArray⟩, V8 t.rights, VI t.from_, VI t.until_, t.cs.v]) rfl rfl (show (t.tag).length = 32 from htag) (by decide)) (by omega) (fun a174 c175 w H => ?_))
        replace H : Hp w0 w [] ([.blk b1 ([V64 t.serial, .string ⟨(t.tenant).toArray⟩, V8 t.rights, VI t.from_, VI t.until_, t.cs.v] ++ (t.tag).map V8) 76, .own (some b129) 1 1 (([UInt8.ofNat t.cs.len]).map V8) 5 1, .own a153 n154 c155 ((t.head).map V8) 5 1, .own a174 (ln + 32) c175 (([1] ++ t.head ++ [UInt8.ofNat t.cs.len] ++ cavsB (t.cs.l.take i) ++ t.tag).map V8) 5 1]) := H
        refine l_op (o_val (r_as) ?_)
        refine l_op (o_val (r_as) ?_)
        first | refine l_end ?_ | refine l_nil ?_
        refine c_ret ?_
        try dsimp only [Exit.then, Exit.inBlock]
        refine e_retN (vs := [.slice (hd a174) (ln + 32) c175, VI 0]) _ Try.results82 rfl (resT (v := .slice (hd a174) (ln + 32) c175) rfl (resT (v := VI 0) rfl (resZ))) ?_
        refine ⟨_, rfl, ?_⟩
        have hi2 : i = t.cs.len := by omega
        refine ⟨_, _, _, rfl, by omega, ?_⟩
        rw [List.take_of_length_le (by have := hc.ln; omega)] at H
        exact H.sub (.cons _ (.cons _ (.cons _ (.cons_cons _ (List.nil_sublist _)))))
theorem bytes14_no (w0 : World) (t : Tok) (hc : t.cs.ok cavE 2 w0) (htag : t.tag.length = 32) (hn : t.tenant.length ≤ 65536) (hm : mayT t = false) :
    Ret Try.prog 82 [.agg ([V64 t.serial, .string ⟨(t.tenant).toArray⟩, V8 t.rights, VI t.from_, VI t.until_, t.cs.v] ++ (t.tag).map V8).toArray] w0 fun v w' => v = .tuple #[.slice none 0 0, VI 1] ∧ Hp w0 w' [] [] := by
  refine ret_mk Try.func82 rfl Try.ntmps82 (by simp) ?_
  have H := Hp.refl w0 []
  repeat refine c_seq ?_
  refine c_region ?_
  refine l_op (o_box (v := .agg ([V64 t.serial, .string ⟨(t.tenant).toArray⟩, V8 t.rights, VI t.from_, VI t.until_, t.cs.v] ++ (t.tag).map V8).toArray) H rfl (fun b1 w H hb1 => ?_))
  replace H : Hp w0 w [] ([.blk b1 ([V64 t.serial, .string ⟨(t.tenant).toArray⟩, V8 t.rights, VI t.from_, VI t.until_, t.cs.v] ++ (t.tag).map V8) 76]) := H
  refine l_op (o_val (r_as) ?_)
  refine l_op (o_val (r_as) ?_)
  first | refine l_end ?_ | refine l_nil ?_
  repeat refine c_seq ?_
  refine c_region ?_
  refine l_op (o_val (r_ldA (C := [V64 t.serial, .string ⟨(t.tenant).toArray⟩, V8 t.rights, VI t.from_, VI t.until_, t.cs.v] ++ (t.tag).map V8) H (i := 0) rfl rfl rt76 (by rw [List.length_append, List.length_map, (show (t.tag).length = 32 from htag)]; rfl)) ?_)
  refine l_op (o_callR Try.func76 rfl rfl rfl (may14_ret _ t (hc.up H) (show (t.tag).length = 32 from htag) (by first | omega | (dsimp only; omega) | simp)) ?_)
  rintro _ w ⟨rfl, Hc⟩
  replace H : Hp w0 w [] ([.blk b1 ([V64 t.serial, .string ⟨(t.tenant).toArray⟩, V8 t.rights, VI t.from_, VI t.until_, t.cs.v] ++ (t.tag).map V8) 76]) := H.call Hc
  clear Hc
  have hk2 : (mayT t) = false := hm
  refine l_op (o_val (r_not rfl) ?_)
  first | refine l_end ?_ | refine l_nil ?_
  repeat refine c_seq ?_
  refine c_yes (by exact congrArg Value.bool (congrArg not hk2)) ?_
  repeat refine c_seq ?_
  refine c_region ?_
  refine l_op (o_val (r_as) ?_)
  refine l_op (o_val (r_as) ?_)
  first | refine l_end ?_ | refine l_nil ?_
  refine c_ret ?_
  try dsimp only [Exit.then, Exit.inBlock]
  refine e_retN (vs := [.slice none 0 0, VI 1]) _ Try.results82 rfl (resT (v := .slice none 0 0) rfl (resT (v := VI 1) rfl (resZ))) ?_
  refine ⟨_, rfl, ?_⟩
  exact ⟨rfl, H.sub (List.nil_sublist _)⟩
end Go.Proofs.Ytjmbbhnpfmblpaa
