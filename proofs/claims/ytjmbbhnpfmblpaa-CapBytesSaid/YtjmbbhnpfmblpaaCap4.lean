import Derived.Test.YtjmbbhnpfmblpaaCap3
/- cap: Bytes. -/
namespace Go.Proofs.Ytjmbbhnpfmblpaa
open Go
set_option maxRecDepth 100000
def cavsB (cs : List Cav) : List UInt8 := cs.flatMap cavB
theorem cavsB_succ (cs : List Cav) (i : Nat) (c : Cav) (h : cs[i]? = some c) : cavsB (cs.take i) ++ cavB c = cavsB (cs.take (i + 1)) := by rw [List.take_add_one, h]; simp [cavsB]
/-- a token's bytes. -/
def Tok.bytes (t : Tok) : List UInt8 := [1] ++ t.head ++ [UInt8.ofNat t.cs.len] ++ cavsB t.cs.l ++ t.tag
theorem capbytes_ok (w0 : World) (t : Tok) (hc : t.cs.ok cavE 2 w0) (htag : t.tag.length = 32) (hn : t.tenant.length ≤ 65536) (hm : mayT t = true) :
    Ret Try.prog 81 [.agg ([V64 t.serial, .string ⟨(t.tenant).toArray⟩, V8 t.rights, VI t.from_, VI t.until_, t.cs.v] ++ (t.tag).map V8).toArray] w0 fun v w' => ∃ a n k, v = .tuple #[.slice (hd a) n k, VI 0] ∧ n ≤ t.tenant.length + 200 ∧ Hp w0 w' [] [.own a n k (t.bytes.map V8) 5 1] := by
  refine ret_mk Try.func81 rfl Try.ntmps81 (by simp) ?_
  have H := Hp.refl w0 []
  have hcl := hc.ln
  have h8 := ((mayT_iff t).1 hm).2.2.1
  repeat refine c_seq ?_
  refine c_region ?_
  refine l_op (o_box (v := .agg ([V64 t.serial, .string ⟨(t.tenant).toArray⟩, V8 t.rights, VI t.from_, VI t.until_, t.cs.v] ++ (t.tag).map V8).toArray) H rfl (fun b1 w H hb1 => ?_))
  replace H : Hp w0 w [] ([.blk b1 ([V64 t.serial, .string ⟨(t.tenant).toArray⟩, V8 t.rights, VI t.from_, VI t.until_, t.cs.v] ++ (t.tag).map V8) 76]) := H
  refine l_op (o_val (r_as) ?_)
  refine l_op (o_val (r_as) ?_)
  first | refine l_end ?_ | refine l_nil ?_
  repeat refine c_seq ?_
  refine c_region ?_
  refine l_op (o_val (r_ldA (C := [V64 t.serial, .string ⟨(t.tenant).toArray⟩, V8 t.rights, VI t.from_, VI t.until_, t.cs.v] ++ (t.tag).map V8) H (i := 0) rfl rfl rt76 (by rw [List.length_append, List.length_map, (show (t.tag).length = 32 from htag)]; rfl)) ?_)
  refine l_op (o_callR Try.func75 rfl rfl rfl (may_ret _ t (hc.up H) (show (t.tag).length = 32 from htag) (by first | omega | (dsimp only; omega) | simp)) ?_)
  rintro _ w ⟨rfl, Hc⟩
  replace H : Hp w0 w [] ([.blk b1 ([V64 t.serial, .string ⟨(t.tenant).toArray⟩, V8 t.rights, VI t.from_, VI t.until_, t.cs.v] ++ (t.tag).map V8) 76]) := H.call Hc
  clear Hc
  have hk2 : (mayT t) = true := hm
  refine l_op (o_val (r_not rfl) ?_)
  first | refine l_end ?_ | refine l_nil ?_
  repeat refine c_seq ?_
  refine c_no (by exact congrArg Value.bool (congrArg not hk2)) ?_
  refine c_skip ?_
  repeat refine c_seq ?_
  refine c_region ?_
  refine l_op (o_bslB ([(1 : UInt8)]) H sl29 zc5 rfl rfl (by decide) (fun b3 w H hb3 => ?_))
  replace H : Hp w0 w [] ([.blk b1 ([V64 t.serial, .string ⟨(t.tenant).toArray⟩, V8 t.rights, VI t.from_, VI t.until_, t.cs.v] ++ (t.tag).map V8) 76, .own (some b3) 1 1 (([(1 : UInt8)]).map V8) 5 1]) := H
  refine l_op (o_val (r_ldA (C := [V64 t.serial, .string ⟨(t.tenant).toArray⟩, V8 t.rights, VI t.from_, VI t.until_, t.cs.v] ++ (t.tag).map V8) H (i := 0) rfl rfl rt76 (by rw [List.length_append, List.length_map, (show (t.tag).length = 32 from htag)]; rfl)) ?_)
  refine l_op (o_callR Try.func115 rfl rfl rfl (head_ret _ t (hc.up H) (show (t.tag).length = 32 from htag) (by first | omega | (dsimp only; omega) | simp)) ?_)
  rintro _ w ⟨a4, n5, c6, rfl, hn7, hh8, Hc⟩
  replace H : Hp w0 w [] ([.blk b1 ([V64 t.serial, .string ⟨(t.tenant).toArray⟩, V8 t.rights, VI t.from_, VI t.until_, t.cs.v] ++ (t.tag).map V8) 76, .own (some b3) 1 1 (([(1 : UInt8)]).map V8) 5 1, .own a4 n5 c6 ((t.head).map V8) 5 1]) := H.call Hc
  clear Hc
  try dsimp only at hn7
  refine l_op (o_appB (s := ⟨hd a4, n5, c6, t.head⟩) (l' := [(1 : UInt8)] ++ t.head) (len' := 1 + n5) rfl rfl H (i := 1) rfl sl29 Try.underlying29 rfl rfl (H.slOwn (i := 2) rfl) (by omega) (fun a9 c10 w H => ?_))
  replace H : Hp w0 w [] ([.blk b1 ([V64 t.serial, .string ⟨(t.tenant).toArray⟩, V8 t.rights, VI t.from_, VI t.until_, t.cs.v] ++ (t.tag).map V8) 76, .own a9 (1 + n5) c10 (([(1 : UInt8)] ++ t.head).map V8) 5 1, .own a4 n5 c6 ((t.head).map V8) 5 1]) := H
  refine l_op (o_val (r_as) ?_)
  first | refine l_end ?_ | refine l_nil ?_
  repeat refine c_seq ?_
  refine c_region ?_
  refine l_op (o_val (r_mv) ?_)
  refine l_op (o_val (r_fa rfl fo76_5) ?_)
  refine l_op (o_val (r_ld (v := t.cs.v) H (i := 0) rfl rfl ct74 rfl) ?_)
  refine l_op (o_val (r_lens el74 rfl) ?_)
  refine l_op (o_val (r_conv (v := ((UInt8.ofNat t.cs.len).toNat : Int)) Try.underlying3 Try.underlying5 rfl (w_u8_N t.cs.len (by omega))) ?_)
  refine l_op (o_bslB ([UInt8.ofNat t.cs.len]) H sl29 zc5 rfl rfl (by decide) (fun b11 w H hb11 => ?_))
  replace H : Hp w0 w [] ([.blk b1 ([V64 t.serial, .string ⟨(t.tenant).toArray⟩, V8 t.rights, VI t.from_, VI t.until_, t.cs.v] ++ (t.tag).map V8) 76, .own a9 (1 + n5) c10 (([(1 : UInt8)] ++ t.head).map V8) 5 1, .own a4 n5 c6 ((t.head).map V8) 5 1, .own (some b11) 1 1 (([UInt8.ofNat t.cs.len]).map V8) 5 1]) := H
  refine l_op (o_appB (s := ⟨hd (some b11), 1, 1, [UInt8.ofNat t.cs.len]⟩) (l' := [(1 : UInt8)] ++ t.head ++ ([UInt8.ofNat t.cs.len])) (len' := 1 + n5 + 1) rfl rfl H (i := 1) rfl sl29 Try.underlying29 rfl rfl (H.slOwn (i := 3) rfl) (by omega) (fun a12 c13 w H => ?_))
  replace H : Hp w0 w [] ([.blk b1 ([V64 t.serial, .string ⟨(t.tenant).toArray⟩, V8 t.rights, VI t.from_, VI t.until_, t.cs.v] ++ (t.tag).map V8) 76, .own a12 (1 + n5 + 1) c13 (([(1 : UInt8)] ++ t.head ++ ([UInt8.ofNat t.cs.len])).map V8) 5 1, .own a4 n5 c6 ((t.head).map V8) 5 1, .own (some b11) 1 1 (([UInt8.ofNat t.cs.len]).map V8) 5 1]) := H
  refine l_op (o_val (r_as) ?_)
  first | refine l_end ?_ | refine l_nil ?_
  repeat refine c_seq ?_
  refine c_region ?_
  refine l_op (o_val (r_fa rfl fo76_5) ?_)
  refine l_op (o_val (r_ld (v := t.cs.v) H (i := 0) rfl rfl ct74 rfl) ?_)
  refine l_op (o_val (r_lens el74 rfl) ?_)
  refine l_op (o_val (r_mv) ?_)
  first | refine l_end ?_ | refine l_nil ?_
  repeat refine c_seq ?_
  refine c_block ?_
  repeat refine c_seq ?_
  refine c_loop4 (fun (i : Nat) (a : Option Nat) (ln : Nat) (k : Nat) => [(1, .pointer (some ⟨b1, 0, none⟩)), (4, .slice (hd a) ln k), (22, t.cs.v), (23, VI (t.cs.len : Int)), (24, VI (i : Int))])
    (fun (i : Nat) (a : Option Nat) (ln : Nat) (k : Nat) w => (i ≤ t.cs.len ∧ ln ≤ t.tenant.length + 66 + 9 * i) ∧ Hp w0 w [] ([.blk b1 ([V64 t.serial, .string ⟨(t.tenant).toArray⟩, V8 t.rights, VI t.from_, VI t.until_, t.cs.v] ++ (t.tag).map V8) 76, .own a ln k (([1] ++ t.head ++ [UInt8.ofNat t.cs.len] ++ cavsB (t.cs.l.take i)).map V8) 5 1, .own a4 n5 c6 ((t.head).map V8) 5 1, .own (some b11) 1 1 (([UInt8.ofNat t.cs.len]).map V8) 5 1]))
    (fun (i : Nat) (a : Option Nat) (ln : Nat) (k : Nat) => t.cs.len - i) 0 a12 (1 + n5 + 1) c13 ⟨rfl, rfl, rfl, rfl, rfl, trivial⟩ ⟨⟨Nat.zero_le _, by omega⟩, (by rw [show cavsB (t.cs.l.take 0) = [] from rfl, List.append_nil]; exact H)⟩ ?_
  clear H
  rintro i a ln k τ w ⟨⟨hi, hln⟩, H⟩
  repeat refine c_seq ?_
  refine c_region ?_
  refine l_op (o_val (r_bin (a := (i : Int)) (b := (t.cs.len : Int)) rfl rfl (fun _ => b_lss)) ?_)
  first | refine l_end ?_ | refine l_nil ?_
  by_cases hc14 : (i : Int) < (t.cs.len : Int)
  · skip
    repeat refine c_seq ?_
    refine c_yes (by exact congrArg Value.bool (decide_eq_true hc14)) ?_
    refine c_skip ?_
    repeat refine c_seq ?_
    refine c_block ?_
    repeat refine c_seq ?_
    refine c_region ?_
    have ah17 := ((hc.up H)).addr (by decide) (by omega)
    obtain ⟨ab15, ao16, ah17⟩ := ah17
    refine l_op (o_val (r_isN i rfl rfl el74 ah17 (by omega) (by (try simp only [Sl.cut]); omega)) ?_)
    have he19 : ∃ c, t.cs.l[i]? = some c := ⟨_, List.getElem?_eq_getElem (by have := ((hc.up H)).ln; omega)⟩
    obtain ⟨e18, he19⟩ := he19
    have hez20 := ((hc.up H)).sz e18 (List.mem_of_getElem? he19)
    refine l_op (o_val (r_ldRow (s := t.cs) (k := i) (hc.up H) ah17 rfl rt78 (by decide) he19) ?_)
    refine l_op (o_alloc H zc78 (fun b21 w H hb21 => ?_))
    replace H : Hp w0 w [] ([.blk b1 ([V64 t.serial, .string ⟨(t.tenant).toArray⟩, V8 t.rights, VI t.from_, VI t.until_, t.cs.v] ++ (t.tag).map V8) 76, .own a ln k (([1] ++ t.head ++ [UInt8.ofNat t.cs.len] ++ cavsB (t.cs.l.take i)).map V8) 5 1, .own a4 n5 c6 ((t.head).map V8) 5 1, .own (some b11) 1 1 (([UInt8.ofNat t.cs.len]).map V8) 5 1, .blk b21 ([V8 (0 : UInt8), VI 0]) 78]) := H
    refine l_op (o_stW (C' := [V8 e18.1, VI e18.2]) H (i := 4) rfl rfl rfl cs78 (by simp [Value.oneCell', Sl.v, Gl.v]) (by rfl) (by rfl) (fun w H => ?_))
    replace H : Hp w0 w [] ([.blk b1 ([V64 t.serial, .string ⟨(t.tenant).toArray⟩, V8 t.rights, VI t.from_, VI t.until_, t.cs.v] ++ (t.tag).map V8) 76, .own a ln k (([1] ++ t.head ++ [UInt8.ofNat t.cs.len] ++ cavsB (t.cs.l.take i)).map V8) 5 1, .own a4 n5 c6 ((t.head).map V8) 5 1, .own (some b11) 1 1 (([UInt8.ofNat t.cs.len]).map V8) 5 1, .blk b21 ([V8 e18.1, VI e18.2]) 78]) := H
    first | refine l_end ?_ | refine l_nil ?_
    repeat refine c_seq ?_
    refine c_region ?_
    refine l_op (o_val (r_mv) ?_)
    refine l_op (o_val (r_ldA (C := [V8 e18.1, VI e18.2]) H (i := 4) rfl rfl rt78 (by rfl)) ?_)
    refine l_op (o_callR Try.func125 rfl rfl rfl (caveat_ret _ e18) ?_)
    rintro _ w ⟨a22, c23, rfl, Hc⟩
    replace H : Hp w0 w [] ([.blk b1 ([V64 t.serial, .string ⟨(t.tenant).toArray⟩, V8 t.rights, VI t.from_, VI t.until_, t.cs.v] ++ (t.tag).map V8) 76, .own a ln k (([1] ++ t.head ++ [UInt8.ofNat t.cs.len] ++ cavsB (t.cs.l.take i)).map V8) 5 1, .own a4 n5 c6 ((t.head).map V8) 5 1, .own (some b11) 1 1 (([UInt8.ofNat t.cs.len]).map V8) 5 1, .blk b21 ([V8 e18.1, VI e18.2]) 78, .own a22 9 c23 ((cavB e18).map V8) 5 1]) := H.call Hc
    clear Hc
    refine l_op (o_appB (s := ⟨hd a22, 9, c23, cavB e18⟩) (l' := [1] ++ t.head ++ [UInt8.ofNat t.cs.len] ++ cavsB (t.cs.l.take i) ++ (cavB e18)) (len' := ln + 9) rfl rfl H (i := 1) rfl sl29 Try.underlying29 rfl rfl (H.slOwn (i := 5) rfl) (by omega) (fun a24 c25 w H => ?_))
    replace H : Hp w0 w [] ([.blk b1 ([V64 t.serial, .string ⟨(t.tenant).toArray⟩, V8 t.rights, VI t.from_, VI t.until_, t.cs.v] ++ (t.tag).map V8) 76, .own a24 (ln + 9) c25 (([1] ++ t.head ++ [UInt8.ofNat t.cs.len] ++ cavsB (t.cs.l.take i) ++ (cavB e18)).map V8) 5 1, .own a4 n5 c6 ((t.head).map V8) 5 1, .own (some b11) 1 1 (([UInt8.ofNat t.cs.len]).map V8) 5 1, .blk b21 ([V8 e18.1, VI e18.2]) 78, .own a22 9 c23 ((cavB e18).map V8) 5 1]) := H
    refine l_op (o_val (r_as) ?_)
    first | refine l_end ?_ | refine l_nil ?_
    repeat refine c_seq ?_
    refine c_region ?_
    refine l_op (o_val (r_bin (a := (i : Int)) (b := 1) rfl rfl (fun _ => b_add (by omega) (by omega))) ?_)
    refine l_op (o_val (r_mv) ?_)
    first | refine l_end ?_ | refine l_nil ?_
    rw [List.append_assoc, cavsB_succ t.cs.l i e18 he19] at H
    refine round_end (i + 1, a24, ln + 9, c25) ?_ ?_ ?_
    · exact ⟨rfl, rfl, rfl, rfl, show VI ((i : Int) + 1) = VI ((i + 1 : Nat) : Int) from congrArg VI (by omega), trivial⟩
    · refine ⟨?_, ?_⟩
      · try dsimp only
        exact ⟨by omega, by omega⟩
      · exact H.sub (.cons_cons _ (.cons_cons _ (.cons_cons _ (.cons_cons _ (List.nil_sublist _)))))
    · show t.cs.len - (i + 1 : Nat) < t.cs.len - i; omega
  · skip
    repeat refine c_seq ?_
    refine c_no (by exact congrArg Value.bool (decide_eq_false hc14)) ?_
    refine c_exit ?_
    repeat refine c_seq ?_
    refine c_region ?_
    refine l_op (o_val (r_mv) ?_)
    refine l_op (o_val (r_fa rfl fo76_6) ?_)
    refine l_op (o_val (r_slAo (o := 6) (h := 32) (m := 32) (lv := none) (hv := none) (mv := none) rfl ar31 rfl rfl rfl (fun w => sbn w)) ?_)
    refine l_op (o_appB (s := (⟨some ⟨b1, 6, none⟩, 32, 32, t.tag⟩ : Sl)) (l' := [1] ++ t.head ++ [UInt8.ofNat t.cs.len] ++ cavsB (t.cs.l.take i) ++ t.tag) (len' := ln + 32) rfl rfl H (i := 1) rfl sl29 Try.underlying29 rfl rfl (H.slTail (i := 0) (o := 6) (pre := [V64 t.serial, .string ⟨(t.tenant).toArray⟩, V8 t.rights, VI t.from_, VI t.until_, t.cs.v]) rfl rfl (show (t.tag).length = 32 from htag) (by decide)) (by omega) (fun a26 c27 w H => ?_))
    replace H : Hp w0 w [] ([.blk b1 ([V64 t.serial, .string ⟨(t.tenant).toArray⟩, V8 t.rights, VI t.from_, VI t.until_, t.cs.v] ++ (t.tag).map V8) 76, .own a26 (ln + 32) c27 (([1] ++ t.head ++ [UInt8.ofNat t.cs.len] ++ cavsB (t.cs.l.take i) ++ t.tag).map V8) 5 1, .own a4 n5 c6 ((t.head).map V8) 5 1, .own (some b11) 1 1 (([UInt8.ofNat t.cs.len]).map V8) 5 1]) := H
    refine l_op (o_val (r_as) ?_)
    refine l_op (o_val (r_as) ?_)
    first | refine l_end ?_ | refine l_nil ?_
    refine c_ret ?_
    try dsimp only [Exit.then, Exit.inBlock]
    refine e_retN (vs := [.slice (hd a26) (ln + 32) c27, VI 0]) _ Try.results81 rfl (resT (v := .slice (hd a26) (ln + 32) c27) rfl (resT (v := VI 0) rfl (resZ))) ?_
    refine ⟨_, rfl, ?_⟩
    have hi2 : i = t.cs.len := by omega
    refine ⟨_, _, _, rfl, by omega, ?_⟩
    rw [List.take_of_length_le (by have := hc.ln; omega)] at H
    exact H.sub (.cons _ (.cons_cons _ (List.nil_sublist _)))
theorem capbytes_no (w0 : World) (t : Tok) (hc : t.cs.ok cavE 2 w0) (htag : t.tag.length = 32) (hn : t.tenant.length ≤ 65536) (hm : mayT t = false) :
    Ret Try.prog 81 [.agg ([V64 t.serial, .string ⟨(t.tenant).toArray⟩, V8 t.rights, VI t.from_, VI t.until_, t.cs.v] ++ (t.tag).map V8).toArray] w0 fun v w' => v = .tuple #[.slice none 0 0, VI 1] ∧ Hp w0 w' [] [] := by
  refine ret_mk Try.func81 rfl Try.ntmps81 (by simp) ?_
  have H := Hp.refl w0 []
  repeat refine c_seq ?_
  refine c_region ?_
  refine l_op (o_box (v := .agg ([V64 t.serial, .string ⟨(t.tenant).toArray⟩, V8 t.rights, VI t.from_, VI t.until_, t.cs.v] ++ (t.tag).map V8).toArray) H rfl (fun b1 w H hb1 => ?_))
  replace H : Hp w0 w [] ([.blk b1 ([V64 t.serial, .string ⟨(t.tenant).toArray⟩, V8 t.rights, VI t.from_, VI t.until_, t.cs.v] ++ (t.tag).map V8) 76]) := H
  refine l_op (o_val (r_as) ?_)
  refine l_op (o_val (r_as) ?_)
  first | refine l_end ?_ | refine l_nil ?_
  repeat refine c_seq ?_
  refine c_region ?_
  refine l_op (o_val (r_ldA (C := [V64 t.serial, .string ⟨(t.tenant).toArray⟩, V8 t.rights, VI t.from_, VI t.until_, t.cs.v] ++ (t.tag).map V8) H (i := 0) rfl rfl rt76 (by rw [List.length_append, List.length_map, (show (t.tag).length = 32 from htag)]; rfl)) ?_)
  refine l_op (o_callR Try.func75 rfl rfl rfl (may_ret _ t (hc.up H) (show (t.tag).length = 32 from htag) (by first | omega | (dsimp only; omega) | simp)) ?_)
  rintro _ w ⟨rfl, Hc⟩
  replace H : Hp w0 w [] ([.blk b1 ([V64 t.serial, .string ⟨(t.tenant).toArray⟩, V8 t.rights, VI t.from_, VI t.until_, t.cs.v] ++ (t.tag).map V8) 76]) := H.call Hc
  clear Hc
  have hk2 : (mayT t) = false := hm
  refine l_op (o_val (r_not rfl) ?_)
  first | refine l_end ?_ | refine l_nil ?_
  repeat refine c_seq ?_
  refine c_yes (by exact congrArg Value.bool (congrArg not hk2)) ?_
  repeat refine c_seq ?_
  refine c_region ?_
  refine l_op (o_val (r_as) ?_)
  refine l_op (o_val (r_as) ?_)
  first | refine l_end ?_ | refine l_nil ?_
  refine c_ret ?_
  try dsimp only [Exit.then, Exit.inBlock]
  refine e_retN (vs := [.slice none 0 0, VI 1]) _ Try.results81 rfl (resT (v := .slice none 0 0) rfl (resT (v := VI 1) rfl (resZ))) ?_
  refine ⟨_, rfl, ?_⟩
  exact ⟨rfl, H.sub (List.nil_sublist _)⟩
end Go.Proofs.Ytjmbbhnpfmblpaa
