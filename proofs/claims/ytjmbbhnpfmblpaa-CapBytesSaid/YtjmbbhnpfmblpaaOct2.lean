import Derived.Test.YtjmbbhnpfmblpaaLaw0
import Derived.Test.YtjmbbhnpfmblpaaK6
/- octet: Count, Text, Zig. -/
namespace Go.Proofs.Ytjmbbhnpfmblpaa
open Go
set_option maxRecDepth 100000
/-- a number in groups of seven bits. -/
def cnt (v : Nat) : List UInt8 := if 127 < v then (UInt8.ofNat v ||| 128) :: cnt (v / 128) else [UInt8.ofNat v]
termination_by v
decreasing_by omega
theorem cnt_more (v : UInt64) (h : 127 < v.toNat) : cnt v.toNat = (v.toUInt8 ||| 128) :: cnt (v >>> UInt64.ofNat 7).toNat := by
  have e : (v >>> UInt64.ofNat 7).toNat = v.toNat / 128 := by
    have e7 : (UInt64.ofNat 7).toNat % 64 = 7 := rfl
    rw [UInt64.toNat_shiftRight, e7, Nat.shiftRight_eq_div_pow]
  have e2 : v.toUInt8 = UInt8.ofNat v.toNat := by
    apply UInt8.toNat_inj.1; rw [UInt64.toNat_toUInt8, UInt8.toNat_ofNat']
  rw [cnt, if_pos h, e, e2]
theorem cnt_less (v : UInt64) (h : ¬ 127 < v.toNat) : cnt v.toNat = [v.toUInt8] := by
  have e2 : v.toUInt8 = UInt8.ofNat v.toNat := by
    apply UInt8.toNat_inj.1; rw [UInt64.toNat_toUInt8, UInt8.toNat_ofNat']
  rw [cnt, if_neg h, e2]
theorem shr7 (v : UInt64) : (v >>> UInt64.ofNat 7).toNat = v.toNat / 128 := by
  have e7 : (UInt64.ofNat 7).toNat % 64 = 7 := rfl
  rw [UInt64.toNat_shiftRight, e7, Nat.shiftRight_eq_div_pow]
def zigU (v : Int) : UInt64 := (UInt64.ofInt v <<< UInt64.ofNat 1) ^^^ UInt64.ofInt (v / 2 ^ (63 : Int).toNat)
theorem cnt_bound (x ln s : Nat) (hx : x < 2 ^ (64 - 7 * (ln - s))) (h : 127 < x) (h1 : s ≤ ln) (h2 : ln ≤ s + 10) : ln + 1 ≤ s + 10 ∧ x / 128 < 2 ^ (64 - 7 * (ln + 1 - s)) := by
  obtain ⟨k, rfl⟩ : ∃ k, ln = s + k := ⟨ln - s, by omega⟩
  rw [Nat.add_sub_cancel_left] at hx
  have hk : k < 9 := by
    refine Nat.lt_of_not_le fun hk => ?_
    have : 2 ^ (64 - 7 * k) ≤ 2 ^ 1 := Nat.pow_le_pow_right (by decide) (by omega)
    omega
  refine ⟨by omega, ?_⟩
  rw [show s + k + 1 - s = k + 1 by omega]
  have e : 2 ^ (64 - 7 * k) = 2 ^ (64 - 7 * (k + 1)) * 128 := by
    rw [show (128 : Nat) = 2 ^ 7 from rfl, ← Nat.pow_add]; congr 1; omega
  rw [e] at hx
  exact Nat.div_lt_of_lt_mul (by omega)
theorem count_ret (w0 : World) (s : Sl) (hs : s.ok w0) (u : UInt64) (hm : s.len ≤ 1048576) :
    Ret Try.prog 146 [s.v, V64 u] w0 fun v w' => ∃ a n c, v = .slice (hd a) n c ∧ n ≤ s.len + 11 ∧ Hp w0 w' [] [.own a n c ((s.l ++ cnt u.toNat).map V8) 5 1] := by
  refine ret_mk Try.func146 rfl Try.ntmps146 (by simp) ?_
  have H := Hp.refl w0 []
  repeat refine c_seq ?_
  refine c_region ?_
  refine l_op (o_val (r_as) ?_)
  first | refine l_end ?_ | refine l_nil ?_
  repeat refine c_seq ?_
  refine c_region ?_
  refine l_op (o_val (r_mv) ?_)
  refine l_op (o_callR Try.func140 rfl rfl rfl (own_ret _ s (hs.up H (fun _ => apart_nil _)) 10 (by omega)) ?_)
  rintro _ w ⟨a1, c2, rfl, Hc⟩
  replace H : Hp w0 w [] ([.own a1 s.len c2 ((s.l).map V8) 5 1]) := H.call Hc
  clear Hc
  refine l_op (o_val (r_as) ?_)
  first | refine l_end ?_ | refine l_nil ?_
  repeat refine c_seq ?_
  refine c_block ?_
  repeat refine c_seq ?_
  refine c_loop5 (fun (x : UInt64) (l : List UInt8) (a : Option Nat) (ln : Nat) (c : Nat) => [(1, V64 x), (5, .slice (hd a) ln c)])
    (fun (x : UInt64) (l : List UInt8) (a : Option Nat) (ln : Nat) (c : Nat) w => (l ++ cnt x.toNat = s.l ++ cnt u.toNat ∧ ln ≤ s.len + 10 ∧ x.toNat < 2 ^ (64 - 7 * (ln - s.len)) ∧ s.len ≤ ln) ∧ Hp w0 w [] ([.own a ln c ((l).map V8) 5 1]))
    (fun (x : UInt64) (l : List UInt8) (a : Option Nat) (ln : Nat) (c : Nat) => x.toNat) u s.l a1 s.len c2 ⟨rfl, rfl, trivial⟩ ⟨⟨rfl, by omega, by rw [Nat.sub_self]; exact u.toNat_lt, Nat.le_refl _⟩, H⟩ ?_
  clear H
  rintro x l a ln c τ w ⟨⟨hl, hln, hx, hge⟩, H⟩
  repeat refine c_seq ?_
  refine c_region ?_
  refine l_op (o_val (r_mv) ?_)
  refine l_op (o_val (r_bin (a := (x.toNat : Int)) (b := 127) rfl rfl (fun _ => b_gtr)) ?_)
  first | refine l_end ?_ | refine l_nil ?_
  by_cases hc3 : 127 < (x.toNat : Int)
  · skip
    repeat refine c_seq ?_
    refine c_yes (by exact congrArg Value.bool (decide_eq_true hc3)) ?_
    refine c_skip ?_
    repeat refine c_seq ?_
    refine c_block ?_
    repeat refine c_seq ?_
    refine c_region ?_
    refine l_op (o_val (r_mv) ?_)
    refine l_op (o_val (r_mv) ?_)
    refine l_op (o_val (r_conv Try.underlying35 Try.underlying5 rfl (w_u8_64 _)) ?_)
    refine l_op (o_val (r_bin rfl (c8 128 (by decide)) (fun _ => b_or_u8)) ?_)
    refine l_op (o_bslB ([x.toUInt8 ||| (128 : UInt8)]) H sl29 zc5 rfl rfl (by decide) (fun b4 w H hb4 => ?_))
    replace H : Hp w0 w [] ([.own a ln c ((l).map V8) 5 1, .own (some b4) 1 1 (([x.toUInt8 ||| (128 : UInt8)]).map V8) 5 1]) := H
    refine l_op (o_appB (s := ⟨hd (some b4), 1, 1, [x.toUInt8 ||| (128 : UInt8)]⟩) (l' := l ++ ([x.toUInt8 ||| (128 : UInt8)])) (len' := ln + 1) rfl rfl H (i := 0) rfl sl29 Try.underlying29 rfl rfl (H.slOwn (i := 1) rfl) (by omega) (fun a5 c6 w H => ?_))
    replace H : Hp w0 w [] ([.own a5 (ln + 1) c6 ((l ++ ([x.toUInt8 ||| (128 : UInt8)])).map V8) 5 1, .own (some b4) 1 1 (([x.toUInt8 ||| (128 : UInt8)]).map V8) 5 1]) := H
    refine l_op (o_val (r_as) ?_)
    first | refine l_end ?_ | refine l_nil ?_
    repeat refine c_seq ?_
    refine c_region ?_
    refine l_op (o_val (r_mv) ?_)
    refine l_op (o_val (r_shift rfl rfl (.inr rfl) (fun _ => b_shr_u64N 7 (by omega))) ?_)
    refine l_op (o_val (r_as) ?_)
    first | refine l_end ?_ | refine l_nil ?_
    have hb7 := cnt_bound x.toNat ln s.len hx (by omega) hge hln
    refine round_end (x >>> UInt64.ofNat 7, l ++ ([x.toUInt8 ||| (128 : UInt8)]), a5, ln + 1, c6) ?_ ?_ ?_
    · exact ⟨show V64 (x >>> UInt64.ofNat 7) = V64 (x >>> UInt64.ofNat 7 : UInt64) from congrArg V64 rfl, rfl, trivial⟩
    · refine ⟨?_, ?_⟩
      · try dsimp only
        exact ⟨by rw [cnt_more x (by omega)] at hl; simpa using hl, by omega, by rw [shr7]; exact hb7.2, by omega⟩
      · exact H.sub (.cons_cons _ (List.nil_sublist _))
    · show (x >>> UInt64.ofNat 7).toNat < x.toNat; rw [shr7]; omega
  · skip
    repeat refine c_seq ?_
    refine c_no (by exact congrArg Value.bool (decide_eq_false hc3)) ?_
    refine c_exit ?_
    repeat refine c_seq ?_
    refine c_region ?_
    refine l_op (o_val (r_mv) ?_)
    refine l_op (o_val (r_mv) ?_)
    refine l_op (o_val (r_conv Try.underlying35 Try.underlying5 rfl (w_u8_64 _)) ?_)
    refine l_op (o_bslB ([x.toUInt8]) H sl29 zc5 rfl rfl (by decide) (fun b7 w H hb7 => ?_))
    replace H : Hp w0 w [] ([.own a ln c ((l).map V8) 5 1, .own (some b7) 1 1 (([x.toUInt8]).map V8) 5 1]) := H
    refine l_op (o_appB (s := ⟨hd (some b7), 1, 1, [x.toUInt8]⟩) (l' := l ++ ([x.toUInt8])) (len' := ln + 1) rfl rfl H (i := 0) rfl sl29 Try.underlying29 rfl rfl (H.slOwn (i := 1) rfl) (by omega) (fun a8 c9 w H => ?_))
    replace H : Hp w0 w [] ([.own a8 (ln + 1) c9 ((l ++ ([x.toUInt8])).map V8) 5 1, .own (some b7) 1 1 (([x.toUInt8]).map V8) 5 1]) := H
    refine l_op (o_val (r_as) ?_)
    first | refine l_end ?_ | refine l_nil ?_
    refine c_ret ?_
    try dsimp only [Exit.then, Exit.inBlock]
    refine e_ret1 (v := .slice (hd a8) (ln + 1) c9) Try.results146 rfl ?_
    refine ⟨_, rfl, ?_⟩
    refine ⟨_, _, _, rfl, by omega, ?_⟩
    rw [cnt_less x (by omega)] at hl
    rw [← hl]
    exact H.sub (.cons_cons _ (List.nil_sublist _))
theorem text_ret (w0 : World) (s u : Sl) (hs : s.ok w0) (hu : u.ok w0) (hm : s.len ≤ 1048576) (hn : u.len ≤ 65536) :
    Ret Try.prog 127 [s.v, u.v] w0 fun v w' => ∃ a n c, v = .tuple #[.slice (hd a) n c, VI 0] ∧ n ≤ s.len + 11 + u.len ∧ Hp w0 w' [] [.own a n c ((s.l ++ cnt u.len ++ u.l).map V8) 5 1] := by
  refine ret_mk Try.func127 rfl Try.ntmps127 (by simp) ?_
  have H := Hp.refl w0 []
  repeat refine c_seq ?_
  refine c_region ?_
  refine l_op (o_val (r_as) ?_)
  refine l_op (o_val (r_as) ?_)
  first | refine l_end ?_ | refine l_nil ?_
  repeat refine c_seq ?_
  refine c_region ?_
  refine l_op (o_val (r_mv) ?_)
  refine l_op (o_val (r_lens el29 rfl) ?_)
  refine l_op (o_val (r_bin (a := (u.len : Int)) (b := 65536) rfl rfl (fun _ => b_gtrB false (decide_eq_false (by omega)))) ?_)
  first | refine l_end ?_ | refine l_nil ?_
  repeat refine c_seq ?_
  refine c_no rfl ?_
  refine c_skip ?_
  repeat refine c_seq ?_
  refine c_region ?_
  refine l_op (o_val (r_mv) ?_)
  refine l_op (o_val (r_mv) ?_)
  refine l_op (o_val (r_lens el29 rfl) ?_)
  refine l_op (o_val (r_conv (v := ((UInt64.ofNat u.len).toNat : Int)) Try.underlying3 Try.underlying35 rfl (w_u64_N u.len (by omega))) ?_)
  refine l_op (o_callR Try.func146 rfl rfl rfl (count_ret _ s (hs.up H (fun _ => apart_nil _)) (UInt64.ofNat u.len) (by (try simp only [Sl.cut]); omega)) ?_)
  rintro _ w ⟨a1, n2, c3, rfl, hn4, Hc⟩
  replace H : Hp w0 w [] ([.own a1 n2 c3 ((s.l ++ cnt (UInt64.ofNat u.len).toNat).map V8) 5 1]) := H.call Hc
  clear Hc
  try dsimp only at hn4
  refine l_op (o_val (r_mv) ?_)
  refine l_op (o_appB (s := u) (l' := s.l ++ cnt (UInt64.ofNat u.len).toNat ++ u.l) (len' := n2 + u.len) rfl rfl H (i := 0) rfl sl29 Try.underlying29 rfl rfl (hu.up H (fun _ => apart_nil _)) (by omega) (fun a5 c6 w H => ?_))
  replace H : Hp w0 w [] ([.own a5 (n2 + u.len) c6 ((s.l ++ cnt (UInt64.ofNat u.len).toNat ++ u.l).map V8) 5 1]) := H
  refine l_op (o_val (r_as) ?_)
  refine l_op (o_val (r_as) ?_)
  first | refine l_end ?_ | refine l_nil ?_
  refine c_ret ?_
  try dsimp only [Exit.then, Exit.inBlock]
  refine e_retN (vs := [.slice (hd a5) (n2 + u.len) c6, VI 0]) _ Try.results127 rfl (resT (v := .slice (hd a5) (n2 + u.len) c6) rfl (resT (v := VI 0) rfl (resZ))) ?_
  refine ⟨_, rfl, ?_⟩
  refine ⟨_, _, _, rfl, by omega, ?_⟩
  rw [ofNat_nat _ (by omega)] at H
  exact H
theorem zig_ret (w0 : World) (n : Int) :
    Ret Try.prog 148 [VI n] w0 fun v w' => v = V64 (zigU n) ∧ Hp w0 w' [] [] := by
  refine ret_mk Try.func148 rfl Try.ntmps148 (by simp) ?_
  have H := Hp.refl w0 []
  repeat refine c_seq ?_
  refine c_region ?_
  refine l_op (o_val (r_asV (c64 0 (by decide))) ?_)
  first | refine l_end ?_ | refine l_nil ?_
  repeat refine c_seq ?_
  refine c_region ?_
  refine l_op (o_val (r_mv) ?_)
  refine l_op (o_val (r_conv Try.underlying2 Try.underlying35 rfl (w_u64_I _)) ?_)
  refine l_op (o_val (r_shift rfl rfl (.inl rfl) (fun _ => b_shl_u64N 1 (by omega))) ?_)
  refine l_op (o_val (r_mv) ?_)
  refine l_op (o_val (r_shift (a := n) rfl rfl (.inr rfl) (fun _ => b_shr_i64 (by decide) (by decide))) ?_)
  refine l_op (o_val (r_conv Try.underlying2 Try.underlying35 rfl (w_u64_I _)) ?_)
  refine l_op (o_val (r_bin rfl rfl (fun _ => b_xor_u64)) ?_)
  refine l_op (o_val (r_as) ?_)
  first | refine l_end ?_ | refine l_nil ?_
  refine c_ret ?_
  try dsimp only [Exit.then, Exit.inBlock]
  refine e_ret1 (v := V64 (((UInt64.ofInt n) <<< UInt64.ofNat 1) ^^^ (UInt64.ofInt (n / 2 ^ (63 : Int).toNat)))) Try.results148 rfl ?_
  refine ⟨_, rfl, ?_⟩
  exact ⟨rfl, H⟩
end Go.Proofs.Ytjmbbhnpfmblpaa
