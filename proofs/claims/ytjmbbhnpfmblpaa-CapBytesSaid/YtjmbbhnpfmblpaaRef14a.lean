import Derived.Test.YtjmbbhnpfmblpaaCap4
import Derived.Test.YtjmbbhnpfmblpaaRef3
/- the document's numbers: Zig, Count, Text; names and rights. -/
namespace Go.Proofs.Ytjmbbhnpfmblpaa
open Go
set_option maxRecDepth 100000
theorem b_neg_i64 {P : Program} {w : World} {a : Int} (h1 : -9223372036854775808 ≤ -a) (h2 : -a ≤ 9223372036854775807) : (Op.unary .neg (VI a)).run P w = .ok (VI (-a)) w := by
  have := wrap_i64 (n := -a) h1 h2
  simp [Op.unary, Op.intArith, this]
theorem ofInt_nat (v : Int) (h0 : 0 ≤ v) : UInt64.ofInt v = UInt64.ofNat v.toNat := by
  apply UInt64.toNat_inj.1
  simp only [UInt64.ofInt, UInt64.toNat_ofNat']
  omega
theorem zig_pos (v : Int) (h0 : 0 ≤ v) (h1 : v ≤ 9223372036854775807) : zigU v = 2 * UInt64.ofInt v := by
  have e : v / 2 ^ (63 : Int).toNat = 0 := by
    have : (2 : Int) ^ (63 : Int).toNat = 9223372036854775808 := rfl
    rw [this]; omega
  have z : UInt64.ofInt 0 = 0 := rfl
  rw [zigU, e, z, UInt64.xor_zero]
  apply UInt64.toNat_inj.1
  have e1 : (UInt64.ofNat 1).toNat % 64 = 1 := rfl
  have e2 : (2 : UInt64).toNat = 2 := rfl
  rw [UInt64.toNat_shiftLeft, UInt64.toNat_mul, e1, e2, Nat.shiftLeft_eq, Nat.mul_comm]
theorem xor_ones (x : UInt64) : x ^^^ UInt64.ofInt (-1) = ~~~x := by
  apply UInt64.toBitVec_inj.1
  have : (UInt64.ofInt (-1)).toBitVec = BitVec.allOnes 64 := by decide
  rw [UInt64.toBitVec_xor, this, BitVec.xor_allOnes, UInt64.toBitVec_not]
theorem zig_neg (v : Int) (h0 : v < 0) (h1 : -9223372036854775808 ≤ v) : zigU v = 2 * UInt64.ofInt (-(v + 1)) + 1 := by
  have e : v / 2 ^ (63 : Int).toNat = -1 := by
    have : (2 : Int) ^ (63 : Int).toNat = 9223372036854775808 := rfl
    rw [this]; omega
  rw [zigU, e, xor_ones]
  apply UInt64.toNat_inj.1
  have e1 : (UInt64.ofNat 1).toNat % 64 = 1 := rfl
  have e2 : (2 : UInt64).toNat = 2 := rfl
  have e3 : (1 : UInt64).toNat = 1 := rfl
  have n1 : (UInt64.ofInt v).toNat = (v % 18446744073709551616).toNat := by simp only [UInt64.ofInt, UInt64.toNat_ofNat']; omega
  have n2 : (UInt64.ofInt (-(v + 1))).toNat = (-(v + 1)).toNat := by simp only [UInt64.ofInt, UInt64.toNat_ofNat']; omega
  rw [UInt64.toNat_not, UInt64.toNat_shiftLeft, UInt64.toNat_add, UInt64.toNat_mul, e1, e2, e3, Nat.shiftLeft_eq, n1, n2]
  simp only [UInt64.size]
  omega
theorem zig1_ret (w0 : World) (n : Int) (h1 : -9223372036854775808 ≤ n) (h2 : n ≤ 9223372036854775807) :
    Ret Try.prog 142 [VI n] w0 fun v w' => v = V64 (zigU n) ∧ Hp w0 w' [] [] := by
  refine ret_mk Try.func142 rfl Try.ntmps142 (by simp) ?_
  have H := Hp.refl w0 []
  repeat refine c_seq ?_
  refine c_region ?_
  refine l_op (o_val (r_asV (c64 0 (by decide))) ?_)
  first | refine l_end ?_ | refine l_nil ?_
  repeat refine c_seq ?_
  refine c_region ?_
  refine l_op (o_val (r_mv) ?_)
  refine l_op (o_val (r_bin (a := n) (b := 0) rfl rfl (fun _ => b_lss)) ?_)
  first | refine l_end ?_ | refine l_nil ?_
  by_cases hc1 : n < 0
  · skip
    repeat refine c_seq ?_
    refine c_yes (by exact congrArg Value.bool (decide_eq_true hc1)) ?_
    repeat refine c_seq ?_
    refine c_region ?_
    refine l_op (o_val (r_mv) ?_)
    refine l_op (o_val (r_bin (a := n) (b := 1) rfl rfl (fun _ => b_add (by omega) (by omega))) ?_)
    refine l_op (o_val (r_un (a := n + 1) rfl (fun _ => b_neg_i64 (by omega) (by omega))) ?_)
    refine l_op (o_val (r_conv Try.underlying2 Try.underlying35 rfl (w_u64_I _)) ?_)
    refine l_op (o_val (r_bin (c64 2 (by decide)) rfl (fun _ => b_mul_u64)) ?_)
    refine l_op (o_val (r_bin rfl (c64 1 (by decide)) (fun _ => b_add_u64)) ?_)
    refine l_op (o_val (r_as) ?_)
    first | refine l_end ?_ | refine l_nil ?_
    refine c_ret ?_
    try dsimp only [Exit.then, Exit.inBlock]
    refine e_ret1 (v := V64 (((2 : UInt64) * (UInt64.ofInt (-(n + 1)))) + (1 : UInt64))) Try.results142 rfl ?_
    refine ⟨_, rfl, ?_⟩
    refine ⟨?_, H⟩
    rw [zig_neg n (by omega) (by omega)]
  · skip
    repeat refine c_seq ?_
    refine c_no (by exact congrArg Value.bool (decide_eq_false hc1)) ?_
    refine c_skip ?_
    repeat refine c_seq ?_
    refine c_region ?_
    refine l_op (o_val (r_mv) ?_)
    refine l_op (o_val (r_conv Try.underlying2 Try.underlying35 rfl (w_u64_I _)) ?_)
    refine l_op (o_val (r_bin (c64 2 (by decide)) rfl (fun _ => b_mul_u64)) ?_)
    refine l_op (o_val (r_as) ?_)
    first | refine l_end ?_ | refine l_nil ?_
    refine c_ret ?_
    try dsimp only [Exit.then, Exit.inBlock]
    refine e_ret1 (v := V64 ((2 : UInt64) * (UInt64.ofInt n))) Try.results142 rfl ?_
    refine ⟨_, rfl, ?_⟩
    refine ⟨?_, H⟩
    rw [zig_pos n (by omega) (by omega)]
theorem cnt1_byte (v : UInt64) : (v % 128 + 128).toUInt8 = v.toUInt8 ||| 128 := by
  apply UInt8.toNat_inj.1
  have e1 : (128 : UInt64).toNat = 128 := rfl
  have e2 : (128 : UInt8).toNat = 128 := rfl
  rw [UInt64.toNat_toUInt8, UInt64.toNat_add, UInt64.toNat_mod, UInt8.toNat_or, UInt64.toNat_toUInt8, e1, e2]
  have h : v.toNat % 256 ||| 128 = v.toNat % 128 + 128 := by
    have hx : v.toNat % 256 = (v.toNat % 256 / 128) * 128 + v.toNat % 128 := by omega
    have hb : v.toNat % 256 / 128 = 0 ∨ v.toNat % 256 / 128 = 1 := by omega
    have hlt : v.toNat % 128 < 2 ^ 7 := Nat.mod_lt _ (by decide)
    have key : v.toNat % 128 ||| 128 = 128 + v.toNat % 128 := by
      rw [Nat.or_comm]; exact (Nat.shiftLeft_add_eq_or_of_lt hlt 1).symm
    rcases hb with h0 | h0
    · rw [hx, h0, Nat.zero_mul, Nat.zero_add, key]; omega
    · have key2 : (128 + v.toNat % 128) ||| 128 = 128 + v.toNat % 128 := by
        rw [← key, Nat.or_assoc, Nat.or_self]
      rw [hx, h0, Nat.one_mul, key2]; omega
  rw [h]
  omega
theorem div128 (v : UInt64) : (v / 128).toNat = v.toNat / 128 := by rw [UInt64.toNat_div]; rfl
theorem count1_ret (w0 : World) (s : Sl) (hs : s.ok w0) (u : UInt64) (hm : s.len ≤ 1048576) :
    Ret Try.prog 149 [s.v, V64 u] w0 fun v w' => ∃ a n c, v = .slice (hd a) n c ∧ n ≤ s.len + 11 ∧ Hp w0 w' [] [.own a n c ((s.l ++ cnt u.toNat).map V8) 5 1] := by
  refine ret_mk Try.func149 rfl Try.ntmps149 (by simp) ?_
  have H := Hp.refl w0 []
  repeat refine c_seq ?_
  refine c_region ?_
  refine l_op (o_val (r_as) ?_)
  first | refine l_end ?_ | refine l_nil ?_
  repeat refine c_seq ?_
  refine c_region ?_
  refine l_op (o_bslB (([] : List UInt8)) H sl29 zc5 rfl rfl (by decide) (fun b1 w H hb1 => ?_))
  replace H : Hp w0 w [] ([.own (some b1) 0 0 ((([] : List UInt8)).map V8) 5 1]) := H
  refine l_op (o_val (r_mv) ?_)
  refine l_op (o_appB (s := s) (l' := s.l) (len' := s.len) rfl (Nat.zero_add _) H (i := 0) rfl sl29 Try.underlying29 rfl rfl (hs.up H (fun _ => apart_nil _)) (by omega) (fun a2 c3 w H => ?_))
  replace H : Hp w0 w [] ([.own a2 s.len c3 ((s.l).map V8) 5 1]) := H
  refine l_op (o_val (r_as) ?_)
  first | refine l_end ?_ | refine l_nil ?_
  repeat refine c_seq ?_
  refine c_block ?_
  repeat refine c_seq ?_
  refine c_loop5 (fun (x : UInt64) (l : List UInt8) (a : Option Nat) (ln : Nat) (c : Nat) => [(1, V64 x), (5, .slice (hd a) ln c)])
    (fun (x : UInt64) (l : List UInt8) (a : Option Nat) (ln : Nat) (c : Nat) w => (l ++ cnt x.toNat = s.l ++ cnt u.toNat ∧ ln ≤ s.len + 10 ∧ x.toNat < 2 ^ (64 - 7 * (ln - s.len)) ∧ s.len ≤ ln) ∧ Hp w0 w [] ([.own a ln c ((l).map V8) 5 1]))
    (fun (x : UInt64) (l : List UInt8) (a : Option Nat) (ln : Nat) (c : Nat) => x.toNat) u s.l a2 s.len c3 ⟨rfl, rfl, trivial⟩ ⟨⟨rfl, by omega, by rw [Nat.sub_self]; exact u.toNat_lt, Nat.le_refl _⟩, H⟩ ?_
  clear H
  rintro x l a ln c τ w ⟨⟨hl, hln, hx, hge⟩, H⟩
  repeat refine c_seq ?_
  refine c_region ?_
  refine l_op (o_val (r_mv) ?_)
  refine l_op (o_val (r_bin (a := (x.toNat : Int)) (b := 128) rfl rfl (fun _ => b_geq)) ?_)
  first | refine l_end ?_ | refine l_nil ?_
  by_cases hc4 : 128 ≤ (x.toNat : Int)
  · skip
    repeat refine c_seq ?_
    refine c_yes (by exact congrArg Value.bool (decide_eq_true hc4)) ?_
    refine c_skip ?_
    repeat refine c_seq ?_
    refine c_block ?_
    repeat refine c_seq ?_
    refine c_region ?_
    refine l_op (o_val (r_mv) ?_)
    refine l_op (o_val (r_mv) ?_)
    refine l_op (o_val (r_bin rfl (c64 128 (by decide)) (fun _ => b_rem_u64 (by decide))) ?_)
    refine l_op (o_val (r_bin rfl (c64 128 (by decide)) (fun _ => b_add_u64)) ?_)
    refine l_op (o_val (r_conv Try.underlying35 Try.underlying5 rfl (w_u8_64 _)) ?_)
    refine l_op (o_bslB ([((x % (128 : UInt64)) + (128 : UInt64)).toUInt8]) H sl29 zc5 rfl rfl (by decide) (fun b5 w H hb5 => ?_))
    replace H : Hp w0 w [] ([.own a ln c ((l).map V8) 5 1, .own (some b5) 1 1 (([((x % (128 : UInt64)) + (128 : UInt64)).toUInt8]).map V8) 5 1]) := H
    refine l_op (o_appB (s := ⟨hd (some b5), 1, 1, [((x % (128 : UInt64)) + (128 : UInt64)).toUInt8]⟩) (l' := l ++ ([((x % (128 : UInt64)) + (128 : UInt64)).toUInt8])) (len' := ln + 1) rfl rfl H (i := 0) rfl sl29 Try.underlying29 rfl rfl (H.slOwn (i := 1) rfl) (by omega) (fun a6 c7 w H => ?_))
    replace H : Hp w0 w [] ([.own a6 (ln + 1) c7 ((l ++ ([((x % (128 : UInt64)) + (128 : UInt64)).toUInt8])).map V8) 5 1, .own (some b5) 1 1 (([((x % (128 : UInt64)) + (128 : UInt64)).toUInt8]).map V8) 5 1]) := H
    refine l_op (o_val (r_as) ?_)
    first | refine l_end ?_ | refine l_nil ?_
    repeat refine c_seq ?_
    refine c_region ?_
    refine l_op (o_val (r_mv) ?_)
    refine l_op (o_val (r_bin rfl (c64 128 (by decide)) (fun _ => b_quo_u64 (by decide))) ?_)
    refine l_op (o_val (r_as) ?_)
    first | refine l_end ?_ | refine l_nil ?_
    have hb7 := cnt_bound x.toNat ln s.len hx (by omega) hge hln
    refine round_end (x / (128 : UInt64), l ++ ([((x % (128 : UInt64)) + (128 : UInt64)).toUInt8]), a6, ln + 1, c7) ?_ ?_ ?_
    · exact ⟨show V64 (x / (128 : UInt64)) = V64 (x / (128 : UInt64) : UInt64) from congrArg V64 rfl, rfl, trivial⟩
    · refine ⟨?_, ?_⟩
      · try dsimp only
        exact ⟨by rw [cnt_more x (by omega), shr7, ← div128, ← cnt1_byte] at hl; simpa using hl, by omega, by rw [div128]; exact hb7.2, by omega⟩
      · exact H.sub (.cons_cons _ (List.nil_sublist _))
    · show (x / 128).toNat < x.toNat; rw [div128]; omega
  · skip
    repeat refine c_seq ?_
    refine c_no (by exact congrArg Value.bool (decide_eq_false hc4)) ?_
    refine c_exit ?_
    repeat refine c_seq ?_
    refine c_region ?_
    refine l_op (o_val (r_mv) ?_)
    refine l_op (o_val (r_mv) ?_)
    refine l_op (o_val (r_conv Try.underlying35 Try.underlying5 rfl (w_u8_64 _)) ?_)
    refine l_op (o_bslB ([x.toUInt8]) H sl29 zc5 rfl rfl (by decide) (fun b8 w H hb8 => ?_))
    replace H : Hp w0 w [] ([.own a ln c ((l).map V8) 5 1, .own (some b8) 1 1 (([x.toUInt8]).map V8) 5 1]) := H
    refine l_op (o_appB (s := ⟨hd (some b8), 1, 1, [x.toUInt8]⟩) (l' := l ++ ([x.toUInt8])) (len' := ln + 1) rfl rfl H (i := 0) rfl sl29 Try.underlying29 rfl rfl (H.slOwn (i := 1) rfl) (by omega) (fun a9 c10 w H => ?_))
    replace H : Hp w0 w [] ([.own a9 (ln + 1) c10 ((l ++ ([x.toUInt8])).map V8) 5 1, .own (some b8) 1 1 (([x.toUInt8]).map V8) 5 1]) := H
    refine l_op (o_val (r_as) ?_)
    first | refine l_end ?_ | refine l_nil ?_
    refine c_ret ?_
    try dsimp only [Exit.then, Exit.inBlock]
    refine e_ret1 (v := .slice (hd a9) (ln + 1) c10) Try.results149 rfl ?_
    refine ⟨_, rfl, ?_⟩
    refine ⟨_, _, _, rfl, by omega, ?_⟩
    rw [cnt_less x (by omega)] at hl
    rw [← hl]
    exact H.sub (.cons_cons _ (List.nil_sublist _))
theorem text1_ret (w0 : World) (s u : Sl) (hs : s.ok w0) (hu : u.ok w0) (hm : s.len ≤ 1048576) (hn : u.len ≤ 65536) :
    Ret Try.prog 145 [s.v, u.v] w0 fun v w' => ∃ a n c, v = .tuple #[.slice (hd a) n c, VI 0] ∧ n ≤ s.len + 11 + u.len ∧ Hp w0 w' [] [.own a n c ((s.l ++ cnt u.len ++ u.l).map V8) 5 1] := by
  refine ret_mk Try.func145 rfl Try.ntmps145 (by simp) ?_
  have H := Hp.refl w0 []
  repeat refine c_seq ?_
  refine c_region ?_
  refine l_op (o_val (r_as) ?_)
  refine l_op (o_val (r_as) ?_)
  first | refine l_end ?_ | refine l_nil ?_
  repeat refine c_seq ?_
  refine c_region ?_
  refine l_op (o_val (r_mv) ?_)
  refine l_op (o_val (r_lens el29 rfl) ?_)
  refine l_op (o_val (r_bin (a := (u.len : Int)) (b := 65536) rfl rfl (fun _ => b_gtrB false (decide_eq_false (by omega)))) ?_)
  first | refine l_end ?_ | refine l_nil ?_
  repeat refine c_seq ?_
  refine c_no rfl ?_
  refine c_skip ?_
  repeat refine c_seq ?_
  refine c_region ?_
  refine l_op (o_val (r_mv) ?_)
  refine l_op (o_val (r_mv) ?_)
  refine l_op (o_val (r_lens el29 rfl) ?_)
  refine l_op (o_val (r_conv (v := ((UInt64.ofNat u.len).toNat : Int)) Try.underlying3 Try.underlying35 rfl (w_u64_N u.len (by omega))) ?_)
  refine l_op (o_callR Try.func149 rfl rfl rfl (count1_ret _ s (hs.up H (fun _ => apart_nil _)) (UInt64.ofNat u.len) (by (try simp only [Sl.cut]); omega)) ?_)
  rintro _ w ⟨a1, n2, c3, rfl, hn4, Hc⟩
  replace H : Hp w0 w [] ([.own a1 n2 c3 ((s.l ++ cnt (UInt64.ofNat u.len).toNat).map V8) 5 1]) := H.call Hc
  clear Hc
  try dsimp only at hn4
  refine l_op (o_val (r_mv) ?_)
  refine l_op (o_appB (s := u) (l' := s.l ++ cnt (UInt64.ofNat u.len).toNat ++ u.l) (len' := n2 + u.len) rfl rfl H (i := 0) rfl sl29 Try.underlying29 rfl rfl (hu.up H (fun _ => apart_nil _)) (by omega) (fun a5 c6 w H => ?_))
  replace H : Hp w0 w [] ([.own a5 (n2 + u.len) c6 ((s.l ++ cnt (UInt64.ofNat u.len).toNat ++ u.l).map V8) 5 1]) := H
  refine l_op (o_val (r_as) ?_)
  refine l_op (o_val (r_as) ?_)
  first | refine l_end ?_ | refine l_nil ?_
  refine c_ret ?_
  try dsimp only [Exit.then, Exit.inBlock]
  refine e_retN (vs := [.slice (hd a5) (n2 + u.len) c6, VI 0]) _ Try.results145 rfl (resT (v := .slice (hd a5) (n2 + u.len) c6) rfl (resT (v := VI 0) rfl (resZ))) ?_
  refine ⟨_, rfl, ?_⟩
  refine ⟨_, _, _, rfl, by omega, ?_⟩
  rw [ofNat_nat _ (by omega)] at H
  exact H
end Go.Proofs.Ytjmbbhnpfmblpaa
