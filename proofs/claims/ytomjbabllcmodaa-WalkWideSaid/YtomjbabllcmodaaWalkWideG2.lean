/- Lemmas for the statement WalkWide, part 2: rules of operations, walks through functions, plain laws. -/
import Derived.Test.YtomjbabllcmodaaWalkWideG1
import Derived.DeepKeys3
import Derived.Ground.SlsfProg
import Derived.Lib.Bytealg
import Derived.Lib.Slices
import Derived.Lib.Strings
import Derived.Lib.Walk
import Derived.OrdersIn
import Derived.RangeFuncCalls
import Derived.RangeFuncIn
import Derived.RangeFuncLeaves
import Derived.RangeFuncRecord
import Derived.RangeFuncSeq
import Derived.Shelf.SlSortCmp.NoneTotal
import Derived.TacticsIn
namespace Go.Proofs.Ytomjbabllcmodaa
open Go
set_option maxRecDepth 100000
theorem ofNat_nat (n : Nat) (h : n < 18446744073709551616) : (UInt64.ofNat n).toNat = n := by rw [UInt64.toNat_ofNat']; omega
theorem take_snoc (l : List UInt8) (i : Nat) (h : i < l.length) : l.take (i + 1) = l.take i ++ [l.getD i 0] := by
  rw [List.take_add_one, List.getElem?_eq_getElem h, List.getD_eq_getElem?_getD, List.getElem?_eq_getElem h]; rfl
theorem low7 (c : UInt8) : (c &&& 127).toNat = c.toNat % 128 := by
  have e : (127 : UInt8).toNat = 2 ^ 7 - 1 := rfl
  rw [UInt8.toNat_and, e, Nat.and_two_pow_sub_one_eq_mod]
theorem pow128 (i : Nat) : 128 ^ i = 2 ^ (7 * i) := by rw [Nat.pow_mul]
theorem count_or (n i : Nat) (c : UInt8) (h : n < 128 ^ i) (hi : i ≤ 9) (hc : i = 9 → c.toNat ≤ 1) : UInt64.ofNat n ||| (c &&& (127 : UInt8)).toUInt64 <<< UInt64.ofNat (7 * i) = UInt64.ofNat (n + c.toNat % 128 * 128 ^ i) := by
  have hc2 := u8_lt c
  have hb : c.toNat % 128 * 128 ^ i < 2 ^ 64 - 128 ^ i + 1 := by
    have hle : 128 ^ i ≤ 128 ^ 9 := Nat.pow_le_pow_right (by decide) hi
    by_cases h9 : i = 9
    · subst h9
      have := hc rfl
      have : c.toNat % 128 * 128 ^ 9 ≤ 1 * 128 ^ 9 := Nat.mul_le_mul_right _ (by omega)
      have e : (128 : Nat) ^ 9 = 9223372036854775808 := by decide
      omega
    · have h8 : 128 ^ i ≤ 128 ^ 8 := Nat.pow_le_pow_right (by decide) (by omega)
      have : c.toNat % 128 * 128 ^ i ≤ 127 * 128 ^ 8 := Nat.mul_le_mul (by omega) h8
      have e : (128 : Nat) ^ 8 = 72057594037927936 := by decide
      omega
  have hp : 0 < 128 ^ i := Nat.pow_pos (by decide)
  have h9 : 128 ^ i ≤ 128 ^ 9 := Nat.pow_le_pow_right (by decide) hi
  have e9 : (128 : Nat) ^ 9 = 9223372036854775808 := by decide
  apply UInt64.toNat_inj.1
  have e7 : (UInt64.ofNat (7 * i)).toNat % 64 = 7 * i := by rw [UInt64.toNat_ofNat']; omega
  rw [UInt64.toNat_or, UInt64.toNat_shiftLeft, e7, UInt8.toNat_toUInt64, low7, UInt64.toNat_ofNat', UInt64.toNat_ofNat', Nat.shiftLeft_eq, ← pow128, Nat.mod_eq_of_lt (a := n) (by omega), Nat.mod_eq_of_lt (a := c.toNat % 128 * 128 ^ i) (by omega), Nat.mod_eq_of_lt (a := n + c.toNat % 128 * 128 ^ i) (by omega)]
  rw [Nat.or_comm, pow128, ← Nat.shiftLeft_eq, ← Nat.shiftLeft_add_eq_or_of_lt (by rw [← pow128]; exact h)]
  omega
theorem or128 (c : UInt8) (m : Nat) (hc : 128 ≤ c.toNat) : UInt8.ofNat (c.toNat % 128 + m * 128) ||| 128 = c := by
  have key : ∀ n, n < 256 → 128 ≤ n → UInt8.ofNat (n % 128) ||| 128 = UInt8.ofNat n ∧ UInt8.ofNat (n % 128 + 128) ||| 128 = UInt8.ofNat n := by decide
  have hlt := u8_lt c
  obtain ⟨k1, k2⟩ := key c.toNat hlt hc
  rw [UInt8.ofNat_toNat] at k1 k2
  by_cases hm : m % 2 = 0
  · have : UInt8.ofNat (c.toNat % 128 + m * 128) = UInt8.ofNat (c.toNat % 128) := by
      apply UInt8.toNat_inj.1; rw [UInt8.toNat_ofNat', UInt8.toNat_ofNat']; omega
    rw [this]; exact k1
  · have : UInt8.ofNat (c.toNat % 128 + m * 128) = UInt8.ofNat (c.toNat % 128 + 128) := by
      apply UInt8.toNat_inj.1; rw [UInt8.toNat_ofNat', UInt8.toNat_ofNat']; omega
    rw [this]; exact k2
/-- what is known ahead of byte i: n so far. -/
def CntInv (l : List UInt8) (i n : Nat) : Prop := n < 128 ^ i ∧ (0 < i → 128 ≤ (l.getD 0 0).toNat) ∧ ∀ m, 1 ≤ m → cnt (n + m * 128 ^ i) = l.take i ++ cnt m
theorem cntInv_zero (l : List UInt8) : CntInv l 0 0 := ⟨by decide, fun h => absurd h (by decide), fun m _ => by simp⟩
theorem cntInv_succ (l : List UInt8) (i n : Nat) (c : UInt8) (h : CntInv l i n) (hi : i < l.length) (hc : c = l.getD i 0) (h128 : 128 ≤ c.toNat) : CntInv l (i + 1) (n + c.toNat % 128 * 128 ^ i) := by
  obtain ⟨h1, h2, h3⟩ := h
  have hlt := u8_lt c
  refine ⟨?_, ?_, fun m hm => ?_⟩
  · have : c.toNat % 128 * 128 ^ i ≤ 127 * 128 ^ i := Nat.mul_le_mul_right _ (by omega)
    rw [Nat.pow_succ]; omega
  · intro _
    by_cases h0 : i = 0
    · subst h0; rw [← hc]; exact h128
    · exact h2 (by omega)
  · have e : n + c.toNat % 128 * 128 ^ i + m * 128 ^ (i + 1) = n + (c.toNat % 128 + m * 128) * 128 ^ i := by
      rw [Nat.pow_succ, Nat.add_mul, Nat.mul_assoc m 128, Nat.mul_comm 128 (128 ^ i)]; omega
    rw [e, h3 _ (by omega), cnt_big _ (by omega), or128 c m h128, take_snoc l i hi, ← hc, show (c.toNat % 128 + m * 128) / 128 = m by omega]
    simp
theorem cntInv_end (l : List UInt8) (i n : Nat) (c : UInt8) (h : CntInv l i n) (hi : i < l.length) (hc : c = l.getD i 0) (h128 : c.toNat < 128) (h0 : ¬ (c.toNat = 0 ∧ 0 < i)) : cnt (n + c.toNat % 128 * 128 ^ i) = l.take (i + 1) := by
  obtain ⟨h1, h2, h3⟩ := h
  rw [Nat.mod_eq_of_lt h128, take_snoc l i hi, ← hc]
  by_cases hz : c.toNat = 0
  · have : i = 0 := by omega
    subst this
    have hn : n = 0 := by simpa using h1
    subst hn
    rw [hz, Nat.zero_mul, cnt_one 0 (by omega), List.take_zero]
    have : c = 0 := UInt8.toNat_inj.1 hz
    rw [this]; rfl
  · rw [h3 _ (by omega), cnt_one _ (by omega), UInt8.ofNat_toNat]
theorem cntInv_lt (l : List UInt8) (i n : Nat) (c : UInt8) (h : CntInv l i n) (hi : i ≤ 9) (h9 : i = 9 → c.toNat ≤ 1) : n + c.toNat % 128 * 128 ^ i < 18446744073709551616 := by
  have hlt := u8_lt c
  have h1 := h.1
  have e9 : (128 : Nat) ^ 9 = 9223372036854775808 := by decide
  by_cases hh : i = 9
  · subst hh
    have := h9 rfl
    have : c.toNat % 128 * 128 ^ 9 ≤ 1 * 128 ^ 9 := Nat.mul_le_mul_right _ (by omega)
    omega
  · have h8 : 128 ^ i ≤ 128 ^ 8 := Nat.pow_le_pow_right (by decide) (by omega)
    have : c.toNat % 128 * 128 ^ i ≤ 127 * 128 ^ 8 := Nat.mul_le_mul (by omega) h8
    have e : (128 : Nat) ^ 8 = 72057594037927936 := by decide
    omega
/-- what TakeCount hands back. -/
def CntRes (l : List UInt8) (x : UInt64) (k : Nat) (e : Int) : Prop := (e = 0 ∧ k ≤ l.length ∧ l = cnt x.toNat ++ l.drop k ∧ k = (cnt x.toNat).length) ∨ (e ≠ 0 ∧ NoCnt l)
theorem cntRes_ok (l : List UInt8) (i n : Nat) (c : UInt8) (h : CntInv l i n) (hi9 : i ≤ 9) (h9 : i = 9 → c.toNat ≤ 1) (hi : i < l.length) (hc : c = l.getD i 0) (h128 : c.toNat < 128) (h0 : ¬ (c.toNat = 0 ∧ 0 < i)) : CntRes l (UInt64.ofNat (n + c.toNat % 128 * 128 ^ i)) (i + 1) 0 := by
  have e := cntInv_end l i n c h hi hc h128 h0
  refine .inl ⟨rfl, by omega, ?_, ?_⟩
  · rw [ofNat_nat _ (cntInv_lt l i n c h hi9 h9), e, List.take_append_drop]
  · rw [ofNat_nat _ (cntInv_lt l i n c h hi9 h9), e, List.length_take]; omega
theorem getD_get {l : List UInt8} {i : Nat} (h : i < l.length) : l[i]? = some (l.getD i 0) := by
  rw [List.getD_eq_getElem?_getD, List.getElem?_eq_getElem h]; rfl
theorem takeCount_ret (w0 : World) (s : Sl) (hs : s.ok w0) (hm : s.len ≤ 1048576) :
    Ret Try.prog 61 [s.v] w0 fun v w' => ∃ (x : UInt64) (k : Nat) (e : Int), v = .tuple #[V64 x, VI (k : Int), VI e] ∧ CntRes s.l x k e ∧ Hp w0 w' [] [] := by
  refine ret_mk Try.func61 rfl Try.ntmps61 (by simp) ?_
  have H := Hp.refl w0 []
  have hsl := hs.ln
  repeat refine c_seq ?_
  refine c_region ?_; refine l_op (o_val (r_asV (c64 0 (by decide))) ?_); refine l_op (o_val r_as ?_); refine l_op (o_val r_as ?_); first | refine l_end ?_ | refine l_nil ?_
  repeat refine c_seq ?_
  refine c_region ?_; refine l_op (o_val (r_asV (c64 0 (by decide))) ?_); first | refine l_end ?_ | refine l_nil ?_
  repeat refine c_seq ?_
  refine c_region ?_; refine l_op (o_val r_mv ?_); refine l_op (o_val (r_lens el32 rfl) ?_); refine l_op (o_val r_mv ?_); first | refine l_end ?_ | refine l_nil ?_
  repeat refine c_seq ?_
  refine c_block ?_; repeat refine c_seq ?_
  refine c_loop2 (fun (i : Nat) (n : Nat) => [(5, V64 (UInt64.ofNat n)), (8, s.v), (9, VI (s.len : Int)), (10, VI (i : Int))])
    (fun (i : Nat) (n : Nat) w => (i ≤ 9 ∧ i ≤ s.len ∧ CntInv s.l i n ∧ CntWay s.l i n) ∧ Hp w0 w [] ([]))
    (fun (i : Nat) (n : Nat) => s.len - i) 0 0 ⟨rfl, rfl, rfl, rfl, trivial⟩ ⟨⟨by omega, by omega, cntInv_zero _, cntWay_zero _⟩, H⟩ ?_
  clear H
  rintro i n τ w ⟨⟨hi9, hil, hinv, hway⟩, H⟩
  repeat refine c_seq ?_
  refine c_region ?_; refine l_op (o_val (r_bin (a := (i : Int)) (b := (s.len : Int)) rfl rfl (fun _ => b_lss)) ?_); first | refine l_end ?_ | refine l_nil ?_
  by_cases hc1 : (i : Int) < (s.len : Int)
  ·
   repeat refine c_seq ?_
   refine c_yes (by exact congrArg Value.bool (decide_eq_true hc1)) ?_; refine c_skip ?_; repeat refine c_seq ?_
   refine c_block ?_; repeat refine c_seq ?_
   refine c_region ?_; refine l_op (o_val r_mv ?_); have ah4 := ((hs.up H (fun _ => apart_nil _))).addr (by (try simp only [Sl.cut]); omega)
   obtain ⟨ab2, ao3, ah4⟩ := ah4
   refine l_op (o_val (r_isN i rfl rfl el32 ah4 (by omega) (by (try simp only [Sl.cut]); omega)) ?_); refine l_op (o_val (r_ldB (s := s) (k := i) (hs.up H (fun _ => apart_nil _)) ah4 rfl ct5 (by (try simp only [Sl.cut]); omega)) ?_); refine l_op (o_val r_as ?_); refine l_op (o_val r_as ?_); first | refine l_end ?_ | refine l_nil ?_
   repeat refine c_seq ?_
   refine c_block ?_; repeat refine c_seq ?_
   refine c_region ?_; refine l_op (o_val r_mv ?_); refine l_op (o_val (r_bin (a := (i : Int)) (b := 9) rfl rfl (fun _ => b_eql)) ?_); refine l_op (o_val r_mv ?_)
   by_cases hc5 : (i : Int) = 9
   ·
    refine l_yes rfl rfl (by exact congrArg Value.bool (decide_eq_true hc5)) (o_val r_mv ?_); refine l_yes rfl rfl (by exact congrArg Value.bool (decide_eq_true hc5)) (o_val (r_bin (a := (((s.l).getD i 0).toNat : Int)) (b := 1) rfl rfl (fun _ => b_gtr)) ?_); refine l_op (o_val (r_pick (b := true) (congrArg Value.bool (decide_eq_true hc5))) ?_); refine l_op (o_val r_as ?_); first | refine l_end ?_ | refine l_nil ?_
    by_cases hc6 : 1 < (((s.l).getD i 0).toNat : Int)
    ·
     repeat refine c_seq ?_
     refine c_yes (by exact congrArg Value.bool (decide_eq_true hc6)) ?_; refine c_skip ?_; repeat refine c_seq ?_
     refine c_yes (by exact congrArg Value.bool (decide_eq_true hc6)) ?_; repeat refine c_seq ?_
     refine c_region ?_; refine l_op (o_val (r_asV (c64 0 (by decide))) ?_); refine l_op (o_val r_as ?_); refine l_op (o_val r_as ?_); first | refine l_end ?_ | refine l_nil ?_
     refine c_ret ?_; try dsimp only [Exit.then, Exit.inBlock]
     refine e_retN (vs := [V64 (0 : UInt64), VI 0, VI 4]) _ Try.results61 rfl (resT (v := V64 (0 : UInt64)) rfl (resT (v := VI 0) rfl (resT (v := VI 4) rfl (resZ)))) ?_
     refine ⟨_, rfl, ?_⟩
     refine ⟨0, 0, 4, rfl, .inr ⟨by decide, ?_⟩, H⟩
     first
       | exact noCnt_zero hway (by omega) (getD_get (by omega)) (by omega)
       | (have hi : i = 9 := by omega
          subst hi
          exact noCnt_high hway (getD_get (by omega)) (by omega))
    ·
     repeat refine c_seq ?_
     refine c_no (by exact congrArg Value.bool (decide_eq_false hc6)) ?_; repeat refine c_seq ?_
     refine c_region ?_; refine l_op (o_val r_mv ?_); refine l_op (o_val (r_bin (a := (((s.l).getD i 0).toNat : Int)) (b := 0) rfl rfl (fun _ => b_eql)) ?_); refine l_op (o_val r_mv ?_)
     by_cases hc7 : (((s.l).getD i 0).toNat : Int) = 0
     ·
      refine l_yes rfl rfl (by exact congrArg Value.bool (decide_eq_true hc7)) (o_val r_mv ?_); refine l_yes rfl rfl (by exact congrArg Value.bool (decide_eq_true hc7)) (o_val (r_bin (a := (i : Int)) (b := 0) rfl rfl (fun _ => b_gtr)) ?_); refine l_op (o_val (r_pick (b := true) (congrArg Value.bool (decide_eq_true hc7))) ?_); refine l_op (o_val r_as ?_); first | refine l_end ?_ | refine l_nil ?_
      by_cases hc8 : 0 < (i : Int)
      ·
       repeat refine c_seq ?_
       refine c_yes (by exact congrArg Value.bool (decide_eq_true hc8)) ?_; repeat refine c_seq ?_
       refine c_region ?_; refine l_op (o_val (r_asV (c64 0 (by decide))) ?_); refine l_op (o_val r_as ?_); refine l_op (o_val r_as ?_); first | refine l_end ?_ | refine l_nil ?_
       refine c_ret ?_; try dsimp only [Exit.then, Exit.inBlock]
       refine e_retN (vs := [V64 (0 : UInt64), VI 0, VI 4]) _ Try.results61 rfl (resT (v := V64 (0 : UInt64)) rfl (resT (v := VI 0) rfl (resT (v := VI 4) rfl (resZ)))) ?_
       refine ⟨_, rfl, ?_⟩
       refine ⟨0, 0, 4, rfl, .inr ⟨by decide, ?_⟩, H⟩
       first
         | exact noCnt_zero hway (by omega) (getD_get (by omega)) (by omega)
         | (have hi : i = 9 := by omega
            subst hi
            exact noCnt_high hway (getD_get (by omega)) (by omega))
      ·
       repeat refine c_seq ?_
       refine c_no (by exact congrArg Value.bool (decide_eq_false hc8)) ?_; refine c_skip ?_; repeat refine c_seq ?_
       refine c_region ?_; refine l_op (o_val r_mv ?_); refine l_op (o_val r_mv ?_); refine l_op (o_val (r_bin rfl (c8 127 (by decide)) (fun _ => b_and_u8)) ?_); refine l_op (o_val (r_conv Try.underlying5 Try.underlying91 rfl (w_u64_8 _)) ?_); refine l_op (o_val r_mv ?_); refine l_op (o_val (r_conv (v := ((UInt64.ofNat i).toNat : Int)) Try.underlying3 Try.underlying110 rfl (w_u64_N i (by omega))) ?_); refine l_op (o_val (r_bin (c64 7 (by decide)) rfl (fun _ => b_mul_u64N)) ?_); refine l_op (o_val (r_shift rfl rfl (.inl rfl) (fun _ => b_shl_u64N (7 * i) (by omega))) ?_); refine l_op (o_val (r_bin rfl rfl (fun _ => b_or_u64)) ?_); refine l_op (o_val r_as ?_); first | refine l_end ?_ | refine l_nil ?_
       repeat refine c_seq ?_
       refine c_region ?_; refine l_op (o_val r_mv ?_); refine l_op (o_val (r_bin (a := (((s.l).getD i 0).toNat : Int)) (b := 128) rfl rfl (fun _ => b_lss)) ?_); first | refine l_end ?_ | refine l_nil ?_
       by_cases hc9 : (((s.l).getD i 0).toNat : Int) < 128
       ·
        repeat refine c_seq ?_
        refine c_yes (by exact congrArg Value.bool (decide_eq_true hc9)) ?_; repeat refine c_seq ?_
        refine c_region ?_; refine l_op (o_val r_mv ?_); refine l_op (o_val r_mv ?_); refine l_op (o_val (r_bin (a := (i : Int)) (b := 1) rfl rfl (fun _ => b_add (by omega) (by omega))) ?_); refine l_op (o_val r_as ?_); refine l_op (o_val r_as ?_); refine l_op (o_val r_as ?_); first | refine l_end ?_ | refine l_nil ?_
        refine c_ret ?_; try dsimp only [Exit.then, Exit.inBlock]
        refine e_retN (vs := [V64 ((UInt64.ofNat n) ||| (((((s.l).getD i 0) &&& (127 : UInt8)).toUInt64) <<< UInt64.ofNat (7 * i))), VI ((i : Int) + 1), VI 0]) _ Try.results61 rfl (resT (v := V64 ((UInt64.ofNat n) ||| (((((s.l).getD i 0) &&& (127 : UInt8)).toUInt64) <<< UInt64.ofNat (7 * i)))) rfl (resT (v := VI ((i : Int) + 1)) rfl (resT (v := VI 0) rfl (resZ)))) ?_
        refine ⟨_, rfl, ?_⟩
        refine ⟨_, i + 1, 0, rfl, ?_, H⟩
        rw [count_or n i _ hinv.1 hi9 (by omega)]
        exact cntRes_ok s.l i n _ hinv hi9 (by omega) (by omega) rfl (by omega) (by omega)
       ·
        repeat refine c_seq ?_
        refine c_no (by exact congrArg Value.bool (decide_eq_false hc9)) ?_; refine c_skip ?_; repeat refine c_seq ?_
        refine c_region ?_; refine l_op (o_val (r_bin (a := (i : Int)) (b := 1) rfl rfl (fun _ => b_add (by omega) (by omega))) ?_); refine l_op (o_val r_mv ?_); first | refine l_end ?_ | refine l_nil ?_
        refine round_end (i + 1, n + (s.l.getD i 0).toNat % 128 * 128 ^ i) ?_ ?_ ?_
        · exact ⟨show V64 ((UInt64.ofNat n) ||| (((((s.l).getD i 0) &&& (127 : UInt8)).toUInt64) <<< UInt64.ofNat (7 * i))) = V64 (UInt64.ofNat (n + (s.l.getD i 0).toNat % 128 * 128 ^ i : Nat)) from congrArg V64 (count_or n i _ hinv.1 hi9 (by omega)), rfl, rfl, show VI ((i : Int) + 1) = VI ((i + 1 : Nat) : Int) from congrArg VI (by omega), trivial⟩
        · refine ⟨?_, ?_⟩
          · try dsimp only
            exact ⟨by omega, by omega, cntInv_succ s.l i n _ hinv (by omega) rfl (by omega), cntWay_succ hway (getD_get (by omega)) (by omega)⟩
          · exact H
        · show s.len - (i + 1 : Nat) < s.len - i; omega
     ·
      refine l_no rfl rfl (by exact congrArg Value.bool (decide_eq_false hc7)) rfl ?_; refine l_no rfl rfl (by exact congrArg Value.bool (decide_eq_false hc7)) rfl ?_; refine l_op (o_val (r_pick (b := false) (congrArg Value.bool (decide_eq_false hc7))) ?_); refine l_op (o_val r_as ?_); first | refine l_end ?_ | refine l_nil ?_
      repeat refine c_seq ?_
      refine c_no rfl ?_; refine c_skip ?_; repeat refine c_seq ?_
      refine c_region ?_; refine l_op (o_val r_mv ?_); refine l_op (o_val r_mv ?_); refine l_op (o_val (r_bin rfl (c8 127 (by decide)) (fun _ => b_and_u8)) ?_); refine l_op (o_val (r_conv Try.underlying5 Try.underlying91 rfl (w_u64_8 _)) ?_); refine l_op (o_val r_mv ?_); refine l_op (o_val (r_conv (v := ((UInt64.ofNat i).toNat : Int)) Try.underlying3 Try.underlying110 rfl (w_u64_N i (by omega))) ?_); refine l_op (o_val (r_bin (c64 7 (by decide)) rfl (fun _ => b_mul_u64N)) ?_); refine l_op (o_val (r_shift rfl rfl (.inl rfl) (fun _ => b_shl_u64N (7 * i) (by omega))) ?_); refine l_op (o_val (r_bin rfl rfl (fun _ => b_or_u64)) ?_); refine l_op (o_val r_as ?_); first | refine l_end ?_ | refine l_nil ?_
      repeat refine c_seq ?_
      refine c_region ?_; refine l_op (o_val r_mv ?_); refine l_op (o_val (r_bin (a := (((s.l).getD i 0).toNat : Int)) (b := 128) rfl rfl (fun _ => b_lss)) ?_); first | refine l_end ?_ | refine l_nil ?_
      by_cases hc10 : (((s.l).getD i 0).toNat : Int) < 128
      ·
       repeat refine c_seq ?_
       refine c_yes (by exact congrArg Value.bool (decide_eq_true hc10)) ?_; repeat refine c_seq ?_
       refine c_region ?_; refine l_op (o_val r_mv ?_); refine l_op (o_val r_mv ?_); refine l_op (o_val (r_bin (a := (i : Int)) (b := 1) rfl rfl (fun _ => b_add (by omega) (by omega))) ?_); refine l_op (o_val r_as ?_); refine l_op (o_val r_as ?_); refine l_op (o_val r_as ?_); first | refine l_end ?_ | refine l_nil ?_
       refine c_ret ?_; try dsimp only [Exit.then, Exit.inBlock]
       refine e_retN (vs := [V64 ((UInt64.ofNat n) ||| (((((s.l).getD i 0) &&& (127 : UInt8)).toUInt64) <<< UInt64.ofNat (7 * i))), VI ((i : Int) + 1), VI 0]) _ Try.results61 rfl (resT (v := V64 ((UInt64.ofNat n) ||| (((((s.l).getD i 0) &&& (127 : UInt8)).toUInt64) <<< UInt64.ofNat (7 * i)))) rfl (resT (v := VI ((i : Int) + 1)) rfl (resT (v := VI 0) rfl (resZ)))) ?_
       refine ⟨_, rfl, ?_⟩
       refine ⟨_, i + 1, 0, rfl, ?_, H⟩
       rw [count_or n i _ hinv.1 hi9 (by omega)]
       exact cntRes_ok s.l i n _ hinv hi9 (by omega) (by omega) rfl (by omega) (by omega)
      ·
       repeat refine c_seq ?_
       refine c_no (by exact congrArg Value.bool (decide_eq_false hc10)) ?_; refine c_skip ?_; repeat refine c_seq ?_
       refine c_region ?_; refine l_op (o_val (r_bin (a := (i : Int)) (b := 1) rfl rfl (fun _ => b_add (by omega) (by omega))) ?_); refine l_op (o_val r_mv ?_); first | refine l_end ?_ | refine l_nil ?_
       refine round_end (i + 1, n + (s.l.getD i 0).toNat % 128 * 128 ^ i) ?_ ?_ ?_
       · exact ⟨show V64 ((UInt64.ofNat n) ||| (((((s.l).getD i 0) &&& (127 : UInt8)).toUInt64) <<< UInt64.ofNat (7 * i))) = V64 (UInt64.ofNat (n + (s.l.getD i 0).toNat % 128 * 128 ^ i : Nat)) from congrArg V64 (count_or n i _ hinv.1 hi9 (by omega)), rfl, rfl, show VI ((i : Int) + 1) = VI ((i + 1 : Nat) : Int) from congrArg VI (by omega), trivial⟩
       · refine ⟨?_, ?_⟩
         · try dsimp only
           exact ⟨by omega, by omega, cntInv_succ s.l i n _ hinv (by omega) rfl (by omega), cntWay_succ hway (getD_get (by omega)) (by omega)⟩
         · exact H
       · show s.len - (i + 1 : Nat) < s.len - i; omega
   ·
    refine l_no rfl rfl (by exact congrArg Value.bool (decide_eq_false hc5)) rfl ?_; refine l_no rfl rfl (by exact congrArg Value.bool (decide_eq_false hc5)) rfl ?_; refine l_op (o_val (r_pick (b := false) (congrArg Value.bool (decide_eq_false hc5))) ?_); refine l_op (o_val r_as ?_); first | refine l_end ?_ | refine l_nil ?_
    repeat refine c_seq ?_
    refine c_no rfl ?_; repeat refine c_seq ?_
    refine c_region ?_; refine l_op (o_val r_mv ?_); refine l_op (o_val (r_bin (a := (((s.l).getD i 0).toNat : Int)) (b := 0) rfl rfl (fun _ => b_eql)) ?_); refine l_op (o_val r_mv ?_)
    by_cases hc11 : (((s.l).getD i 0).toNat : Int) = 0
    ·
     refine l_yes rfl rfl (by exact congrArg Value.bool (decide_eq_true hc11)) (o_val r_mv ?_); refine l_yes rfl rfl (by exact congrArg Value.bool (decide_eq_true hc11)) (o_val (r_bin (a := (i : Int)) (b := 0) rfl rfl (fun _ => b_gtr)) ?_); refine l_op (o_val (r_pick (b := true) (congrArg Value.bool (decide_eq_true hc11))) ?_); refine l_op (o_val r_as ?_); first | refine l_end ?_ | refine l_nil ?_
     by_cases hc12 : 0 < (i : Int)
     ·
      repeat refine c_seq ?_
      refine c_yes (by exact congrArg Value.bool (decide_eq_true hc12)) ?_; repeat refine c_seq ?_
      refine c_region ?_; refine l_op (o_val (r_asV (c64 0 (by decide))) ?_); refine l_op (o_val r_as ?_); refine l_op (o_val r_as ?_); first | refine l_end ?_ | refine l_nil ?_
      refine c_ret ?_; try dsimp only [Exit.then, Exit.inBlock]
      refine e_retN (vs := [V64 (0 : UInt64), VI 0, VI 4]) _ Try.results61 rfl (resT (v := V64 (0 : UInt64)) rfl (resT (v := VI 0) rfl (resT (v := VI 4) rfl (resZ)))) ?_
      refine ⟨_, rfl, ?_⟩
      refine ⟨0, 0, 4, rfl, .inr ⟨by decide, ?_⟩, H⟩
      first
        | exact noCnt_zero hway (by omega) (getD_get (by omega)) (by omega)
        | (have hi : i = 9 := by omega
           subst hi
           exact noCnt_high hway (getD_get (by omega)) (by omega))
     ·
      repeat refine c_seq ?_
      refine c_no (by exact congrArg Value.bool (decide_eq_false hc12)) ?_; refine c_skip ?_; repeat refine c_seq ?_
      refine c_region ?_; refine l_op (o_val r_mv ?_); refine l_op (o_val r_mv ?_); refine l_op (o_val (r_bin rfl (c8 127 (by decide)) (fun _ => b_and_u8)) ?_); refine l_op (o_val (r_conv Try.underlying5 Try.underlying91 rfl (w_u64_8 _)) ?_); refine l_op (o_val r_mv ?_); refine l_op (o_val (r_conv (v := ((UInt64.ofNat i).toNat : Int)) Try.underlying3 Try.underlying110 rfl (w_u64_N i (by omega))) ?_); refine l_op (o_val (r_bin (c64 7 (by decide)) rfl (fun _ => b_mul_u64N)) ?_); refine l_op (o_val (r_shift rfl rfl (.inl rfl) (fun _ => b_shl_u64N (7 * i) (by omega))) ?_); refine l_op (o_val (r_bin rfl rfl (fun _ => b_or_u64)) ?_); refine l_op (o_val r_as ?_); first | refine l_end ?_ | refine l_nil ?_
      repeat refine c_seq ?_
      refine c_region ?_; refine l_op (o_val r_mv ?_); refine l_op (o_val (r_bin (a := (((s.l).getD i 0).toNat : Int)) (b := 128) rfl rfl (fun _ => b_lss)) ?_); first | refine l_end ?_ | refine l_nil ?_
      by_cases hc13 : (((s.l).getD i 0).toNat : Int) < 128
      ·
       repeat refine c_seq ?_
       refine c_yes (by exact congrArg Value.bool (decide_eq_true hc13)) ?_; repeat refine c_seq ?_
       refine c_region ?_; refine l_op (o_val r_mv ?_); refine l_op (o_val r_mv ?_); refine l_op (o_val (r_bin (a := (i : Int)) (b := 1) rfl rfl (fun _ => b_add (by omega) (by omega))) ?_); refine l_op (o_val r_as ?_); refine l_op (o_val r_as ?_); refine l_op (o_val r_as ?_); first | refine l_end ?_ | refine l_nil ?_
       refine c_ret ?_; try dsimp only [Exit.then, Exit.inBlock]
       refine e_retN (vs := [V64 ((UInt64.ofNat n) ||| (((((s.l).getD i 0) &&& (127 : UInt8)).toUInt64) <<< UInt64.ofNat (7 * i))), VI ((i : Int) + 1), VI 0]) _ Try.results61 rfl (resT (v := V64 ((UInt64.ofNat n) ||| (((((s.l).getD i 0) &&& (127 : UInt8)).toUInt64) <<< UInt64.ofNat (7 * i)))) rfl (resT (v := VI ((i : Int) + 1)) rfl (resT (v := VI 0) rfl (resZ)))) ?_
       refine ⟨_, rfl, ?_⟩
       refine ⟨_, i + 1, 0, rfl, ?_, H⟩
       rw [count_or n i _ hinv.1 hi9 (by omega)]
       exact cntRes_ok s.l i n _ hinv hi9 (by omega) (by omega) rfl (by omega) (by omega)
      ·
       repeat refine c_seq ?_
       refine c_no (by exact congrArg Value.bool (decide_eq_false hc13)) ?_; refine c_skip ?_; repeat refine c_seq ?_
       refine c_region ?_; refine l_op (o_val (r_bin (a := (i : Int)) (b := 1) rfl rfl (fun _ => b_add (by omega) (by omega))) ?_); refine l_op (o_val r_mv ?_); first | refine l_end ?_ | refine l_nil ?_
       refine round_end (i + 1, n + (s.l.getD i 0).toNat % 128 * 128 ^ i) ?_ ?_ ?_
       · exact ⟨show V64 ((UInt64.ofNat n) ||| (((((s.l).getD i 0) &&& (127 : UInt8)).toUInt64) <<< UInt64.ofNat (7 * i))) = V64 (UInt64.ofNat (n + (s.l.getD i 0).toNat % 128 * 128 ^ i : Nat)) from congrArg V64 (count_or n i _ hinv.1 hi9 (by omega)), rfl, rfl, show VI ((i : Int) + 1) = VI ((i + 1 : Nat) : Int) from congrArg VI (by omega), trivial⟩
       · refine ⟨?_, ?_⟩
         · try dsimp only
           exact ⟨by omega, by omega, cntInv_succ s.l i n _ hinv (by omega) rfl (by omega), cntWay_succ hway (getD_get (by omega)) (by omega)⟩
         · exact H
       · show s.len - (i + 1 : Nat) < s.len - i; omega
    ·
     refine l_no rfl rfl (by exact congrArg Value.bool (decide_eq_false hc11)) rfl ?_; refine l_no rfl rfl (by exact congrArg Value.bool (decide_eq_false hc11)) rfl ?_; refine l_op (o_val (r_pick (b := false) (congrArg Value.bool (decide_eq_false hc11))) ?_); refine l_op (o_val r_as ?_); first | refine l_end ?_ | refine l_nil ?_
     repeat refine c_seq ?_
     refine c_no rfl ?_; refine c_skip ?_; repeat refine c_seq ?_
     refine c_region ?_; refine l_op (o_val r_mv ?_); refine l_op (o_val r_mv ?_); refine l_op (o_val (r_bin rfl (c8 127 (by decide)) (fun _ => b_and_u8)) ?_); refine l_op (o_val (r_conv Try.underlying5 Try.underlying91 rfl (w_u64_8 _)) ?_); refine l_op (o_val r_mv ?_); refine l_op (o_val (r_conv (v := ((UInt64.ofNat i).toNat : Int)) Try.underlying3 Try.underlying110 rfl (w_u64_N i (by omega))) ?_); refine l_op (o_val (r_bin (c64 7 (by decide)) rfl (fun _ => b_mul_u64N)) ?_); refine l_op (o_val (r_shift rfl rfl (.inl rfl) (fun _ => b_shl_u64N (7 * i) (by omega))) ?_); refine l_op (o_val (r_bin rfl rfl (fun _ => b_or_u64)) ?_); refine l_op (o_val r_as ?_); first | refine l_end ?_ | refine l_nil ?_
     repeat refine c_seq ?_
     refine c_region ?_; refine l_op (o_val r_mv ?_); refine l_op (o_val (r_bin (a := (((s.l).getD i 0).toNat : Int)) (b := 128) rfl rfl (fun _ => b_lss)) ?_); first | refine l_end ?_ | refine l_nil ?_
     by_cases hc14 : (((s.l).getD i 0).toNat : Int) < 128
     ·
      repeat refine c_seq ?_
      refine c_yes (by exact congrArg Value.bool (decide_eq_true hc14)) ?_; repeat refine c_seq ?_
      refine c_region ?_; refine l_op (o_val r_mv ?_); refine l_op (o_val r_mv ?_); refine l_op (o_val (r_bin (a := (i : Int)) (b := 1) rfl rfl (fun _ => b_add (by omega) (by omega))) ?_); refine l_op (o_val r_as ?_); refine l_op (o_val r_as ?_); refine l_op (o_val r_as ?_); first | refine l_end ?_ | refine l_nil ?_
      refine c_ret ?_; try dsimp only [Exit.then, Exit.inBlock]
      refine e_retN (vs := [V64 ((UInt64.ofNat n) ||| (((((s.l).getD i 0) &&& (127 : UInt8)).toUInt64) <<< UInt64.ofNat (7 * i))), VI ((i : Int) + 1), VI 0]) _ Try.results61 rfl (resT (v := V64 ((UInt64.ofNat n) ||| (((((s.l).getD i 0) &&& (127 : UInt8)).toUInt64) <<< UInt64.ofNat (7 * i)))) rfl (resT (v := VI ((i : Int) + 1)) rfl (resT (v := VI 0) rfl (resZ)))) ?_
      refine ⟨_, rfl, ?_⟩
      refine ⟨_, i + 1, 0, rfl, ?_, H⟩
      rw [count_or n i _ hinv.1 hi9 (by omega)]
      exact cntRes_ok s.l i n _ hinv hi9 (by omega) (by omega) rfl (by omega) (by omega)
     ·
      repeat refine c_seq ?_
      refine c_no (by exact congrArg Value.bool (decide_eq_false hc14)) ?_; refine c_skip ?_; repeat refine c_seq ?_
      refine c_region ?_; refine l_op (o_val (r_bin (a := (i : Int)) (b := 1) rfl rfl (fun _ => b_add (by omega) (by omega))) ?_); refine l_op (o_val r_mv ?_); first | refine l_end ?_ | refine l_nil ?_
      refine round_end (i + 1, n + (s.l.getD i 0).toNat % 128 * 128 ^ i) ?_ ?_ ?_
      · exact ⟨show V64 ((UInt64.ofNat n) ||| (((((s.l).getD i 0) &&& (127 : UInt8)).toUInt64) <<< UInt64.ofNat (7 * i))) = V64 (UInt64.ofNat (n + (s.l.getD i 0).toNat % 128 * 128 ^ i : Nat)) from congrArg V64 (count_or n i _ hinv.1 hi9 (by omega)), rfl, rfl, show VI ((i : Int) + 1) = VI ((i + 1 : Nat) : Int) from congrArg VI (by omega), trivial⟩
      · refine ⟨?_, ?_⟩
        · try dsimp only
          exact ⟨by omega, by omega, cntInv_succ s.l i n _ hinv (by omega) rfl (by omega), cntWay_succ hway (getD_get (by omega)) (by omega)⟩
        · exact H
      · show s.len - (i + 1 : Nat) < s.len - i; omega
  ·
   repeat refine c_seq ?_
   refine c_no (by exact congrArg Value.bool (decide_eq_false hc1)) ?_; refine c_exit ?_; repeat refine c_seq ?_
   refine c_region ?_; refine l_op (o_val (r_asV (c64 0 (by decide))) ?_); refine l_op (o_val r_as ?_); refine l_op (o_val r_as ?_); first | refine l_end ?_ | refine l_nil ?_
   refine c_ret ?_; try dsimp only [Exit.then, Exit.inBlock]
   refine e_retN (vs := [V64 (0 : UInt64), VI 0, VI 3]) _ Try.results61 rfl (resT (v := V64 (0 : UInt64)) rfl (resT (v := VI 0) rfl (resT (v := VI 3) rfl (resZ)))) ?_
   refine ⟨_, rfl, ?_⟩
   exact ⟨0, 0, 3, rfl, .inr ⟨by decide, noCnt_short hway (by omega)⟩, H⟩
end Go.Proofs.Ytomjbabllcmodaa
namespace Go.Proofs.Ytomjbabllcmodaa
open Go
set_option maxRecDepth 100000
theorem own_ret (w0 : World) (s : Sl) (hs : s.ok w0) (n : Nat) (hm : s.len + n ≤ 1099511627776) :
    Ret Try.prog 87 [s.v, VI (n : Int)] w0 fun v w' => ∃ a cap, v = .slice (hd a) s.len cap ∧ Hp w0 w' [] [.own a s.len cap (s.l.map V8) 5 1] := by
  refine ret_mk Try.func87 rfl Try.ntmps87 (by simp) ?_
  have H := Hp.refl w0 []
  repeat refine c_seq ?_
  refine c_region ?_; refine l_op (o_val r_as ?_); first | refine l_end ?_ | refine l_nil ?_
  repeat refine c_seq ?_
  refine c_region ?_; refine l_op (o_val r_mv ?_); refine l_op (o_val (r_lens el32 rfl) ?_); refine l_op (o_val r_mv ?_); refine l_op (o_val (r_bin (a := (s.len : Int)) (b := (n : Int)) rfl rfl (fun _ => b_add (by omega) (by omega))) ?_); refine l_op (o_makeB0 (s.len + n) H sl32 zc5 rfl rfl rfl (by omega) (by omega) (fun b1 w H hb1 => ?_)); replace H : Hp _ w _ ([.own (some b1) 0 (s.len + n) ((([] : List UInt8)).map V8) 5 1]) := H
  refine l_op (o_val r_mv ?_); refine l_op (o_appB (s := s) (l' := s.l) (len' := s.len) rfl (Nat.zero_add _) H (i := 0) rfl sl32 Try.underlying32 rfl rfl (hs.up H (fun _ => apart_nil _)) (by omega) (fun a2 c3 w H => ?_)); replace H : Hp _ w _ ([.own a2 s.len c3 ((s.l).map V8) 5 1]) := H
  refine l_op (o_val r_as ?_); first | refine l_end ?_ | refine l_nil ?_
  refine c_ret ?_; try dsimp only [Exit.then, Exit.inBlock]
  refine e_ret1 (v := .slice (hd a2) s.len c3) Try.results87 rfl ?_
  refine ⟨_, rfl, ?_⟩
  exact ⟨_, _, rfl, H⟩
/-- what TakeText hands back. -/
def TxtRes (l t : List UInt8) (k : Nat) (e : Int) : Prop := (e = 0 ∧ t.length ≤ 65536 ∧ k ≤ l.length ∧ l = cnt t.length ++ (t ++ l.drop k)) ∨ (e ≠ 0 ∧ NoTxt l)
theorem txtRes_bad {l : List UInt8} {x : UInt64} {k : Nat} {e e' : Int} (h : CntRes l x k e) (he : ¬ e' = 0) (hbad : ¬ e = 0 ∨ 65536 < x.toNat ∨ l.length < k + x.toNat) : TxtRes l [] 0 e' := by
  refine .inr ⟨he, ?_⟩
  rcases h with ⟨h1, h2, h3, h4⟩ | ⟨_, h2⟩
  · refine noTxt_of h3 ?_
    rcases hbad with h5 | h5 | h5
    · exact absurd h1 h5
    · exact .inl h5
    · right; rw [List.length_drop]; omega
  · exact noTxt_cnt h2
theorem txtRes_ok {l : List UInt8} {x : UInt64} {k : Nat} (h : CntRes l x k 0) (h1 : x.toNat ≤ 65536) (h2 : k + x.toNat ≤ l.length) : TxtRes l ((l.drop k).take x.toNat) (k + x.toNat) 0 := by
  have hlen : ((l.drop k).take x.toNat).length = x.toNat := by simp; omega
  rcases h with ⟨_, h3, h4, h5⟩ | ⟨h3, _⟩
  · refine .inl ⟨rfl, by omega, h2, ?_⟩
    rw [hlen, ← List.drop_drop, List.take_append_drop]; exact h4
  · exact absurd rfl h3
theorem takeText_ret (w0 : World) (s : Sl) (hs : s.ok w0) (hm : s.len ≤ 1048576) :
    Ret Try.prog 80 [s.v] w0 fun v w' => ∃ (a : Option Nat) (c : Nat) (t : List UInt8) (k : Nat) (e : Int), v = .tuple #[.slice (hd a) t.length c, VI (k : Int), VI e] ∧ TxtRes s.l t k e ∧ Hp w0 w' [] [.own a t.length c (t.map V8) 5 1] := by
  refine ret_mk Try.func80 rfl Try.ntmps80 (by simp) ?_
  have H := Hp.refl w0 []
  have hsl := hs.ln
  have hle := hs.le
  repeat refine c_seq ?_
  refine c_region ?_; refine l_op (o_val r_as ?_); refine l_op (o_val r_as ?_); refine l_op (o_val r_as ?_); first | refine l_end ?_ | refine l_nil ?_
  repeat refine c_seq ?_
  refine c_region ?_; refine l_op (o_val r_mv ?_); refine l_op (o_callR Try.func61 rfl rfl rfl (takeCount_ret _ s (hs.up H (fun _ => apart_nil _)) (by (try simp only [Sl.cut]); omega)) ?_); rintro _ w ⟨x1, k2, e3, rfl, hco4, Hc⟩
  replace H : Hp _ w _ ([]) := H.call Hc
  clear Hc
  have hco4n : e3 = 0 → k2 ≤ (s.l).length := fun h => hco4.elim (fun h1 => h1.2.1) (fun h1 => absurd h h1.1)
  try simp only [List.length_take, List.length_drop] at hco4n
  refine l_op (o_val r_mv ?_); refine l_op (o_val (r_ext rfl rfl) ?_); refine l_op (o_val (r_ext rfl rfl) ?_); refine l_op (o_val (r_ext rfl rfl) ?_); refine l_op (o_val r_as ?_); refine l_op (o_val r_as ?_); refine l_op (o_val r_as ?_); first | refine l_end ?_ | refine l_nil ?_
  repeat refine c_seq ?_
  refine c_block ?_; have hkl : e3 = 0 → k2 ≤ s.l.length := fun h => hco4.elim (fun h1 => h1.2.1) (fun h1 => absurd h h1.1)
  repeat refine c_seq ?_
  refine c_region ?_; refine l_op (o_val r_mv ?_); refine l_op (o_val (r_bin (a := e3) (b := 0) rfl rfl (fun _ => b_neq)) ?_); refine l_op (o_val r_as ?_); first | refine l_end ?_ | refine l_nil ?_
  by_cases hc5 : e3 ≠ 0
  ·
   repeat refine c_seq ?_
   refine c_yes (by exact congrArg Value.bool (decide_eq_true hc5)) ?_; repeat refine c_seq ?_
   refine c_region ?_; refine l_op (o_val r_mv ?_); refine l_op (o_val r_as ?_); refine l_op (o_val r_as ?_); refine l_op (o_val r_as ?_); first | refine l_end ?_ | refine l_nil ?_
   refine c_ret ?_; try dsimp only [Exit.then, Exit.inBlock]
   refine e_retN (vs := [.slice none 0 0, VI 0, VI e3]) _ Try.results80 rfl (resT (v := .slice none 0 0) rfl (resT (v := VI 0) rfl (resT (v := VI e3) rfl (resZ)))) ?_
   refine ⟨_, rfl, ?_⟩
   exact ⟨none, 0, [], 0, _, rfl, txtRes_bad hco4 (by first | decide | (intro h; omega)) (by omega), H.nilEnd 5 1⟩
  ·
   repeat refine c_seq ?_
   refine c_no (by exact congrArg Value.bool (decide_eq_false hc5)) ?_; repeat refine c_seq ?_
   refine c_region ?_; refine l_op (o_val r_mv ?_); refine l_op (o_val (r_bin (a := (x1.toNat : Int)) (b := 65536) rfl rfl (fun _ => b_gtr)) ?_); refine l_op (o_val r_as ?_); first | refine l_end ?_ | refine l_nil ?_
   by_cases hc6 : 65536 < (x1.toNat : Int)
   ·
    repeat refine c_seq ?_
    refine c_yes (by exact congrArg Value.bool (decide_eq_true hc6)) ?_; repeat refine c_seq ?_
    refine c_region ?_; refine l_op (o_val r_as ?_); refine l_op (o_val r_as ?_); refine l_op (o_val r_as ?_); first | refine l_end ?_ | refine l_nil ?_
    refine c_ret ?_; try dsimp only [Exit.then, Exit.inBlock]
    refine e_retN (vs := [.slice none 0 0, VI 0, VI 2]) _ Try.results80 rfl (resT (v := .slice none 0 0) rfl (resT (v := VI 0) rfl (resT (v := VI 2) rfl (resZ)))) ?_
    refine ⟨_, rfl, ?_⟩
    exact ⟨none, 0, [], 0, _, rfl, txtRes_bad hco4 (by first | decide | (intro h; omega)) (by omega), H.nilEnd 5 1⟩
   ·
    repeat refine c_seq ?_
    refine c_no (by exact congrArg Value.bool (decide_eq_false hc6)) ?_; have hon : (UInt64.ofNat (s.len - k2)).toNat = s.len - k2 := ofNat_nat _ (by omega)
    repeat refine c_seq ?_
    refine c_region ?_; refine l_op (o_val r_mv ?_); refine l_op (o_val (r_lens el32 rfl) ?_); refine l_op (o_val r_mv ?_); refine l_op (o_val (r_bin (a := (s.len : Int)) (b := (k2 : Int)) rfl rfl (fun _ => b_sub (by omega) (by omega))) ?_); refine l_op (o_val (r_conv (v := ((UInt64.ofNat (s.len - k2)).toNat : Int)) Try.underlying3 Try.underlying91 rfl (w_u64_N (s.len - k2) (by omega))) ?_); refine l_op (o_val r_mv ?_); refine l_op (o_val (r_bin (a := ((UInt64.ofNat (s.len - k2)).toNat : Int)) (b := (x1.toNat : Int)) rfl rfl (fun _ => b_lss)) ?_); refine l_op (o_val r_as ?_); first | refine l_end ?_ | refine l_nil ?_
    by_cases hc7 : ((UInt64.ofNat (s.len - k2)).toNat : Int) < (x1.toNat : Int)
    ·
     repeat refine c_seq ?_
     refine c_yes (by exact congrArg Value.bool (decide_eq_true hc7)) ?_; repeat refine c_seq ?_
     refine c_region ?_; refine l_op (o_val r_as ?_); refine l_op (o_val r_as ?_); refine l_op (o_val r_as ?_); first | refine l_end ?_ | refine l_nil ?_
     refine c_ret ?_; try dsimp only [Exit.then, Exit.inBlock]
     refine e_retN (vs := [.slice none 0 0, VI 0, VI 3]) _ Try.results80 rfl (resT (v := .slice none 0 0) rfl (resT (v := VI 0) rfl (resT (v := VI 3) rfl (resZ)))) ?_
     refine ⟨_, rfl, ?_⟩
     exact ⟨none, 0, [], 0, _, rfl, txtRes_bad hco4 (by first | decide | (intro h; omega)) (by omega), H.nilEnd 5 1⟩
    ·
     repeat refine c_seq ?_
     refine c_no (by exact congrArg Value.bool (decide_eq_false hc7)) ?_; refine c_skip ?_; repeat refine c_seq ?_
     refine c_region ?_; refine l_op (o_val r_mv ?_); refine l_op (o_val r_mv ?_); refine l_op (o_val (r_conv Try.underlying91 Try.underlying3 rfl (w_i64_64 (by omega))) ?_); refine l_op (o_val (r_bin (a := (k2 : Int)) (b := (x1.toNat : Int)) rfl rfl (fun _ => b_add (by omega) (by omega))) ?_); refine l_op (o_val r_as ?_); first | refine l_end ?_ | refine l_nil ?_
     repeat refine c_seq ?_
     refine c_region ?_; refine l_op (o_val r_mv ?_); refine l_op (o_val r_mv ?_); refine l_op (o_val r_mv ?_); refine l_op (o_val (r_slS (s := s) k2 (k2 + x1.toNat) s.cap (lv := some (VI (k2 : Int))) (hv := some (VI ((k2 : Int) + (x1.toNat : Int)))) (mv := none) rfl el32 rfl rfl rfl (fun w => by exact sblh k2 (k2 + x1.toNat) (by omega) (by omega) (by (try simp only [Sl.cut]); omega) (by (try simp only [Sl.cut]); omega) w)) ?_); refine l_op (o_callR Try.func87 rfl rfl rfl (own_ret _ (Sl.cut s k2 (k2 + x1.toNat) s.cap) ((hs.up H (fun _ => apart_nil _)).cut (l := k2) (h := k2 + x1.toNat) (m := s.cap) (by omega) (by (try simp only [Sl.cut]); omega) (by omega) (by (try simp only [Sl.cut]); omega)) 0 (by (try simp only [Sl.cut]); omega)) ?_); rintro _ w ⟨a8, c9, rfl, Hc⟩
     replace H : Hp _ w _ ([.own a8 (k2 + x1.toNat - k2) c9 ((((s.l).drop k2).take (k2 + x1.toNat - k2)).map V8) 5 1]) := H.call Hc
     clear Hc
     refine l_op (o_val r_mv ?_); refine l_op (o_val r_as ?_); refine l_op (o_val r_as ?_); refine l_op (o_val r_as ?_); first | refine l_end ?_ | refine l_nil ?_
     refine c_ret ?_; try dsimp only [Exit.then, Exit.inBlock]
     refine e_retN (vs := [.slice (hd a8) (k2 + x1.toNat - k2) c9, VI ((k2 : Int) + (x1.toNat : Int)), VI 0]) _ Try.results80 rfl (resT (v := .slice (hd a8) (k2 + x1.toNat - k2) c9) rfl (resT (v := VI ((k2 : Int) + (x1.toNat : Int))) rfl (resT (v := VI 0) rfl (resZ)))) ?_
     refine ⟨_, rfl, ?_⟩
     have he0 : e3 = 0 := by omega
     subst he0
     have hto := txtRes_ok hco4 (by omega) (by omega)
     have hl : ((s.l.drop k2).take x1.toNat).length = x1.toNat := by simp; omega
     have e1 : ((s.l).drop k2).take (k2 + x1.toNat - k2) = (s.l.drop k2).take x1.toNat := by congr 1; omega
     have e2 : k2 + x1.toNat - k2 = ((s.l.drop k2).take x1.toNat).length := by omega
     rw [e1, e2] at H
     rw [e2]
     exact ⟨_, _, _, _, _, rfl, hto, H.sub (.cons_cons _ (List.nil_sublist _))⟩
end Go.Proofs.Ytomjbabllcmodaa
namespace Go.Proofs.Ytomjbabllcmodaa
open Go
set_option maxRecDepth 100000
def itE (x : It) : List Value := ([.string ⟨(x.name).toArray⟩, VI x.kind] : List Value) ++ ((x.of.1).map V8 ++ (([VI x.size] : List Value)))
theorem itE_len (x : It) : (itE x).length = 35 := by
  show (([.string ⟨(x.name).toArray⟩, VI x.kind] : List Value) ++ ((x.of.1).map V8 ++ (([VI x.size] : List Value)))).length = 35
  exact (by simp only [List.length_append, List.length_map, List.length_cons, List.length_nil, (show (x.of.1).length = 32 from x.of.2)])
theorem itE_all (x : It) : (itE x).all (·.oneCell') = true := by
  show (([.string ⟨(x.name).toArray⟩, VI x.kind] : List Value) ++ ((x.of.1).map V8 ++ (([VI x.size] : List Value)))).all (·.oneCell') = true
  exact (by first | (simp [Value.oneCell', List.all_append, List.all_map]; done) | (simp only [List.all_append, List.all_cons, List.all_nil, List.all_map]; simp [Value.oneCell', Function.comp_def]))
theorem hd_tail {L : List UInt8} (h : 0 < L.length) : L = L.getD 0 0 :: L.drop 1 := by
  cases L with
  | nil => simp at h
  | cons a t => rfl
theorem item_no1 {L t : List UInt8} {k : Nat} {e : Int} (h : TxtRes (L.drop 1) t k e) (he : ¬ e = 0) (hL : 0 < L.length) : NoIt L := by
  rw [hd_tail hL]
  rcases h with ⟨h1, _⟩ | ⟨_, h2⟩
  · exact absurd h1 he
  · exact noIt_txt h2
theorem item_text {L t : List UInt8} {k : Nat} (h : TxtRes (L.drop 1) t k 0) (hL : 0 < L.length) : t.length ≤ 65536 ∧ L = L.getD 0 0 :: (cnt t.length ++ (t ++ L.drop (1 + k))) := by
  rcases h with ⟨_, h1, _, h3⟩ | ⟨h1, _⟩
  · refine ⟨h1, ?_⟩
    rw [List.drop_drop] at h3
    rw [← h3]; exact hd_tail hL
  · exact absurd rfl h1
theorem item_no2 {L t : List UInt8} {k : Nat} (h : TxtRes (L.drop 1) t k 0) (hL : 0 < L.length) (hs : L.length - (1 + k) < 32) : NoIt L := by
  rw [(item_text h hL).2]
  exact noIt_short (by rw [List.length_drop]; exact hs)
theorem item_split {L : List UInt8} {k : Nat} : L.drop k = (L.drop k).take 32 ++ L.drop (k + 32) := by
  rw [← List.drop_drop, List.take_append_drop]
theorem item_no3 {L t : List UInt8} {k k2 : Nat} {x : UInt64} {e2 : Int} (h : TxtRes (L.drop 1) t k 0) (hL : 0 < L.length) (hs : ¬ L.length - (1 + k) < 32) (hc : CntRes (L.drop (1 + k + 32)) x k2 e2) (hbad : ¬ e2 = 0 ∨ 9223372036854775807 < x.toNat) : NoIt L := by
  rw [(item_text h hL).2, item_split]
  refine noIt_size (by rw [List.length_take, List.length_drop]; omega) ?_
  rcases hc with ⟨h1, h2, h3, h4⟩ | ⟨_, h2⟩
  · rcases hbad with h5 | h5
    · exact absurd h1 h5
    · exact .inr ⟨x.toNat, _, h3, h5⟩
  · exact .inl h2
theorem item_yes {L t : List UInt8} {k k2 : Nat} {x : UInt64} {o : Id32} (h : TxtRes (L.drop 1) t k 0) (hL : 0 < L.length) (ho : o.1 = (L.drop (1 + k)).take 32) (hc : CntRes (L.drop (1 + k + 32)) x k2 0) (hx : ¬ 9223372036854775807 < x.toNat) :
    (⟨t, ((L.getD 0 0).toNat : Int), o, (x.toNat : Int)⟩ : It).fits ∧ L = itB ⟨t, ((L.getD 0 0).toNat : Int), o, (x.toNat : Int)⟩ ++ L.drop (1 + k + 32 + k2) := by
  obtain ⟨ht, hl⟩ := item_text h hL
  have hb := UInt8.toNat_lt (L.getD 0 0)
  refine ⟨⟨⟨⟨by simp only; omega, by simp only; omega⟩, by simp only; omega⟩, ht, by simp only; omega⟩, ?_⟩
  rcases hc with ⟨_, h2, h3, h4⟩ | ⟨h1, _⟩
  · have e : itB ⟨t, ((L.getD 0 0).toNat : Int), o, (x.toNat : Int)⟩ = L.getD 0 0 :: (cnt t.length ++ (t ++ ((L.drop (1 + k)).take 32 ++ cnt x.toNat))) := by
      simp only [itB, ho, Int.toNat_natCast, UInt8.ofNat_toNat]
    rw [e]
    conv => lhs; rw [hl, item_split, h3]
    simp only [List.cons_append, List.append_assoc, List.drop_drop]
  · exact absurd rfl h1
theorem cut_l1 {s : Sl} {w : World} (hs : s.ok w) : (s.cut 1 s.len s.cap).l = s.l.drop 1 := by
  simp only [Sl.cut]; rw [List.take_of_length_le (by rw [List.length_drop, hs.ln]; omega)]
theorem cut_l2 {s : Sl} {w : World} (hs : s.ok w) (k : Nat) : ((s.cut k s.len s.cap).cut 32 (s.len - k) (s.cap - k)).l = s.l.drop (k + 32) := by
  simp only [Sl.cut]
  rw [List.take_of_length_le (by simp only [List.length_drop, List.length_take]; have := hs.ln; omega), List.take_of_length_le (by rw [List.length_drop, hs.ln]; omega), List.drop_drop]
theorem cut_l3 {s : Sl} {w : World} (hs : s.ok w) (k j : Nat) : (((s.cut k s.len s.cap).cut 32 (s.len - k) (s.cap - k)).cut j (s.len - k - 32) (s.cap - k - 32)).l = s.l.drop (k + 32 + j) := by
  have e := cut_l2 hs k
  rw [Sl.cut]; simp only [e]
  rw [List.drop_drop, List.take_of_length_le (by rw [List.length_drop, hs.ln]; omega)]
theorem item_ret (w0 : World) (s : Sl) (hs : s.ok w0) (hm : s.len ≤ 1048576) :
    Ret Try.prog 62 [s.v] w0 fun v w' => ∃ (x : It) (r : Sl) (b : Bool), v = .tuple #[.agg (itE x).toArray, r.v, .bool b] ∧ (∀ w : World, s.ok w → r.ok w) ∧ r.len ≤ s.len ∧ ((b = true ∧ x.fits ∧ s.l = itB x ++ r.l) ∨ (b = false ∧ NoIt s.l)) ∧ Hp w0 w' [] [] := by
  refine ret_mk Try.func62 rfl Try.ntmps62 (by simp) ?_
  have H := Hp.refl w0 []
  have hsl := hs.ln
  have hle := hs.le
  have hmx := hs.mx
  repeat refine c_seq ?_
  refine c_region ?_; refine l_op (o_alloc H zc54 (fun b1 w H hb1 => ?_)); replace H : Hp _ w _ ([.blk b1 (([.string ⟨(([] : List UInt8)).toArray⟩, VI 0] : List Value) ++ ((List.replicate 32 (0 : UInt8)).map V8 ++ (([VI 0] : List Value)))) 54]) := H
  refine l_op (o_val r_as ?_); refine l_op (o_val r_as ?_); first | refine l_end ?_ | refine l_nil ?_
  repeat refine c_seq ?_
  refine c_region ?_; refine l_op (o_alloc H zc54 (fun b2 w H hb2 => ?_)); replace H : Hp _ w _ ([_, .blk b2 (([.string ⟨(([] : List UInt8)).toArray⟩, VI 0] : List Value) ++ ((List.replicate 32 (0 : UInt8)).map V8 ++ (([VI 0] : List Value)))) 54]) := H
  first | refine l_end ?_ | refine l_nil ?_
  repeat refine c_seq ?_
  refine c_region ?_; refine l_op (o_val r_mv ?_); refine l_op (o_val (r_lens el32 rfl) ?_); refine l_op (o_val (r_bin (a := (s.len : Int)) (b := 0) rfl rfl (fun _ => b_eql)) ?_); first | refine l_end ?_ | refine l_nil ?_
  by_cases hc3 : (s.len : Int) = 0
  ·
   repeat refine c_seq ?_
   refine c_yes (by exact congrArg Value.bool (decide_eq_true hc3)) ?_; repeat refine c_seq ?_
   refine c_region ?_; refine l_op (o_val (r_ldA (C := ([.string ⟨(([] : List UInt8)).toArray⟩, VI 0] : List Value) ++ ((List.replicate 32 (0 : UInt8)).map V8 ++ (([VI 0] : List Value)))) H (i := 1) rfl rfl rt54 (by simp only [List.length_append, List.length_map, List.length_cons, List.length_nil, (show (List.replicate 32 (0 : UInt8)).length = 32 from (List.length_replicate ..))])) ?_); refine l_op (o_stW (C' := ([.string ⟨(([] : List UInt8)).toArray⟩, VI 0] : List Value) ++ ((List.replicate 32 (0 : UInt8)).map V8 ++ (([VI 0] : List Value)))) H (i := 0) rfl rfl rfl cs54 (by first | (simp [V8, Value.oneCell']; done) | (simp only [List.all_append, List.all_cons, List.all_nil, List.all_map]; simp [Value.oneCell', Function.comp_def])) (by simp only [List.length_append, List.length_map, List.length_cons, List.length_nil, (show (List.replicate 32 (0 : UInt8)).length = 32 from (List.length_replicate ..))]) (by simp only [List.length_append, List.length_map, List.length_cons, List.length_nil, (show (List.replicate 32 (0 : UInt8)).length = 32 from (List.length_replicate ..))]) (fun w H => ?_)); replace H : Hp _ w _ [_, _] := H
   refine l_op (o_val r_as ?_); refine l_op (o_val r_as ?_); first | refine l_end ?_ | refine l_nil ?_
   refine c_ret ?_; try dsimp only [Exit.then, Exit.inBlock]
   refine e_retN (vs := [.agg (([.string ⟨(([] : List UInt8)).toArray⟩, VI 0] : List Value) ++ ((List.replicate 32 (0 : UInt8)).map V8 ++ (([VI 0] : List Value)))).toArray, .slice none 0 0, .bool false]) _ Try.results62 rfl (H.resR (C := ([.string ⟨(([] : List UInt8)).toArray⟩, VI 0] : List Value) ++ ((List.replicate 32 (0 : UInt8)).map V8 ++ (([VI 0] : List Value)))) (i := 0) rfl rfl rt54 (by simp only [List.length_append, List.length_map, List.length_cons, List.length_nil, (show (List.replicate 32 (0 : UInt8)).length = 32 from (List.length_replicate ..))]) (resT (v := .slice none 0 0) rfl (resT (v := .bool false) rfl (resZ)))) ?_
   refine ⟨_, rfl, ?_⟩
   have h0 : s.l = [] := List.eq_nil_of_length_eq_zero (by omega)
   exact ⟨(⟨([] : List UInt8), 0, (⟨List.replicate 32 (0 : UInt8), (show (List.replicate 32 (0 : UInt8)).length = 32 from (List.length_replicate ..))⟩ : Id32), 0⟩ : It), ⟨none, 0, 0, []⟩, false, rfl, fun _ _ => Sl.ok_nil _, by simp, .inr ⟨rfl, h0 ▸ noIt_nil⟩, H.sub (List.nil_sublist _)⟩
  ·
   repeat refine c_seq ?_
   refine c_no (by exact congrArg Value.bool (decide_eq_false hc3)) ?_; refine c_skip ?_; repeat refine c_seq ?_
   refine c_region ?_; refine l_op (o_val r_mv ?_); have ah6 := ((hs.up H (fun _ => apart_nil _))).addr (by (try simp only [Sl.cut]); omega)
   obtain ⟨ab4, ao5, ah6⟩ := ah6
   refine l_op (o_val (r_isN 0 rfl rfl el32 ah6 (by omega) (by (try simp only [Sl.cut]); omega)) ?_); refine l_op (o_val (r_ldB (s := s) (k := 0) (hs.up H (fun _ => apart_nil _)) ah6 rfl ct5 (by (try simp only [Sl.cut]); omega)) ?_); refine l_op (o_val (r_conv Try.underlying5 Try.underlying3 rfl (w_i64_8 _)) ?_); refine l_op (o_val (r_fa rfl fo54_1) ?_); refine l_op (o_s1 (u := VI (((s.l).getD 0 0).toNat : Int)) H (i := 1) rfl rfl rfl cs3 rfl (show Cut3 (([.string ⟨(([] : List UInt8)).toArray⟩, VI 0] : List Value) ++ ((List.replicate 32 (0 : UInt8)).map V8 ++ (([VI 0] : List Value)))) (([.string ⟨(([] : List UInt8)).toArray⟩] : List Value)) (([VI 0] : List Value)) ((List.replicate 32 (0 : UInt8)).map V8 ++ (([VI 0] : List Value))) 1 1 from ⟨(show ([.string ⟨(([] : List UInt8)).toArray⟩, VI 0] : List Value) ++ ((List.replicate 32 (0 : UInt8)).map V8 ++ (([VI 0] : List Value))) = ([.string ⟨(([] : List UInt8)).toArray⟩] : List Value) ++ ((([VI 0] : List Value)) ++ ((List.replicate 32 (0 : UInt8)).map V8 ++ (([VI 0] : List Value)))) from by simp only [List.cons_append, List.nil_append]), (by rfl), (by rfl)⟩) (fun w H => ?_))
   rw [show ([.string ⟨(([] : List UInt8)).toArray⟩] : List Value) ++ (([VI (((s.l).getD 0 0).toNat : Int)] : List Value) ++ ((List.replicate 32 (0 : UInt8)).map V8 ++ (([VI 0] : List Value)))) = ([.string ⟨(([] : List UInt8)).toArray⟩, VI (((s.l).getD 0 0).toNat : Int)] : List Value) ++ ((List.replicate 32 (0 : UInt8)).map V8 ++ (([VI 0] : List Value))) from by simp only [List.cons_append, List.nil_append]] at H
   replace H : Hp _ w _ ([_, .blk b2 (([.string ⟨(([] : List UInt8)).toArray⟩, VI (((s.l).getD 0 0).toNat : Int)] : List Value) ++ ((List.replicate 32 (0 : UInt8)).map V8 ++ (([VI 0] : List Value)))) 54]) := H
   first | refine l_end ?_ | refine l_nil ?_
   repeat refine c_seq ?_
   refine c_region ?_; refine l_op (o_val r_mv ?_); refine l_op (o_val (r_slS (s := s) 1 s.len s.cap (lv := some (VI 1)) (hv := none) (mv := none) rfl el32 rfl rfl rfl (fun w => by exact sbl 1 (by omega) (by (try simp only [Sl.cut]); omega) w)) ?_); refine l_op (o_callR Try.func80 rfl rfl rfl (takeText_ret _ (Sl.cut s 1 s.len s.cap) ((hs.up H (fun _ => apart_nil _)).cut (l := 1) (h := s.len) (m := s.cap) (by omega) (by (try simp only [Sl.cut]); omega) (by omega) (by (try simp only [Sl.cut]); omega)) (by (try simp only [Sl.cut]); omega)) ?_); rintro _ w ⟨a7, c8, t9, k10, e11, rfl, hto12, Hc⟩
   replace H : Hp _ w _ ([_, _, .own a7 t9.length c8 ((t9).map V8) 5 1]) := H.call Hc
   clear Hc
   have hto12n : e11 = 0 → k10 ≤ (((s.l).drop 1).take (s.len - 1)).length := fun h => hto12.elim (fun h1 => h1.2.2.1) (fun h1 => absurd h h1.1)
   try simp only [List.length_take, List.length_drop] at hto12n
   refine l_op (o_val r_mv ?_); refine l_op (o_val (r_ext rfl rfl) ?_); refine l_op (o_val (r_ext rfl rfl) ?_); refine l_op (o_val (r_ext rfl rfl) ?_); refine l_op (o_val r_as ?_); refine l_op (o_val r_as ?_); refine l_op (o_val r_as ?_); first | refine l_end ?_ | refine l_nil ?_
   repeat refine c_seq ?_
   refine c_region ?_; refine l_op (o_val r_mv ?_); refine l_op (o_val (r_bin (a := e11) (b := 0) rfl rfl (fun _ => b_neq)) ?_); first | refine l_end ?_ | refine l_nil ?_
   by_cases hc13 : e11 ≠ 0
   ·
    repeat refine c_seq ?_
    refine c_yes (by exact congrArg Value.bool (decide_eq_true hc13)) ?_; repeat refine c_seq ?_
    refine c_region ?_; refine l_op (o_val (r_ldA (C := ([.string ⟨(([] : List UInt8)).toArray⟩, VI (((s.l).getD 0 0).toNat : Int)] : List Value) ++ ((List.replicate 32 (0 : UInt8)).map V8 ++ (([VI 0] : List Value)))) H (i := 1) rfl rfl rt54 (by simp only [List.length_append, List.length_map, List.length_cons, List.length_nil, (show (List.replicate 32 (0 : UInt8)).length = 32 from (List.length_replicate ..))])) ?_); refine l_op (o_stW (C' := ([.string ⟨(([] : List UInt8)).toArray⟩, VI (((s.l).getD 0 0).toNat : Int)] : List Value) ++ ((List.replicate 32 (0 : UInt8)).map V8 ++ (([VI 0] : List Value)))) H (i := 0) rfl rfl rfl cs54 (by first | (simp [V8, Value.oneCell']; done) | (simp only [List.all_append, List.all_cons, List.all_nil, List.all_map]; simp [Value.oneCell', Function.comp_def])) (by simp only [List.length_append, List.length_map, List.length_cons, List.length_nil, (show (List.replicate 32 (0 : UInt8)).length = 32 from (List.length_replicate ..))]) (by simp only [List.length_append, List.length_map, List.length_cons, List.length_nil, (show (List.replicate 32 (0 : UInt8)).length = 32 from (List.length_replicate ..))]) (fun w H => ?_)); replace H : Hp _ w _ ([.blk b1 (([.string ⟨(([] : List UInt8)).toArray⟩, VI (((s.l).getD 0 0).toNat : Int)] : List Value) ++ ((List.replicate 32 (0 : UInt8)).map V8 ++ (([VI 0] : List Value)))) 54, _, _]) := H
    refine l_op (o_val r_as ?_); refine l_op (o_val r_as ?_); first | refine l_end ?_ | refine l_nil ?_
    refine c_ret ?_; try dsimp only [Exit.then, Exit.inBlock]
    refine e_retN (vs := [.agg (([.string ⟨(([] : List UInt8)).toArray⟩, VI (((s.l).getD 0 0).toNat : Int)] : List Value) ++ ((List.replicate 32 (0 : UInt8)).map V8 ++ (([VI 0] : List Value)))).toArray, .slice none 0 0, .bool false]) _ Try.results62 rfl (H.resR (C := ([.string ⟨(([] : List UInt8)).toArray⟩, VI (((s.l).getD 0 0).toNat : Int)] : List Value) ++ ((List.replicate 32 (0 : UInt8)).map V8 ++ (([VI 0] : List Value)))) (i := 0) rfl rfl rt54 (by simp only [List.length_append, List.length_map, List.length_cons, List.length_nil, (show (List.replicate 32 (0 : UInt8)).length = 32 from (List.length_replicate ..))]) (resT (v := .slice none 0 0) rfl (resT (v := .bool false) rfl (resZ)))) ?_
    refine ⟨_, rfl, ?_⟩
    rw [cut_l1 hs] at hto12
    exact ⟨(⟨([] : List UInt8), (((s.l).getD 0 0).toNat : Int), (⟨List.replicate 32 (0 : UInt8), (show (List.replicate 32 (0 : UInt8)).length = 32 from (List.length_replicate ..))⟩ : Id32), 0⟩ : It), ⟨none, 0, 0, []⟩, false, rfl, fun _ _ => Sl.ok_nil _, by simp, .inr ⟨rfl, item_no1 hto12 (by omega) (by omega)⟩, H.sub (List.nil_sublist _)⟩
   ·
    repeat refine c_seq ?_
    refine c_no (by exact congrArg Value.bool (decide_eq_false hc13)) ?_; refine c_skip ?_; repeat refine c_seq ?_
    refine c_region ?_; refine l_op (o_val r_mv ?_); refine l_op (o_val r_mv ?_); refine l_op (o_val (r_bin (a := 1) (b := (k10 : Int)) rfl rfl (fun _ => b_add (by omega) (by omega))) ?_); refine l_op (o_val (r_slS (s := s) (1 + k10) s.len s.cap (lv := some (VI (1 + (k10 : Int)))) (hv := none) (mv := none) rfl el32 rfl rfl rfl (fun w => by exact sbl (1 + k10) (by omega) (by (try simp only [Sl.cut]); omega) w)) ?_); refine l_op (o_val r_as ?_); first | refine l_end ?_ | refine l_nil ?_
    repeat refine c_seq ?_
    refine c_region ?_; refine l_op (o_val r_mv ?_); refine l_op (o_val (r_lens el32 rfl) ?_); refine l_op (o_val (r_bin (a := ((s.len - (1 + k10) : Nat) : Int)) (b := 32) rfl rfl (fun _ => b_lss)) ?_); first | refine l_end ?_ | refine l_nil ?_
    by_cases hc14 : ((s.len - (1 + k10) : Nat) : Int) < 32
    ·
     repeat refine c_seq ?_
     refine c_yes (by exact congrArg Value.bool (decide_eq_true hc14)) ?_; repeat refine c_seq ?_
     refine c_region ?_; refine l_op (o_val (r_ldA (C := ([.string ⟨(([] : List UInt8)).toArray⟩, VI (((s.l).getD 0 0).toNat : Int)] : List Value) ++ ((List.replicate 32 (0 : UInt8)).map V8 ++ (([VI 0] : List Value)))) H (i := 1) rfl rfl rt54 (by simp only [List.length_append, List.length_map, List.length_cons, List.length_nil, (show (List.replicate 32 (0 : UInt8)).length = 32 from (List.length_replicate ..))])) ?_); refine l_op (o_stW (C' := ([.string ⟨(([] : List UInt8)).toArray⟩, VI (((s.l).getD 0 0).toNat : Int)] : List Value) ++ ((List.replicate 32 (0 : UInt8)).map V8 ++ (([VI 0] : List Value)))) H (i := 0) rfl rfl rfl cs54 (by first | (simp [V8, Value.oneCell']; done) | (simp only [List.all_append, List.all_cons, List.all_nil, List.all_map]; simp [Value.oneCell', Function.comp_def])) (by simp only [List.length_append, List.length_map, List.length_cons, List.length_nil, (show (List.replicate 32 (0 : UInt8)).length = 32 from (List.length_replicate ..))]) (by simp only [List.length_append, List.length_map, List.length_cons, List.length_nil, (show (List.replicate 32 (0 : UInt8)).length = 32 from (List.length_replicate ..))]) (fun w H => ?_)); replace H : Hp _ w _ ([.blk b1 (([.string ⟨(([] : List UInt8)).toArray⟩, VI (((s.l).getD 0 0).toNat : Int)] : List Value) ++ ((List.replicate 32 (0 : UInt8)).map V8 ++ (([VI 0] : List Value)))) 54, _, _]) := H
     refine l_op (o_val r_as ?_); refine l_op (o_val r_as ?_); first | refine l_end ?_ | refine l_nil ?_
     refine c_ret ?_; try dsimp only [Exit.then, Exit.inBlock]
     refine e_retN (vs := [.agg (([.string ⟨(([] : List UInt8)).toArray⟩, VI (((s.l).getD 0 0).toNat : Int)] : List Value) ++ ((List.replicate 32 (0 : UInt8)).map V8 ++ (([VI 0] : List Value)))).toArray, .slice none 0 0, .bool false]) _ Try.results62 rfl (H.resR (C := ([.string ⟨(([] : List UInt8)).toArray⟩, VI (((s.l).getD 0 0).toNat : Int)] : List Value) ++ ((List.replicate 32 (0 : UInt8)).map V8 ++ (([VI 0] : List Value)))) (i := 0) rfl rfl rt54 (by simp only [List.length_append, List.length_map, List.length_cons, List.length_nil, (show (List.replicate 32 (0 : UInt8)).length = 32 from (List.length_replicate ..))]) (resT (v := .slice none 0 0) rfl (resT (v := .bool false) rfl (resZ)))) ?_
     refine ⟨_, rfl, ?_⟩
     rw [cut_l1 hs] at hto12
     have he0 : e11 = 0 := by omega
     subst he0
     exact ⟨(⟨([] : List UInt8), (((s.l).getD 0 0).toNat : Int), (⟨List.replicate 32 (0 : UInt8), (show (List.replicate 32 (0 : UInt8)).length = 32 from (List.length_replicate ..))⟩ : Id32), 0⟩ : It), ⟨none, 0, 0, []⟩, false, rfl, fun _ _ => Sl.ok_nil _, by simp, .inr ⟨rfl, item_no2 hto12 (by omega) (by omega)⟩, H.sub (List.nil_sublist _)⟩
    ·
     repeat refine c_seq ?_
     refine c_no (by exact congrArg Value.bool (decide_eq_false hc14)) ?_; refine c_skip ?_; repeat refine c_seq ?_
     refine wp_held (fun w => Hp w0 w [] [.blk b1 (([.string ⟨(([] : List UInt8)).toArray⟩, VI 0] : List Value) ++ ((List.replicate 32 (0 : UInt8)).map V8 ++ (([VI 0] : List Value)))) 54, .own a7 t9.length c8 ((t9).map V8) 5 1]) mixed ?_; replace H := H.drew
     have HS := H.sub (.cons_cons _ (.cons _ (.cons_cons _ (List.nil_sublist _))))
     refine t_take 0 rfl (by kernel_rfl) (by kernel_rfl) (by kernel_rfl) (fun _ _ _ h => h) (fun w HS => r_mv) HS ?_; refine t_take 1 rfl (by kernel_rfl) (by kernel_rfl) (by kernel_rfl) (fun _ _ _ h => h) (fun w HS => r_b2S (s := ⟨hd a7, t9.length, c8, t9⟩) Try.underlying32 Try.underlying5 Try.underlying9 rfl (HS.slOwn (i := 1) rfl)) HS ?_; refine t_take 2 rfl (by kernel_rfl) (by kernel_rfl) (by kernel_rfl) (fun _ _ _ h => h) (fun w HS => r_mv) HS ?_; refine t_take 3 rfl (by kernel_rfl) (by kernel_rfl) (by kernel_rfl) (fun _ _ _ h => h) (fun w HS => r_slS (s := (Sl.cut s (1 + k10) s.len s.cap)) 0 32 (s.cap - (1 + k10)) (lv := none) (hv := some (VI 32)) (mv := none) rfl el32 rfl rfl rfl (fun w => by exact sbh 32 (by omega) (by (try simp only [Sl.cut]); omega) w)) HS ?_; refine t_take 4 rfl (by kernel_rfl) (by kernel_rfl) (by kernel_rfl) (fun _ _ _ h => h) (fun w HS => r_sap Try.underlying29 rfl (by (try simp only [Sl.cut]); omega)) HS ?_; have ah17 := ((((hs.up HS (fun _ => apart_nil _)).cut (l := 1 + k10) (h := s.len) (m := s.cap) (by omega) (by (try simp only [Sl.cut]); omega) (by omega) (by (try simp only [Sl.cut]); omega)).cut (l := 0) (h := 32) (m := s.cap - (1 + k10)) (by omega) (by (try simp only [Sl.cut]); omega) (by omega) (by (try simp only [Sl.cut]); omega))).addr (by (try simp only [Sl.cut]); omega)
     obtain ⟨ab15, ao16, ah17⟩ := ah17
     refine t_take 5 rfl (by kernel_rfl) (by kernel_rfl) (by kernel_rfl) (fun _ _ _ h => h) (fun w HS => r_ldSE (s := (Sl.cut (Sl.cut s (1 + k10) s.len s.cap) 0 32 (s.cap - (1 + k10)))) (k := 32) (((hs.up HS (fun _ => apart_nil _)).cut (l := 1 + k10) (h := s.len) (m := s.cap) (by omega) (by (try simp only [Sl.cut]); omega) (by omega) (by (try simp only [Sl.cut]); omega)).cut (l := 0) (h := 32) (m := s.cap - (1 + k10)) (by omega) (by (try simp only [Sl.cut]); omega) (by omega) (by (try simp only [Sl.cut]); omega)) ah17 rfl rt29 (by decide) rfl) HS ?_; refine t_take 6 rfl (by kernel_rfl) (by kernel_rfl) (by kernel_rfl) (fun _ _ _ h => h) (fun w HS => r_fa rfl fo54_0) HS ?_; refine t_step 7 rfl (by kernel_rfl) (o_s1 (u := .string ⟨(t9).toArray⟩) H (i := 1) rfl rfl rfl cs9 rfl (show Cut3 (([.string ⟨(([] : List UInt8)).toArray⟩, VI (((s.l).getD 0 0).toNat : Int)] : List Value) ++ ((List.replicate 32 (0 : UInt8)).map V8 ++ (([VI 0] : List Value)))) (([] : List Value)) (([.string ⟨(([] : List UInt8)).toArray⟩] : List Value)) (([VI (((s.l).getD 0 0).toNat : Int)] : List Value) ++ ((List.replicate 32 (0 : UInt8)).map V8 ++ (([VI 0] : List Value)))) 0 1 from ⟨(show ([.string ⟨(([] : List UInt8)).toArray⟩, VI (((s.l).getD 0 0).toNat : Int)] : List Value) ++ ((List.replicate 32 (0 : UInt8)).map V8 ++ (([VI 0] : List Value))) = ([] : List Value) ++ ((([.string ⟨(([] : List UInt8)).toArray⟩] : List Value)) ++ (([VI (((s.l).getD 0 0).toNat : Int)] : List Value) ++ ((List.replicate 32 (0 : UInt8)).map V8 ++ (([VI 0] : List Value))))) from by simp only [List.cons_append, List.nil_append]), (by rfl), (by rfl)⟩) (fun w H => ?_))
     rw [show ([] : List Value) ++ (([.string ⟨(t9).toArray⟩] : List Value) ++ (([VI (((s.l).getD 0 0).toNat : Int)] : List Value) ++ ((List.replicate 32 (0 : UInt8)).map V8 ++ (([VI 0] : List Value))))) = ([.string ⟨(t9).toArray⟩, VI (((s.l).getD 0 0).toNat : Int)] : List Value) ++ ((List.replicate 32 (0 : UInt8)).map V8 ++ (([VI 0] : List Value))) from by simp only [List.cons_append, List.nil_append]] at H
     replace H : Hp _ w _ ([_, .blk b2 (([.string ⟨(t9).toArray⟩, VI (((s.l).getD 0 0).toNat : Int)] : List Value) ++ ((List.replicate 32 (0 : UInt8)).map V8 ++ (([VI 0] : List Value)))) 54, _]) := H
     refine ⟨H.sub (.cons_cons _ (.cons _ (.cons_cons _ (List.nil_sublist _)))), ?_⟩
     replace HS := H.sub (.cons_cons _ (.cons _ (.cons_cons _ (List.nil_sublist _))))
     refine t_take 8 rfl (by kernel_rfl) (by kernel_rfl) (by kernel_rfl) (fun _ _ _ h => h) (fun w HS => r_fa rfl fo54_2) HS ?_; refine t_step 9 rfl (by kernel_rfl) (o_sk (V := (((((s.l).drop (1 + k10)).take (s.len - (1 + k10))).drop 0).take (32)).map V8) H (i := 1) rfl rfl rfl cs29 (by first | (simp [Value.oneCell']; done) | (simp only [List.all_map]; simp [Value.oneCell', Function.comp_def])) (by simp only [List.length_map, (show (((((s.l).drop (1 + k10)).take (s.len - (1 + k10))).drop 0).take (32)).length = 32 from (by simp only [List.length_take, List.length_drop]; omega))]) (show Cut3 (([.string ⟨(t9).toArray⟩, VI (((s.l).getD 0 0).toNat : Int)] : List Value) ++ ((List.replicate 32 (0 : UInt8)).map V8 ++ (([VI 0] : List Value)))) (([.string ⟨(t9).toArray⟩, VI (((s.l).getD 0 0).toNat : Int)] : List Value)) ((List.replicate 32 (0 : UInt8)).map V8) (([VI 0] : List Value)) 2 32 from ⟨(show ([.string ⟨(t9).toArray⟩, VI (((s.l).getD 0 0).toNat : Int)] : List Value) ++ ((List.replicate 32 (0 : UInt8)).map V8 ++ (([VI 0] : List Value))) = ([.string ⟨(t9).toArray⟩, VI (((s.l).getD 0 0).toNat : Int)] : List Value) ++ (((List.replicate 32 (0 : UInt8)).map V8) ++ (([VI 0] : List Value))) from by simp only [List.cons_append, List.nil_append]), (by rfl), (by simp only [List.length_map, (show (List.replicate 32 (0 : UInt8)).length = 32 from (List.length_replicate ..))])⟩) (fun w H => ?_))
     rw [show ([.string ⟨(t9).toArray⟩, VI (((s.l).getD 0 0).toNat : Int)] : List Value) ++ (((((((s.l).drop (1 + k10)).take (s.len - (1 + k10))).drop 0).take (32)).map V8) ++ (([VI 0] : List Value))) = ([.string ⟨(t9).toArray⟩, VI (((s.l).getD 0 0).toNat : Int)] : List Value) ++ ((((((s.l).drop (1 + k10)).take (s.len - (1 + k10))).drop 0).take (32)).map V8 ++ (([VI 0] : List Value))) from by simp only [List.cons_append, List.nil_append]] at H
     replace H : Hp _ w _ ([_, .blk b2 (([.string ⟨(t9).toArray⟩, VI (((s.l).getD 0 0).toNat : Int)] : List Value) ++ ((((((s.l).drop (1 + k10)).take (s.len - (1 + k10))).drop 0).take (32)).map V8 ++ (([VI 0] : List Value)))) 54, _]) := H
     refine ⟨H.sub (.cons_cons _ (.cons _ (.cons_cons _ (List.nil_sublist _)))), ?_⟩
     replace HS := H.sub (.cons_cons _ (.cons _ (.cons_cons _ (List.nil_sublist _))))
     refine t_done (by kernel_rfl) ?_
     clear HS
     repeat refine c_seq ?_
     refine c_region ?_; refine l_op (o_val r_mv ?_); refine l_op (o_val (r_slS (s := (Sl.cut s (1 + k10) s.len s.cap)) 32 (s.len - (1 + k10)) (s.cap - (1 + k10)) (lv := some (VI 32)) (hv := none) (mv := none) rfl el32 rfl rfl rfl (fun w => by exact sbl 32 (by omega) (by (try simp only [Sl.cut]); omega) w)) ?_); refine l_op (o_val r_as ?_); first | refine l_end ?_ | refine l_nil ?_
     repeat refine c_seq ?_
     refine c_region ?_; refine l_op (o_val r_mv ?_); refine l_op (o_callR Try.func61 rfl rfl rfl (takeCount_ret _ (Sl.cut (Sl.cut s (1 + k10) s.len s.cap) 32 (s.len - (1 + k10)) (s.cap - (1 + k10))) (((hs.up H (fun _ => apart_nil _)).cut (l := 1 + k10) (h := s.len) (m := s.cap) (by omega) (by (try simp only [Sl.cut]); omega) (by omega) (by (try simp only [Sl.cut]); omega)).cut (l := 32) (h := s.len - (1 + k10)) (m := s.cap - (1 + k10)) (by omega) (by (try simp only [Sl.cut]); omega) (by omega) (by (try simp only [Sl.cut]); omega)) (by (try simp only [Sl.cut]); omega)) ?_); rintro _ w ⟨x18, k19, e20, rfl, hco21, Hc⟩
     replace H : Hp _ w _ ([_, _, _]) := H.call Hc
     clear Hc
     have hco21n : e20 = 0 → k19 ≤ (((((s.l).drop (1 + k10)).take (s.len - (1 + k10))).drop 32).take (s.len - (1 + k10) - 32)).length := fun h => hco21.elim (fun h1 => h1.2.1) (fun h1 => absurd h h1.1)
     try simp only [List.length_take, List.length_drop] at hco21n
     refine l_op (o_val r_mv ?_); refine l_op (o_val (r_ext rfl rfl) ?_); refine l_op (o_val (r_ext rfl rfl) ?_); refine l_op (o_val (r_ext rfl rfl) ?_); refine l_op (o_val r_as ?_); refine l_op (o_val r_as ?_); refine l_op (o_val r_as ?_); first | refine l_end ?_ | refine l_nil ?_
     repeat refine c_seq ?_
     refine c_region ?_; refine l_op (o_val r_mv ?_); refine l_op (o_val (r_bin (a := e20) (b := 0) rfl rfl (fun _ => b_neq)) ?_); refine l_op (o_val r_mv ?_)
     by_cases hc22 : e20 ≠ 0
     ·
      refine l_no rfl rfl (by exact congrArg Value.bool (decide_eq_true hc22)) rfl ?_; refine l_no rfl rfl (by exact congrArg Value.bool (decide_eq_true hc22)) rfl ?_; refine l_op (o_val (r_pick (b := true) (congrArg Value.bool (decide_eq_true hc22))) ?_); first | refine l_end ?_ | refine l_nil ?_
      repeat refine c_seq ?_
      refine c_yes rfl ?_; repeat refine c_seq ?_
      refine c_region ?_; refine l_op (o_val (r_ldA (C := ([.string ⟨(t9).toArray⟩, VI (((s.l).getD 0 0).toNat : Int)] : List Value) ++ ((((((s.l).drop (1 + k10)).take (s.len - (1 + k10))).drop 0).take (32)).map V8 ++ (([VI 0] : List Value)))) H (i := 1) rfl rfl rt54 (by simp only [List.length_append, List.length_map, List.length_cons, List.length_nil, (show (((((s.l).drop (1 + k10)).take (s.len - (1 + k10))).drop 0).take (32)).length = 32 from (by simp only [List.length_take, List.length_drop]; omega))])) ?_); refine l_op (o_stW (C' := ([.string ⟨(t9).toArray⟩, VI (((s.l).getD 0 0).toNat : Int)] : List Value) ++ ((((((s.l).drop (1 + k10)).take (s.len - (1 + k10))).drop 0).take (32)).map V8 ++ (([VI 0] : List Value)))) H (i := 0) rfl rfl rfl cs54 (by first | (simp [Value.oneCell', List.all_append]; done) | (simp only [List.all_append, List.all_cons, List.all_nil, List.all_map]; simp [Value.oneCell', Function.comp_def])) (by simp only [List.length_append, List.length_map, List.length_cons, List.length_nil, (show (List.replicate 32 (0 : UInt8)).length = 32 from (List.length_replicate ..))]) (by simp only [List.length_append, List.length_map, List.length_cons, List.length_nil, (show (((((s.l).drop (1 + k10)).take (s.len - (1 + k10))).drop 0).take (32)).length = 32 from (by simp only [List.length_take, List.length_drop]; omega))]) (fun w H => ?_)); replace H : Hp _ w _ ([.blk b1 (([.string ⟨(t9).toArray⟩, VI (((s.l).getD 0 0).toNat : Int)] : List Value) ++ ((((((s.l).drop (1 + k10)).take (s.len - (1 + k10))).drop 0).take (32)).map V8 ++ (([VI 0] : List Value)))) 54, _, _]) := H
      refine l_op (o_val r_as ?_); refine l_op (o_val r_as ?_); first | refine l_end ?_ | refine l_nil ?_
      refine c_ret ?_; try dsimp only [Exit.then, Exit.inBlock]
      refine e_retN (vs := [.agg (([.string ⟨(t9).toArray⟩, VI (((s.l).getD 0 0).toNat : Int)] : List Value) ++ ((((((s.l).drop (1 + k10)).take (s.len - (1 + k10))).drop 0).take (32)).map V8 ++ (([VI 0] : List Value)))).toArray, .slice none 0 0, .bool false]) _ Try.results62 rfl (H.resR (C := ([.string ⟨(t9).toArray⟩, VI (((s.l).getD 0 0).toNat : Int)] : List Value) ++ ((((((s.l).drop (1 + k10)).take (s.len - (1 + k10))).drop 0).take (32)).map V8 ++ (([VI 0] : List Value)))) (i := 0) rfl rfl rt54 (by simp only [List.length_append, List.length_map, List.length_cons, List.length_nil, (show (((((s.l).drop (1 + k10)).take (s.len - (1 + k10))).drop 0).take (32)).length = 32 from (by simp only [List.length_take, List.length_drop]; omega))]) (resT (v := .slice none 0 0) rfl (resT (v := .bool false) rfl (resZ)))) ?_
      refine ⟨_, rfl, ?_⟩
      rw [cut_l1 hs] at hto12
      have he0 : e11 = 0 := by omega
      subst he0
      rw [cut_l2 hs] at hco21
      exact ⟨(⟨t9, (((s.l).getD 0 0).toNat : Int), (⟨((((s.l).drop (1 + k10)).take (s.len - (1 + k10))).drop 0).take (32), (show (((((s.l).drop (1 + k10)).take (s.len - (1 + k10))).drop 0).take (32)).length = 32 from (by simp only [List.length_take, List.length_drop]; omega))⟩ : Id32), 0⟩ : It), ⟨none, 0, 0, []⟩, false, rfl, fun _ _ => Sl.ok_nil _, by simp, .inr ⟨rfl, item_no3 hto12 (by omega) (by omega) hco21 (by omega)⟩, H.sub (List.nil_sublist _)⟩
     ·
      refine l_yes rfl rfl (by exact congrArg Value.bool (decide_eq_false hc22)) (o_val r_mv ?_); refine l_yes rfl rfl (by exact congrArg Value.bool (decide_eq_false hc22)) (o_val (r_bin (a := (x18.toNat : Int)) (b := 9223372036854775807) rfl rfl (fun _ => b_gtr)) ?_); refine l_op (o_val (r_pick (b := false) (congrArg Value.bool (decide_eq_false hc22))) ?_); first | refine l_end ?_ | refine l_nil ?_
      by_cases hc23 : 9223372036854775807 < (x18.toNat : Int)
      ·
       repeat refine c_seq ?_
       refine c_yes (by exact congrArg Value.bool (decide_eq_true hc23)) ?_; repeat refine c_seq ?_
       refine c_region ?_; refine l_op (o_val (r_ldA (C := ([.string ⟨(t9).toArray⟩, VI (((s.l).getD 0 0).toNat : Int)] : List Value) ++ ((((((s.l).drop (1 + k10)).take (s.len - (1 + k10))).drop 0).take (32)).map V8 ++ (([VI 0] : List Value)))) H (i := 1) rfl rfl rt54 (by simp only [List.length_append, List.length_map, List.length_cons, List.length_nil, (show (((((s.l).drop (1 + k10)).take (s.len - (1 + k10))).drop 0).take (32)).length = 32 from (by simp only [List.length_take, List.length_drop]; omega))])) ?_); refine l_op (o_stW (C' := ([.string ⟨(t9).toArray⟩, VI (((s.l).getD 0 0).toNat : Int)] : List Value) ++ ((((((s.l).drop (1 + k10)).take (s.len - (1 + k10))).drop 0).take (32)).map V8 ++ (([VI 0] : List Value)))) H (i := 0) rfl rfl rfl cs54 (by first | (simp [Value.oneCell', List.all_append]; done) | (simp only [List.all_append, List.all_cons, List.all_nil, List.all_map]; simp [Value.oneCell', Function.comp_def])) (by simp only [List.length_append, List.length_map, List.length_cons, List.length_nil, (show (List.replicate 32 (0 : UInt8)).length = 32 from (List.length_replicate ..))]) (by simp only [List.length_append, List.length_map, List.length_cons, List.length_nil, (show (((((s.l).drop (1 + k10)).take (s.len - (1 + k10))).drop 0).take (32)).length = 32 from (by simp only [List.length_take, List.length_drop]; omega))]) (fun w H => ?_)); replace H : Hp _ w _ ([.blk b1 (([.string ⟨(t9).toArray⟩, VI (((s.l).getD 0 0).toNat : Int)] : List Value) ++ ((((((s.l).drop (1 + k10)).take (s.len - (1 + k10))).drop 0).take (32)).map V8 ++ (([VI 0] : List Value)))) 54, _, _]) := H
       refine l_op (o_val r_as ?_); refine l_op (o_val r_as ?_); first | refine l_end ?_ | refine l_nil ?_
       refine c_ret ?_; try dsimp only [Exit.then, Exit.inBlock]
       refine e_retN (vs := [.agg (([.string ⟨(t9).toArray⟩, VI (((s.l).getD 0 0).toNat : Int)] : List Value) ++ ((((((s.l).drop (1 + k10)).take (s.len - (1 + k10))).drop 0).take (32)).map V8 ++ (([VI 0] : List Value)))).toArray, .slice none 0 0, .bool false]) _ Try.results62 rfl (H.resR (C := ([.string ⟨(t9).toArray⟩, VI (((s.l).getD 0 0).toNat : Int)] : List Value) ++ ((((((s.l).drop (1 + k10)).take (s.len - (1 + k10))).drop 0).take (32)).map V8 ++ (([VI 0] : List Value)))) (i := 0) rfl rfl rt54 (by simp only [List.length_append, List.length_map, List.length_cons, List.length_nil, (show (((((s.l).drop (1 + k10)).take (s.len - (1 + k10))).drop 0).take (32)).length = 32 from (by simp only [List.length_take, List.length_drop]; omega))]) (resT (v := .slice none 0 0) rfl (resT (v := .bool false) rfl (resZ)))) ?_
       refine ⟨_, rfl, ?_⟩
       rw [cut_l1 hs] at hto12
       have he0 : e11 = 0 := by omega
       subst he0
       rw [cut_l2 hs] at hco21
       exact ⟨(⟨t9, (((s.l).getD 0 0).toNat : Int), (⟨((((s.l).drop (1 + k10)).take (s.len - (1 + k10))).drop 0).take (32), (show (((((s.l).drop (1 + k10)).take (s.len - (1 + k10))).drop 0).take (32)).length = 32 from (by simp only [List.length_take, List.length_drop]; omega))⟩ : Id32), 0⟩ : It), ⟨none, 0, 0, []⟩, false, rfl, fun _ _ => Sl.ok_nil _, by simp, .inr ⟨rfl, item_no3 hto12 (by omega) (by omega) hco21 (by omega)⟩, H.sub (List.nil_sublist _)⟩
      ·
       repeat refine c_seq ?_
       refine c_no (by exact congrArg Value.bool (decide_eq_false hc23)) ?_; refine c_skip ?_; repeat refine c_seq ?_
       refine c_region ?_; refine l_op (o_val r_mv ?_); refine l_op (o_val (r_conv Try.underlying91 Try.underlying2 rfl (w_i64_64 (by omega))) ?_); refine l_op (o_val (r_fa rfl fo54_3) ?_); refine l_op (o_s1 (u := VI (x18.toNat : Int)) H (i := 1) rfl rfl rfl cs2 rfl (show Cut3 (([.string ⟨(t9).toArray⟩, VI (((s.l).getD 0 0).toNat : Int)] : List Value) ++ ((((((s.l).drop (1 + k10)).take (s.len - (1 + k10))).drop 0).take (32)).map V8 ++ (([VI 0] : List Value)))) (([.string ⟨(t9).toArray⟩, VI (((s.l).getD 0 0).toNat : Int)] : List Value) ++ ((((((s.l).drop (1 + k10)).take (s.len - (1 + k10))).drop 0).take (32)).map V8)) (([VI 0] : List Value)) (([] : List Value)) 34 1 from ⟨(show ([.string ⟨(t9).toArray⟩, VI (((s.l).getD 0 0).toNat : Int)] : List Value) ++ ((((((s.l).drop (1 + k10)).take (s.len - (1 + k10))).drop 0).take (32)).map V8 ++ (([VI 0] : List Value))) = (([.string ⟨(t9).toArray⟩, VI (((s.l).getD 0 0).toNat : Int)] : List Value) ++ ((((((s.l).drop (1 + k10)).take (s.len - (1 + k10))).drop 0).take (32)).map V8)) ++ ((([VI 0] : List Value)) ++ (([] : List Value))) from by simp only [List.cons_append, List.nil_append]), (by simp only [List.length_append, List.length_map, List.length_cons, List.length_nil, (show (((((s.l).drop (1 + k10)).take (s.len - (1 + k10))).drop 0).take (32)).length = 32 from (by simp only [List.length_take, List.length_drop]; omega))]), (by rfl)⟩) (fun w H => ?_))
       rw [show (([.string ⟨(t9).toArray⟩, VI (((s.l).getD 0 0).toNat : Int)] : List Value) ++ ((((((s.l).drop (1 + k10)).take (s.len - (1 + k10))).drop 0).take (32)).map V8)) ++ (([VI (x18.toNat : Int)] : List Value) ++ (([] : List Value))) = ([.string ⟨(t9).toArray⟩, VI (((s.l).getD 0 0).toNat : Int)] : List Value) ++ ((((((s.l).drop (1 + k10)).take (s.len - (1 + k10))).drop 0).take (32)).map V8 ++ (([VI (x18.toNat : Int)] : List Value))) from by simp only [List.cons_append, List.nil_append]] at H
       replace H : Hp _ w _ ([_, .blk b2 (([.string ⟨(t9).toArray⟩, VI (((s.l).getD 0 0).toNat : Int)] : List Value) ++ ((((((s.l).drop (1 + k10)).take (s.len - (1 + k10))).drop 0).take (32)).map V8 ++ (([VI (x18.toNat : Int)] : List Value)))) 54, _]) := H
       first | refine l_end ?_ | refine l_nil ?_
       repeat refine c_seq ?_
       refine wp_held (fun w => Hp w0 w [] [.blk b2 (([.string ⟨(t9).toArray⟩, VI (((s.l).getD 0 0).toNat : Int)] : List Value) ++ ((((((s.l).drop (1 + k10)).take (s.len - (1 + k10))).drop 0).take (32)).map V8 ++ (([VI (x18.toNat : Int)] : List Value)))) 54, .own a7 t9.length c8 ((t9).map V8) 5 1]) mixed ?_; replace H := H.drew
       have HS := H.sub (.cons _ (.cons_cons _ (.cons_cons _ (List.nil_sublist _))))
       refine t_take 0 rfl (by kernel_rfl) (by kernel_rfl) (by kernel_rfl) (fun _ _ _ h => h) (fun w HS => r_ldA (C := ([.string ⟨(t9).toArray⟩, VI (((s.l).getD 0 0).toNat : Int)] : List Value) ++ ((((((s.l).drop (1 + k10)).take (s.len - (1 + k10))).drop 0).take (32)).map V8 ++ (([VI (x18.toNat : Int)] : List Value)))) HS (i := 0) rfl rfl rt54 (by simp only [List.length_append, List.length_map, List.length_cons, List.length_nil, (show (((((s.l).drop (1 + k10)).take (s.len - (1 + k10))).drop 0).take (32)).length = 32 from (by simp only [List.length_take, List.length_drop]; omega))])) HS ?_; refine t_take 1 rfl (by kernel_rfl) (by kernel_rfl) (by kernel_rfl) (fun _ _ _ h => h) (fun w HS => r_mv) HS ?_; refine t_take 2 rfl (by kernel_rfl) (by kernel_rfl) (by kernel_rfl) (fun _ _ _ h => h) (fun w HS => r_mv) HS ?_; refine t_take 3 rfl (by kernel_rfl) (by kernel_rfl) (by kernel_rfl) (fun _ _ _ h => h) (fun w HS => r_slS (s := (Sl.cut (Sl.cut s (1 + k10) s.len s.cap) 32 (s.len - (1 + k10)) (s.cap - (1 + k10)))) k19 (s.len - (1 + k10) - 32) (s.cap - (1 + k10) - 32) (lv := some (VI (k19 : Int))) (hv := none) (mv := none) rfl el32 rfl rfl rfl (fun w => by exact sbl k19 (by omega) (by (try simp only [Sl.cut]); omega) w)) HS ?_; refine t_step 4 rfl (by kernel_rfl) (o_stW (C' := ([.string ⟨(t9).toArray⟩, VI (((s.l).getD 0 0).toNat : Int)] : List Value) ++ ((((((s.l).drop (1 + k10)).take (s.len - (1 + k10))).drop 0).take (32)).map V8 ++ (([VI (x18.toNat : Int)] : List Value)))) H (i := 0) rfl rfl rfl cs54 (by first | (simp [Value.oneCell', List.all_append]; done) | (simp only [List.all_append, List.all_cons, List.all_nil, List.all_map]; simp [Value.oneCell', Function.comp_def])) (by simp only [List.length_append, List.length_map, List.length_cons, List.length_nil, (show (List.replicate 32 (0 : UInt8)).length = 32 from (List.length_replicate ..))]) (by simp only [List.length_append, List.length_map, List.length_cons, List.length_nil, (show (((((s.l).drop (1 + k10)).take (s.len - (1 + k10))).drop 0).take (32)).length = 32 from (by simp only [List.length_take, List.length_drop]; omega))]) (fun w H => ?_)); replace H : Hp _ w _ ([.blk b1 (([.string ⟨(t9).toArray⟩, VI (((s.l).getD 0 0).toNat : Int)] : List Value) ++ ((((((s.l).drop (1 + k10)).take (s.len - (1 + k10))).drop 0).take (32)).map V8 ++ (([VI (x18.toNat : Int)] : List Value)))) 54, _, _]) := H
       refine ⟨H.sub (.cons _ (.cons_cons _ (.cons_cons _ (List.nil_sublist _)))), ?_⟩
       replace HS := H.sub (.cons _ (.cons_cons _ (.cons_cons _ (List.nil_sublist _))))
       refine t_take 5 rfl (by kernel_rfl) (by kernel_rfl) (by kernel_rfl) (fun _ _ _ h => h) (fun w HS => r_as) HS ?_; refine t_take 6 rfl (by kernel_rfl) (by kernel_rfl) (by kernel_rfl) (fun _ _ _ h => h) (fun w HS => r_as) HS ?_; refine t_done (by kernel_rfl) ?_
       clear HS
       refine c_ret ?_; try dsimp only [Exit.then, Exit.inBlock]
       refine e_retN (vs := [.agg (([.string ⟨(t9).toArray⟩, VI (((s.l).getD 0 0).toNat : Int)] : List Value) ++ ((((((s.l).drop (1 + k10)).take (s.len - (1 + k10))).drop 0).take (32)).map V8 ++ (([VI (x18.toNat : Int)] : List Value)))).toArray, (Sl.cut (Sl.cut (Sl.cut s (1 + k10) s.len s.cap) 32 (s.len - (1 + k10)) (s.cap - (1 + k10))) k19 (s.len - (1 + k10) - 32) (s.cap - (1 + k10) - 32)).v, .bool true]) _ Try.results62 rfl (H.resR (C := ([.string ⟨(t9).toArray⟩, VI (((s.l).getD 0 0).toNat : Int)] : List Value) ++ ((((((s.l).drop (1 + k10)).take (s.len - (1 + k10))).drop 0).take (32)).map V8 ++ (([VI (x18.toNat : Int)] : List Value)))) (i := 0) rfl rfl rt54 (by simp only [List.length_append, List.length_map, List.length_cons, List.length_nil, (show (((((s.l).drop (1 + k10)).take (s.len - (1 + k10))).drop 0).take (32)).length = 32 from (by simp only [List.length_take, List.length_drop]; omega))]) (resT (v := (Sl.cut (Sl.cut (Sl.cut s (1 + k10) s.len s.cap) 32 (s.len - (1 + k10)) (s.cap - (1 + k10))) k19 (s.len - (1 + k10) - 32) (s.cap - (1 + k10) - 32)).v) rfl (resT (v := .bool true) rfl (resZ)))) ?_
       refine ⟨_, rfl, ?_⟩
       rw [cut_l1 hs] at hto12
       have he0 : e11 = 0 := by omega
       subst he0
       rw [cut_l2 hs] at hco21
       have he2 : e20 = 0 := by omega
       subst he2
       have hy := item_yes (o := (⟨((((s.l).drop (1 + k10)).take (s.len - (1 + k10))).drop 0).take (32), (show (((((s.l).drop (1 + k10)).take (s.len - (1 + k10))).drop 0).take (32)).length = 32 from (by simp only [List.length_take, List.length_drop]; omega))⟩ : Id32)) hto12 (by omega) (by simp only [List.drop_zero, List.take_take]; congr 1; omega) hco21 (by omega)
       rw [← cut_l3 hs (1 + k10) k19] at hy
       exact ⟨_, (Sl.cut (Sl.cut (Sl.cut s (1 + k10) s.len s.cap) 32 (s.len - (1 + k10)) (s.cap - (1 + k10))) k19 (s.len - (1 + k10) - 32) (s.cap - (1 + k10) - 32)), true, rfl, fun w hs => ((hs.cut (by omega) (by omega) (by omega) (by omega)).cut (by omega) (by (try simp only [Sl.cut]); omega) (by omega) (by (try simp only [Sl.cut]); omega)).cut (by omega) (by (try simp only [Sl.cut]); omega) (by omega) (by (try simp only [Sl.cut]); omega), by simp only [Sl.cut]; omega, .inl ⟨rfl, hy⟩, H.sub (List.nil_sublist _)⟩
end Go.Proofs.Ytomjbabllcmodaa
namespace Go.Proofs.Ytomjbabllcmodaa
open Go
set_option maxRecDepth 100000
open Go.Proofs in
set_option maxHeartbeats 1000000 in
theorem strIndexByte (s : ByteArray) (c : Int) (w : World) :
    Calls Try.prog 92 #[.string s, .int .u8 c] w fun e w' => e = .returned (.int .i64 (Lib.indexByte s.data.toList c.toNat.toUInt8)) ∧ w' = w := by
  go_enter Try.func92, Try.ntmps92
  go_wp2
  rw [run_callFunc_extern Try.func96 (by kernel_rfl) (by kernel_rfl) (by kernel_rfl) (e := Extern.BytealgIndexByte.indexByte) (by kernel_rfl), Lib.run_indexByteString]
  simp only [Result.andThen]
  rw [Oper.upon_value]
  go_wp2
  go_ret
  exact ⟨rfl, rfl⟩
open Go.Proofs in
set_option maxHeartbeats 2000000 in
theorem strIndexOne (s : ByteArray) (c : UInt8) (w : World) :
    Calls Try.prog 91 #[.string s, .string ⟨#[c]⟩] w fun e w' => e = .returned (.int .i64 (Lib.indexByte s.data.toList c)) ∧ w' = w := by
  go_enter Try.func91, Try.ntmps91
  go_wp2_with (go_at_call 92; refine (strIndexByte _ _ _).mono ?_; rintro e w' ⟨rfl, rfl⟩)
  · have h : ([c] == s.toList) = true := by assumption
    go_ret
    refine ⟨?_, rfl⟩
    have e : s.data.toList = [c] := by rw [← Lib.toList_data]; exact (beq_iff_eq.1 h).symm
    rw [e]
    simp [Lib.indexByte]
  · go_ret
    exact ⟨rfl, rfl⟩
open Go.Proofs in
set_option maxHeartbeats 1000000 in
theorem strIndexOne2 (s : ByteArray) (c : UInt8) (w : World) :
    Calls Try.prog 90 #[.string s, .string ⟨#[c]⟩] w fun e w' => e = .returned (.int .i64 (Lib.indexByte s.data.toList c)) ∧ w' = w := by
  go_enter Try.func90, Try.ntmps90
  go_wp2_with (go_at_call 91; refine (strIndexOne _ _ _).mono ?_; rintro e w' ⟨rfl, rfl⟩)
  go_ret
  exact ⟨rfl, rfl⟩
open Go.Proofs in
set_option maxHeartbeats 1000000 in
theorem strContainsOne (s : ByteArray) (c : UInt8) (w : World) :
    Calls Try.prog 88 #[.string s, .string ⟨#[c]⟩] w fun e w' => e = .returned (.bool (decide (0 ≤ Lib.indexByte s.data.toList c))) ∧ w' = w := by
  go_enter Try.func88, Try.ntmps88
  go_wp2_with (go_at_call 90; refine (strIndexOne2 _ _ _).mono ?_; rintro e w' ⟨rfl, rfl⟩)
  go_ret
  exact ⟨rfl, rfl⟩
open Go.Proofs in
theorem indexByte_mem (l : List UInt8) (c : UInt8) : decide (0 ≤ Lib.indexByte l c) = decide (c ∈ l) := by
  rw [Bool.eq_iff_iff]
  simp only [decide_eq_true_eq]
  induction l with
  | nil => simp [Lib.indexByte]
  | cons b l ih =>
    simp only [Lib.indexByte, List.mem_cons]
    by_cases h : b = c
    · subst h; simp
    · have h1 : (b == c) = false := by simpa using h
      have h2 := Lib.indexByte_ge l c
      simp only [h1, Bool.false_eq_true, if_false, beq_iff_eq]
      constructor
      · intro hle
        by_cases h3 : Lib.indexByte l c = -1
        · rw [if_pos h3] at hle; omega
        · right; exact ih.1 (by omega)
      · rintro (h3 | h3)
        · exact absurd h3.symm h
        · have := ih.2 h3
          rw [if_neg (by omega)]; omega
/-- is a byte in a text? -/
theorem contains_ret (w : World) (s : List UInt8) (c : UInt8) : Ret Try.prog 88 [.string ⟨s.toArray⟩, .string ⟨([c] : List UInt8).toArray⟩] w fun v w' => v = .bool (decide (c ∈ s)) ∧ w' = w := by
  refine Calls.mono (strContainsOne ⟨s.toArray⟩ c w) fun e w' ⟨he, hw⟩ => ⟨_, he, ?_, hw⟩
  rw [← indexByte_mem]
open Go.Proofs in
set_option maxHeartbeats 1000000 in
theorem strHasPrefix (s p : ByteArray) (w : World) :
    Calls Try.prog 60 #[.string s, .string p] w fun e w' => e = .returned (.bool (Lib.hasPrefix s.data.toList p.data.toList)) ∧ w' = w := by
  rw [← Lib.hasPrefix_of_take, ← Lib.size_eq, ← Lib.size_eq]
  go_enter Try.func60, Try.ntmps60
  go_wp2
  · rename_i h
    go_ret
    refine ⟨?_, rfl⟩
    show Ending.returned (Value.bool ((s.extract 0 p.size).toList == p.toList)) = _
    rw [Lib.extract_toList, Lib.toList_data]
    simp [h]
  · rename_i h
    go_ret
    refine ⟨?_, rfl⟩
    show Ending.returned (Value.bool false) = _
    simp [h]
/-- does a text begin so? -/
theorem hasPrefix_ret (w : World) (s p : List UInt8) : Ret Try.prog 60 [.string ⟨s.toArray⟩, .string ⟨p.toArray⟩] w fun v w' => v = .bool (p.isPrefixOf s) ∧ w' = w :=
  Calls.mono (strHasPrefix ⟨s.toArray⟩ ⟨p.toArray⟩ w) fun e _w' ⟨he, hw⟩ => ⟨_, he, rfl, hw⟩
theorem bl_iff : ∀ (a b : List UInt8), Op.bytesLess a b = true ↔ a < b
  | a, [] => by cases a <;> simp [Op.bytesLess]
  | [], b :: bs => by simp [Op.bytesLess]
  | x :: xs, y :: ys => by
    rw [Op.bytesLess, List.cons_lt_cons_iff, ← bl_iff xs ys]
    simp
theorem bl_lt (a b : List UInt8) : Op.bytesLess a b = decide (a < b) := by rw [Bool.eq_iff_iff, bl_iff, decide_eq_true_eq]
theorem bl_le (a b : List UInt8) : (Op.bytesLess a b || a == b) = decide (a ≤ b) := by
  rw [bl_lt, Bool.eq_iff_iff]
  simp only [Bool.or_eq_true, decide_eq_true_eq, beq_iff_eq]
  constructor
  · rintro (h | h)
    · exact List.le_of_lt h
    · rw [h]; exact List.le_refl _
  · intro h
    by_cases hb : a = b
    · exact .inr hb
    · exact .inl (Decidable.byContradiction fun hn => hb (List.le_antisymm h (List.not_lt.1 hn)))
section
variable {P : Program} {n : Nat} {σ : Nat → Value} {w : World} {ty : TypeId} {pos : String} {aft : Array Edge} {g : Option (Nat × Bool)} {d : Nat} {t yt : TypeId} {x y : Operand}
theorem r_strle {a b : List UInt8} (hx : ev n σ x = .string ⟨a.toArray⟩) (hy : ev n σ y = .string ⟨b.toArray⟩) :
    (execOp (ev n σ) ⟨some d, .binOp .leq t x y yt, ty, pos, aft, g⟩).run P w = .ok (.value (.bool (decide (a ≤ b)))) w :=
  r_str hx hy (fun w => by simp only [Op.stringOp, ba_toList, bl_le]; rfl) (by decide)
theorem r_strgt {a b : List UInt8} (hx : ev n σ x = .string ⟨a.toArray⟩) (hy : ev n σ y = .string ⟨b.toArray⟩) :
    (execOp (ev n σ) ⟨some d, .binOp .gtr t x y yt, ty, pos, aft, g⟩).run P w = .ok (.value (.bool (decide (b < a)))) w :=
  r_str hx hy (fun w => by
    simp only [Op.stringOp, ba_toList, bl_le]
    have e : (!decide (a ≤ b)) = decide (b < a) := by
      rw [Bool.eq_iff_iff]; simp only [Bool.not_eq_true', decide_eq_false_iff_not, decide_eq_true_eq, List.not_le]
    rw [e]; rfl) (by decide)
theorem r_strge {a b : List UInt8} (hx : ev n σ x = .string ⟨a.toArray⟩) (hy : ev n σ y = .string ⟨b.toArray⟩) :
    (execOp (ev n σ) ⟨some d, .binOp .geq t x y yt, ty, pos, aft, g⟩).run P w = .ok (.value (.bool (decide (b ≤ a)))) w :=
  r_str hx hy (fun w => by
    simp only [Op.stringOp, ba_toList, bl_lt]
    have e : (!decide (a < b)) = decide (b ≤ a) := by
      rw [Bool.eq_iff_iff]; simp only [Bool.not_eq_true', decide_eq_false_iff_not, decide_eq_true_eq, List.not_lt]
    rw [e]; rfl) (by decide)
end
end Go.Proofs.Ytomjbabllcmodaa
namespace Go.Proofs.Ytomjbabllcmodaa
open Go
set_option maxRecDepth 100000
instance (s : List UInt8) : Decidable (NameOk s) := by unfold NameOk; exact inferInstance
def ItB (x : It) : Prop := NameOk x.name ∧ (x.kind = 1 ∨ x.kind = 2 ∧ x.size = 0) ∧ 0 ≤ x.size
def mayAt (l : List It) (j : Nat) : Prop := ∀ x, l[j]? = some x → ItB x ∧ ∀ y, 0 < j → l[j - 1]? = some y → y.name < x.name
/-- items that may be a folder, but for the bound of their sizes. -/
def MayB (l : List It) : Prop := l.length ≤ 64 ∧ ∀ j, j < l.length → mayAt l j
theorem mayB_of {l : List It} (h : MayF l) : MayB l := ⟨h.len, fun j hj x hx => ⟨⟨(h.ok x (List.mem_of_getElem? hx)).1, (h.ok x (List.mem_of_getElem? hx)).2.1, (h.ok x (List.mem_of_getElem? hx)).2.2.1⟩, fun y hp hy => h.up (j - 1) y x hy (by rw [Nat.sub_add_cancel hp]; exact hx)⟩⟩
theorem mayF_of {l : List It} (h : MayB l) (hs : ∀ x ∈ l, x.size ≤ 9223372036854775807) : MayF l := by
  refine ⟨h.1, fun x hx => ?_, fun i x y hx hy => ?_⟩
  · obtain ⟨j, hj, e⟩ := List.mem_iff_getElem.1 hx
    obtain ⟨h1, _⟩ := h.2 j hj x (by rw [List.getElem?_eq_getElem hj, e])
    exact ⟨h1.1, h1.2.1, h1.2.2, hs x hx⟩
  · have hj := (List.getElem?_eq_some_iff.1 hy).1
    exact (h.2 (i + 1) hj y hy).2 x (by omega) (by simpa using hx)
theorem mayName_ret (w0 : World) (s : List UInt8) :
    Ret Try.prog 81 [.string ⟨(s).toArray⟩] w0 fun v w' => v = .bool (decide (NameOk s)) ∧ Hp w0 w' [] [] := by
  refine ret_mk Try.func81 rfl Try.ntmps81 (by simp) ?_
  have H := Hp.refl w0 []
  repeat refine c_seq ?_
  refine c_region ?_; refine l_op (o_val r_as ?_); first | refine l_end ?_ | refine l_nil ?_
  repeat refine c_seq ?_
  refine c_region ?_; refine l_op (o_val r_mv ?_); refine l_op (o_val (r_lenstr (s := ⟨(s).toArray⟩) Try.underlying9 rfl) ?_); refine l_op (o_val (r_bin (a := ((s).length : Int)) (b := 1) rfl rfl (fun _ => b_geq)) ?_); refine l_op (o_val r_mv ?_)
  by_cases hc1 : 1 ≤ ((s).length : Int)
  ·
   refine l_yes rfl rfl (by exact congrArg Value.bool (decide_eq_true hc1)) (o_val r_mv ?_); refine l_yes rfl rfl (by exact congrArg Value.bool (decide_eq_true hc1)) (o_val (r_lenstr (s := ⟨(s).toArray⟩) Try.underlying9 rfl) ?_); refine l_yes rfl rfl (by exact congrArg Value.bool (decide_eq_true hc1)) (o_val (r_bin (a := ((s).length : Int)) (b := 64) rfl rfl (fun _ => b_leq)) ?_); refine l_op (o_val (r_pick (b := true) (congrArg Value.bool (decide_eq_true hc1))) ?_); refine l_op (o_val r_mv ?_)
   by_cases hc2 : ((s).length : Int) ≤ 64
   ·
    refine l_yes rfl rfl (by exact congrArg Value.bool (decide_eq_true hc2)) (o_val r_mv ?_); refine l_yes rfl rfl (by exact congrArg Value.bool (decide_eq_true hc2)) (o_val (r_strne (a := s) (b := ([46] : List UInt8)) rfl rfl) ?_); refine l_op (o_val (r_pick (b := true) (congrArg Value.bool (decide_eq_true hc2))) ?_); refine l_op (o_val r_mv ?_)
    by_cases hc3 : s = ([46] : List UInt8)
    ·
     refine l_no rfl rfl (by exact congrArg Value.bool (congrArg not (decide_eq_true hc3))) rfl ?_; refine l_no rfl rfl (by exact congrArg Value.bool (congrArg not (decide_eq_true hc3))) rfl ?_; refine l_op (o_val (r_pick (b := false) (congrArg Value.bool (congrArg not (decide_eq_true hc3)))) ?_); refine l_op (o_val r_mv ?_); refine l_no rfl rfl rfl rfl ?_; refine l_no rfl rfl rfl rfl ?_; refine l_no rfl rfl rfl rfl ?_; refine l_op (o_val (r_pick rfl) ?_); refine l_op (o_val r_mv ?_); refine l_no rfl rfl rfl rfl ?_; refine l_no rfl rfl rfl rfl ?_; refine l_no rfl rfl rfl rfl ?_; refine l_op (o_val (r_pick rfl) ?_); refine l_op (o_val r_as ?_); first | refine l_end ?_ | refine l_nil ?_
     refine c_ret ?_; try dsimp only [Exit.then, Exit.inBlock]
     refine e_ret1 (v := .bool false) Try.results81 rfl ?_
     refine ⟨_, rfl, ?_⟩
     exact ⟨congrArg Value.bool (decide_eq_false (fun h : NameOk s => by obtain ⟨h1, h2, h3, h4, h5⟩ := h; first | omega | contradiction | exact (h1 _ (by assumption)).1 rfl | exact (h1 _ (by assumption)).2 rfl)).symm, H⟩
    ·
     refine l_yes rfl rfl (by exact congrArg Value.bool (congrArg not (decide_eq_false hc3))) (o_val r_mv ?_); refine l_yes rfl rfl (by exact congrArg Value.bool (congrArg not (decide_eq_false hc3))) (o_val (r_strne (a := s) (b := ([46,46] : List UInt8)) rfl rfl) ?_); refine l_op (o_val (r_pick (b := true) (congrArg Value.bool (congrArg not (decide_eq_false hc3)))) ?_); refine l_op (o_val r_mv ?_)
     by_cases hc4 : s = ([46,46] : List UInt8)
     ·
      refine l_no rfl rfl (by exact congrArg Value.bool (congrArg not (decide_eq_true hc4))) rfl ?_; refine l_no rfl rfl (by exact congrArg Value.bool (congrArg not (decide_eq_true hc4))) rfl ?_; refine l_no rfl rfl (by exact congrArg Value.bool (congrArg not (decide_eq_true hc4))) rfl ?_; refine l_op (o_val (r_pick (b := false) (congrArg Value.bool (congrArg not (decide_eq_true hc4)))) ?_); refine l_op (o_val r_mv ?_); refine l_no rfl rfl rfl rfl ?_; refine l_no rfl rfl rfl rfl ?_; refine l_no rfl rfl rfl rfl ?_; refine l_op (o_val (r_pick rfl) ?_); refine l_op (o_val r_as ?_); first | refine l_end ?_ | refine l_nil ?_
      refine c_ret ?_; try dsimp only [Exit.then, Exit.inBlock]
      refine e_ret1 (v := .bool false) Try.results81 rfl ?_
      refine ⟨_, rfl, ?_⟩
      exact ⟨congrArg Value.bool (decide_eq_false (fun h : NameOk s => by obtain ⟨h1, h2, h3, h4, h5⟩ := h; first | omega | contradiction | exact (h1 _ (by assumption)).1 rfl | exact (h1 _ (by assumption)).2 rfl)).symm, H⟩
     ·
      refine l_yes rfl rfl (by exact congrArg Value.bool (congrArg not (decide_eq_false hc4))) (o_val r_mv ?_); refine l_yes rfl rfl (by exact congrArg Value.bool (congrArg not (decide_eq_false hc4))) (o_callR Try.func88 rfl rfl rfl (contains_ret _ (s) 47) ?_); rintro _ w' ⟨rfl, hw5⟩
      rw [hw5]; clear hw5 w'
      refine l_yes rfl rfl (by exact congrArg Value.bool (congrArg not (decide_eq_false hc4))) (o_val (r_not rfl) ?_); refine l_op (o_val (r_pick (b := true) (congrArg Value.bool (congrArg not (decide_eq_false hc4)))) ?_); refine l_op (o_val r_mv ?_)
      by_cases hc6 : 47 ∈ s
      ·
       refine l_no rfl rfl (by exact congrArg Value.bool (congrArg not (decide_eq_true hc6))) rfl ?_; refine l_no rfl rfl (by exact congrArg Value.bool (congrArg not (decide_eq_true hc6))) rfl ?_; refine l_no rfl rfl (by exact congrArg Value.bool (congrArg not (decide_eq_true hc6))) rfl ?_; refine l_op (o_val (r_pick (b := false) (congrArg Value.bool (congrArg not (decide_eq_true hc6)))) ?_); refine l_op (o_val r_as ?_); first | refine l_end ?_ | refine l_nil ?_
       refine c_ret ?_; try dsimp only [Exit.then, Exit.inBlock]
       refine e_ret1 (v := .bool false) Try.results81 rfl ?_
       refine ⟨_, rfl, ?_⟩
       exact ⟨congrArg Value.bool (decide_eq_false (fun h : NameOk s => by obtain ⟨h1, h2, h3, h4, h5⟩ := h; first | omega | contradiction | exact (h1 _ (by assumption)).1 rfl | exact (h1 _ (by assumption)).2 rfl)).symm, H⟩
      ·
       refine l_yes rfl rfl (by exact congrArg Value.bool (congrArg not (decide_eq_false hc6))) (o_val r_mv ?_); refine l_yes rfl rfl (by exact congrArg Value.bool (congrArg not (decide_eq_false hc6))) (o_callR Try.func88 rfl rfl rfl (contains_ret _ (s) 0) ?_); rintro _ w' ⟨rfl, hw7⟩
       rw [hw7]; clear hw7 w'
       refine l_yes rfl rfl (by exact congrArg Value.bool (congrArg not (decide_eq_false hc6))) (o_val (r_not rfl) ?_); refine l_op (o_val (r_pick (b := true) (congrArg Value.bool (congrArg not (decide_eq_false hc6)))) ?_); refine l_op (o_val r_as ?_); first | refine l_end ?_ | refine l_nil ?_
       refine c_ret ?_; try dsimp only [Exit.then, Exit.inBlock]
       refine e_ret1 (v := .bool (!(decide (0 ∈ s)))) Try.results81 rfl ?_
       refine ⟨_, rfl, ?_⟩
       have e : (!decide (0 ∈ s)) = decide (NameOk s) := by
         rw [Bool.eq_iff_iff]; simp only [Bool.not_eq_true', decide_eq_false_iff_not, decide_eq_true_eq]
         exact ⟨fun h0 => ⟨fun c hc => ⟨by rintro rfl; contradiction, by rintro rfl; contradiction⟩, by omega, by omega, by assumption, by assumption⟩, fun h h0 => (h.1 0 h0).2 rfl⟩
       exact ⟨congrArg Value.bool e, H⟩
   ·
    refine l_no rfl rfl (by exact congrArg Value.bool (decide_eq_false hc2)) rfl ?_; refine l_no rfl rfl (by exact congrArg Value.bool (decide_eq_false hc2)) rfl ?_; refine l_op (o_val (r_pick (b := false) (congrArg Value.bool (decide_eq_false hc2))) ?_); refine l_op (o_val r_mv ?_); refine l_no rfl rfl rfl rfl ?_; refine l_no rfl rfl rfl rfl ?_; refine l_op (o_val (r_pick rfl) ?_); refine l_op (o_val r_mv ?_); refine l_no rfl rfl rfl rfl ?_; refine l_no rfl rfl rfl rfl ?_; refine l_no rfl rfl rfl rfl ?_; refine l_op (o_val (r_pick rfl) ?_); refine l_op (o_val r_mv ?_); refine l_no rfl rfl rfl rfl ?_; refine l_no rfl rfl rfl rfl ?_; refine l_no rfl rfl rfl rfl ?_; refine l_op (o_val (r_pick rfl) ?_); refine l_op (o_val r_as ?_); first | refine l_end ?_ | refine l_nil ?_
    refine c_ret ?_; try dsimp only [Exit.then, Exit.inBlock]
    refine e_ret1 (v := .bool false) Try.results81 rfl ?_
    refine ⟨_, rfl, ?_⟩
    exact ⟨congrArg Value.bool (decide_eq_false (fun h : NameOk s => by obtain ⟨h1, h2, h3, h4, h5⟩ := h; first | omega | contradiction | exact (h1 _ (by assumption)).1 rfl | exact (h1 _ (by assumption)).2 rfl)).symm, H⟩
  ·
   refine l_no rfl rfl (by exact congrArg Value.bool (decide_eq_false hc1)) rfl ?_; refine l_no rfl rfl (by exact congrArg Value.bool (decide_eq_false hc1)) rfl ?_; refine l_no rfl rfl (by exact congrArg Value.bool (decide_eq_false hc1)) rfl ?_; refine l_op (o_val (r_pick (b := false) (congrArg Value.bool (decide_eq_false hc1))) ?_); refine l_op (o_val r_mv ?_); refine l_no rfl rfl rfl rfl ?_; refine l_no rfl rfl rfl rfl ?_; refine l_op (o_val (r_pick rfl) ?_); refine l_op (o_val r_mv ?_); refine l_no rfl rfl rfl rfl ?_; refine l_no rfl rfl rfl rfl ?_; refine l_op (o_val (r_pick rfl) ?_); refine l_op (o_val r_mv ?_); refine l_no rfl rfl rfl rfl ?_; refine l_no rfl rfl rfl rfl ?_; refine l_no rfl rfl rfl rfl ?_; refine l_op (o_val (r_pick rfl) ?_); refine l_op (o_val r_mv ?_); refine l_no rfl rfl rfl rfl ?_; refine l_no rfl rfl rfl rfl ?_; refine l_no rfl rfl rfl rfl ?_; refine l_op (o_val (r_pick rfl) ?_); refine l_op (o_val r_as ?_); first | refine l_end ?_ | refine l_nil ?_
   refine c_ret ?_; try dsimp only [Exit.then, Exit.inBlock]
   refine e_ret1 (v := .bool false) Try.results81 rfl ?_
   refine ⟨_, rfl, ?_⟩
   exact ⟨congrArg Value.bool (decide_eq_false (fun h : NameOk s => by obtain ⟨h1, h2, h3, h4, h5⟩ := h; first | omega | contradiction | exact (h1 _ (by assumption)).1 rfl | exact (h1 _ (by assumption)).2 rfl)).symm, H⟩
theorem fmay_ret (w0 : World) (g : Gl It) (hg : g.ok itE 35 w0) :
    Ret Try.prog 63 [g.v] w0 fun v w' => ∃ b, v = .bool b ∧ (b = true ↔ MayB g.l) ∧ Hp w0 w' [] [] := by
  refine ret_mk Try.func63 rfl Try.ntmps63 (by simp) ?_
  have H := Hp.refl w0 []
  have hgl := hg.ln
  repeat refine c_seq ?_
  refine c_region ?_; refine l_op (o_val r_as ?_); first | refine l_end ?_ | refine l_nil ?_
  repeat refine c_seq ?_
  refine c_region ?_; refine l_op (o_val r_mv ?_); refine l_op (o_val (r_lens el52 rfl) ?_); refine l_op (o_val (r_bin (a := (g.len : Int)) (b := 64) rfl rfl (fun _ => b_gtr)) ?_); first | refine l_end ?_ | refine l_nil ?_
  by_cases hc1 : 64 < (g.len : Int)
  ·
   repeat refine c_seq ?_
   refine c_yes (by exact congrArg Value.bool (decide_eq_true hc1)) ?_; repeat refine c_seq ?_
   refine c_region ?_; refine l_op (o_val r_as ?_); first | refine l_end ?_ | refine l_nil ?_
   refine c_ret ?_; try dsimp only [Exit.then, Exit.inBlock]
   refine e_ret1 (v := .bool false) Try.results63 rfl ?_
   refine ⟨_, rfl, ?_⟩
   exact ⟨false, rfl, ⟨fun h => (by cases h), fun h => absurd h.1 (by omega)⟩, H⟩
  ·
   repeat refine c_seq ?_
   refine c_no (by exact congrArg Value.bool (decide_eq_false hc1)) ?_; refine c_skip ?_; repeat refine c_seq ?_
   refine c_region ?_; refine l_op (o_val r_mv ?_); refine l_op (o_val (r_lens el52 rfl) ?_); refine l_op (o_val r_mv ?_); first | refine l_end ?_ | refine l_nil ?_
   repeat refine c_seq ?_
   refine c_block ?_; repeat refine c_seq ?_
   refine c_loop (fun (i : Nat) => [(0, g.v), (8, g.v), (9, VI (g.len : Int)), (10, VI (i : Int))])
     (fun (i : Nat) w => (i ≤ g.len ∧ ∀ j, j < i → mayAt g.l j) ∧ Hp w0 w [] ([]))
     (fun (i : Nat) => g.len - i) 0 ⟨rfl, rfl, rfl, rfl, trivial⟩ ⟨⟨by omega, fun j hj => absurd hj (by omega)⟩, H⟩ ?_
   clear H
   rintro i τ w ⟨⟨hil, hinv⟩, H⟩
   repeat refine c_seq ?_
   refine c_region ?_; refine l_op (o_val (r_bin (a := (i : Int)) (b := (g.len : Int)) rfl rfl (fun _ => b_lss)) ?_); first | refine l_end ?_ | refine l_nil ?_
   by_cases hc2 : (i : Int) < (g.len : Int)
   ·
    repeat refine c_seq ?_
    refine c_yes (by exact congrArg Value.bool (decide_eq_true hc2)) ?_; refine c_skip ?_; repeat refine c_seq ?_
    refine c_block ?_; repeat refine c_seq ?_
    refine c_region ?_; refine l_op (o_val r_mv ?_); have ah5 := ((hg.up H)).addr (by decide) (by first | omega | (dsimp only; omega))
    obtain ⟨ab3, ao4, ah5⟩ := ah5
    refine l_op (o_val (r_isN i rfl rfl el52 ah5 (by omega) (by (try simp only [Sl.cut]); omega)) ?_); have he7 : ∃ c, g.l[i]? = some c := ⟨_, List.getElem?_eq_getElem (by have := ((hg.up H)).ln; (try dsimp only at this ⊢); omega)⟩
    obtain ⟨e6, he7⟩ := he7
    have hez8 := ((hg.up H)).sz e6 (List.mem_of_getElem? he7)
    refine l_op (o_val (r_ldRow (s := g) (k := i) (hg.up H) ah5 rfl rt54 (by decide) he7) ?_); refine l_op (o_alloc H zc54 (fun b9 w H hb9 => ?_)); replace H : Hp _ w _ ([.blk b9 (([.string ⟨(([] : List UInt8)).toArray⟩, VI 0] : List Value) ++ ((List.replicate 32 (0 : UInt8)).map V8 ++ (([VI 0] : List Value)))) 54]) := H
    refine l_op (o_val r_as ?_); refine l_op (o_stW (C' := ([.string ⟨(e6.name).toArray⟩, VI e6.kind] : List Value) ++ ((e6.of.1).map V8 ++ (([VI e6.size] : List Value)))) H (i := 0) rfl rfl rfl cs54 (by first | (simp [Value.oneCell', List.all_append, List.all_map]; done) | (simp only [List.all_append, List.all_cons, List.all_nil, List.all_map]; simp [Value.oneCell', Function.comp_def])) (by simp only [List.length_append, List.length_map, List.length_cons, List.length_nil, (show (List.replicate 32 (0 : UInt8)).length = 32 from (List.length_replicate ..))]) (by simp only [List.length_append, List.length_map, List.length_cons, List.length_nil, (show (e6.of.1).length = 32 from e6.of.2)]) (fun w H => ?_)); replace H : Hp _ w _ ([.blk b9 (([.string ⟨(e6.name).toArray⟩, VI e6.kind] : List Value) ++ ((e6.of.1).map V8 ++ (([VI e6.size] : List Value)))) 54]) := H
    first | refine l_end ?_ | refine l_nil ?_
    repeat refine c_seq ?_
    refine c_block ?_; repeat refine c_seq ?_
    refine c_region ?_; refine l_op (o_val (r_fa rfl fo54_0) ?_); refine l_op (o_val (r_l1 (v := .string ⟨(e6.name).toArray⟩) H (i := 0) rfl rfl ct9 (show Cut3 (([.string ⟨(e6.name).toArray⟩, VI e6.kind] : List Value) ++ ((e6.of.1).map V8 ++ (([VI e6.size] : List Value)))) (([] : List Value)) (([.string ⟨(e6.name).toArray⟩] : List Value)) (([VI e6.kind] : List Value) ++ ((e6.of.1).map V8 ++ (([VI e6.size] : List Value)))) 0 1 from ⟨(show ([.string ⟨(e6.name).toArray⟩, VI e6.kind] : List Value) ++ ((e6.of.1).map V8 ++ (([VI e6.size] : List Value))) = ([] : List Value) ++ ((([.string ⟨(e6.name).toArray⟩] : List Value)) ++ (([VI e6.kind] : List Value) ++ ((e6.of.1).map V8 ++ (([VI e6.size] : List Value))))) from by simp only [List.cons_append, List.nil_append]), (by rfl), (by rfl)⟩)) ?_); refine l_op (o_callR Try.func81 rfl rfl rfl (mayName_ret _ (e6.name)) ?_); rintro _ w ⟨rfl, Hc⟩
    replace H : Hp _ w _ ([_]) := H.call Hc
    clear Hc
    refine l_op (o_val (r_not rfl) ?_); refine l_op (o_val r_as ?_); first | refine l_end ?_ | refine l_nil ?_
    by_cases hc10 : NameOk (e6.name)
    ·
     repeat refine c_seq ?_
     refine c_no (by exact congrArg Value.bool (congrArg not (decide_eq_true hc10))) ?_; repeat refine c_seq ?_
     refine c_still mixed (by kernel_rfl) ?_; replace H := H.drew
     refine s_op (r_mv) ?_; refine s_op (r_bin (a := (i : Int)) (b := 0) rfl rfl (fun _ => b_gtr)) ?_; refine s_op (r_mv) ?_
     by_cases hc11 : 0 < (i : Int)
     ·
      refine s_yes rfl rfl (by exact congrArg Value.bool (decide_eq_true hc11)) (r_fa rfl fo54_0) ?_; refine s_yes rfl rfl (by exact congrArg Value.bool (decide_eq_true hc11)) (r_l1 (v := .string ⟨(e6.name).toArray⟩) H (i := 0) rfl rfl ct9 (show Cut3 (([.string ⟨(e6.name).toArray⟩, VI e6.kind] : List Value) ++ ((e6.of.1).map V8 ++ (([VI e6.size] : List Value)))) (([] : List Value)) (([.string ⟨(e6.name).toArray⟩] : List Value)) (([VI e6.kind] : List Value) ++ ((e6.of.1).map V8 ++ (([VI e6.size] : List Value)))) 0 1 from ⟨(show ([.string ⟨(e6.name).toArray⟩, VI e6.kind] : List Value) ++ ((e6.of.1).map V8 ++ (([VI e6.size] : List Value))) = ([] : List Value) ++ ((([.string ⟨(e6.name).toArray⟩] : List Value)) ++ (([VI e6.kind] : List Value) ++ ((e6.of.1).map V8 ++ (([VI e6.size] : List Value))))) from by simp only [List.cons_append, List.nil_append]), (by rfl), (by rfl)⟩)) ?_; refine s_yes rfl rfl (by exact congrArg Value.bool (decide_eq_true hc11)) (r_mv) ?_; refine s_yes rfl rfl (by exact congrArg Value.bool (decide_eq_true hc11)) (r_mv) ?_; refine s_yes rfl rfl (by exact congrArg Value.bool (decide_eq_true hc11)) (r_bin (a := (i : Int)) (b := 1) rfl rfl (fun _ => b_sub (by omega) (by omega))) ?_; refine s_yes rfl rfl (by exact congrArg Value.bool (decide_eq_true hc11)) (r_isN (((i : Int) - 1).toNat) rfl rfl el52 ah5 (by omega) (by (try simp only [Sl.cut]); omega)) ?_; refine s_yes rfl rfl (by exact congrArg Value.bool (decide_eq_true hc11)) (r_fa rfl fo54_0) ?_; have he13 : ∃ c, g.l[((i : Int) - 1).toNat]? = some c := ⟨_, List.getElem?_eq_getElem (by have := ((hg.up H)).ln; (try dsimp only at this ⊢); omega)⟩
      obtain ⟨e12, he13⟩ := he13
      have hez14 := ((hg.up H)).sz e12 (List.mem_of_getElem? he13)
      refine s_yes rfl rfl (by exact congrArg Value.bool (decide_eq_true hc11)) (r_g1 (v := .string ⟨(e12.name).toArray⟩) (s := g) (j := ((i : Int) - 1).toNat) (hg.up H) ah5 rfl ct9 he13 (by decide) (show Cut3 (itE e12) (([] : List Value)) (([.string ⟨(e12.name).toArray⟩] : List Value)) (([VI e12.kind] : List Value) ++ ((e12.of.1).map V8 ++ (([VI e12.size] : List Value)))) 0 1 from ⟨(show ([.string ⟨(e12.name).toArray⟩, VI e12.kind] : List Value) ++ ((e12.of.1).map V8 ++ (([VI e12.size] : List Value))) = ([] : List Value) ++ ((([.string ⟨(e12.name).toArray⟩] : List Value)) ++ (([VI e12.kind] : List Value) ++ ((e12.of.1).map V8 ++ (([VI e12.size] : List Value))))) from by simp only [List.cons_append, List.nil_append]), (by rfl), (by rfl)⟩)) ?_; refine s_yes rfl rfl (by exact congrArg Value.bool (decide_eq_true hc11)) (r_strle (a := e6.name) (b := e12.name) rfl rfl) ?_; refine s_op (r_pick (b := true) (congrArg Value.bool (decide_eq_true hc11))) ?_; refine s_op (r_as) ?_; refine s_nil ?_
      by_cases hc15 : e6.name ≤ e12.name
      ·
       repeat refine c_seq ?_
       refine c_yes (by exact congrArg Value.bool (decide_eq_true hc15)) ?_; refine c_skip ?_; repeat refine c_seq ?_
       refine c_yes (by exact congrArg Value.bool (decide_eq_true hc15)) ?_; repeat refine c_seq ?_
       refine c_region ?_; refine l_op (o_val r_as ?_); first | refine l_end ?_ | refine l_nil ?_
       refine c_ret ?_; try dsimp only [Exit.then, Exit.inBlock]
       refine e_ret1 (v := .bool false) Try.results63 rfl ?_
       refine ⟨_, rfl, ?_⟩
       refine ⟨false, rfl, ⟨fun h => (by cases h), fun h => ?_⟩, H.sub (List.nil_sublist _)⟩
       have hm := h.2 i (by omega) e6 he7
       obtain ⟨⟨h1, h2, h3⟩, h4⟩ := hm
       first
         | omega
         | contradiction
         | exact absurd (h4 e12 (by omega) (by have e := he13; rwa [show ((i : Int) - 1).toNat = i - 1 by omega] at e)) (List.not_lt.2 (by assumption))
      ·
       repeat refine c_seq ?_
       refine c_no (by exact congrArg Value.bool (decide_eq_false hc15)) ?_; repeat refine c_seq ?_
       refine c_region ?_; refine l_op (o_val (r_fa rfl fo54_3) ?_); refine l_op (o_val (r_l1 (v := VI e6.size) H (i := 0) rfl rfl ct2 (show Cut3 (([.string ⟨(e6.name).toArray⟩, VI e6.kind] : List Value) ++ ((e6.of.1).map V8 ++ (([VI e6.size] : List Value)))) (([.string ⟨(e6.name).toArray⟩, VI e6.kind] : List Value) ++ ((e6.of.1).map V8)) (([VI e6.size] : List Value)) (([] : List Value)) 34 1 from ⟨(show ([.string ⟨(e6.name).toArray⟩, VI e6.kind] : List Value) ++ ((e6.of.1).map V8 ++ (([VI e6.size] : List Value))) = (([.string ⟨(e6.name).toArray⟩, VI e6.kind] : List Value) ++ ((e6.of.1).map V8)) ++ ((([VI e6.size] : List Value)) ++ (([] : List Value))) from by simp only [List.cons_append, List.nil_append]), (by simp only [List.length_append, List.length_map, List.length_cons, List.length_nil, (show (e6.of.1).length = 32 from e6.of.2)]), (by rfl)⟩)) ?_); refine l_op (o_val (r_bin (a := e6.size) (b := 0) rfl rfl (fun _ => b_lss)) ?_); refine l_op (o_val r_as ?_); first | refine l_end ?_ | refine l_nil ?_
       by_cases hc16 : e6.size < 0
       ·
        repeat refine c_seq ?_
        refine c_yes (by exact congrArg Value.bool (decide_eq_true hc16)) ?_; repeat refine c_seq ?_
        refine c_region ?_; refine l_op (o_val r_as ?_); first | refine l_end ?_ | refine l_nil ?_
        refine c_ret ?_; try dsimp only [Exit.then, Exit.inBlock]
        refine e_ret1 (v := .bool false) Try.results63 rfl ?_
        refine ⟨_, rfl, ?_⟩
        refine ⟨false, rfl, ⟨fun h => (by cases h), fun h => ?_⟩, H.sub (List.nil_sublist _)⟩
        have hm := h.2 i (by omega) e6 he7
        obtain ⟨⟨h1, h2, h3⟩, h4⟩ := hm
        first
          | omega
          | contradiction
          | exact absurd (h4 e12 (by omega) (by have e := he13; rwa [show ((i : Int) - 1).toNat = i - 1 by omega] at e)) (List.not_lt.2 (by assumption))
       ·
        repeat refine c_seq ?_
        refine c_no (by exact congrArg Value.bool (decide_eq_false hc16)) ?_; repeat refine c_seq ?_
        refine c_region ?_; refine l_op (o_val (r_fa rfl fo54_1) ?_); refine l_op (o_val (r_l1 (v := VI e6.kind) H (i := 0) rfl rfl ct3 (show Cut3 (([.string ⟨(e6.name).toArray⟩, VI e6.kind] : List Value) ++ ((e6.of.1).map V8 ++ (([VI e6.size] : List Value)))) (([.string ⟨(e6.name).toArray⟩] : List Value)) (([VI e6.kind] : List Value)) ((e6.of.1).map V8 ++ (([VI e6.size] : List Value))) 1 1 from ⟨(show ([.string ⟨(e6.name).toArray⟩, VI e6.kind] : List Value) ++ ((e6.of.1).map V8 ++ (([VI e6.size] : List Value))) = ([.string ⟨(e6.name).toArray⟩] : List Value) ++ ((([VI e6.kind] : List Value)) ++ ((e6.of.1).map V8 ++ (([VI e6.size] : List Value)))) from by simp only [List.cons_append, List.nil_append]), (by rfl), (by rfl)⟩)) ?_); refine l_op (o_val (r_bin (a := e6.kind) (b := 1) rfl rfl (fun _ => b_neq)) ?_); refine l_op (o_val r_mv ?_)
        by_cases hc17 : e6.kind ≠ 1
        ·
         refine l_yes rfl rfl (by exact congrArg Value.bool (decide_eq_true hc17)) (o_val (r_fa rfl fo54_1) ?_); refine l_yes rfl rfl (by exact congrArg Value.bool (decide_eq_true hc17)) (o_val (r_l1 (v := VI e6.kind) H (i := 0) rfl rfl ct3 (show Cut3 (([.string ⟨(e6.name).toArray⟩, VI e6.kind] : List Value) ++ ((e6.of.1).map V8 ++ (([VI e6.size] : List Value)))) (([.string ⟨(e6.name).toArray⟩] : List Value)) (([VI e6.kind] : List Value)) ((e6.of.1).map V8 ++ (([VI e6.size] : List Value))) 1 1 from ⟨(show ([.string ⟨(e6.name).toArray⟩, VI e6.kind] : List Value) ++ ((e6.of.1).map V8 ++ (([VI e6.size] : List Value))) = ([.string ⟨(e6.name).toArray⟩] : List Value) ++ ((([VI e6.kind] : List Value)) ++ ((e6.of.1).map V8 ++ (([VI e6.size] : List Value)))) from by simp only [List.cons_append, List.nil_append]), (by rfl), (by rfl)⟩)) ?_); refine l_yes rfl rfl (by exact congrArg Value.bool (decide_eq_true hc17)) (o_val (r_bin (a := e6.kind) (b := 2) rfl rfl (fun _ => b_neq)) ?_); refine l_yes rfl rfl (by exact congrArg Value.bool (decide_eq_true hc17)) (o_val r_mv ?_)
         by_cases hc18 : e6.kind ≠ 2
         ·
          refine l_no rfl rfl (by exact congrArg Value.bool (decide_eq_true hc18)) rfl ?_; refine l_no rfl rfl (by exact congrArg Value.bool (decide_eq_true hc18)) rfl ?_; refine l_no rfl rfl (by exact congrArg Value.bool (decide_eq_true hc18)) rfl ?_; refine l_yes rfl rfl (by exact congrArg Value.bool (decide_eq_true hc17)) (o_val (r_pick (b := true) (congrArg Value.bool (decide_eq_true hc18))) ?_); refine l_op (o_val (r_pick (b := true) (congrArg Value.bool (decide_eq_true hc17))) ?_); refine l_op (o_val r_as ?_); first | refine l_end ?_ | refine l_nil ?_
          repeat refine c_seq ?_
          refine c_yes rfl ?_; repeat refine c_seq ?_
          refine c_region ?_; refine l_op (o_val r_as ?_); first | refine l_end ?_ | refine l_nil ?_
          refine c_ret ?_; try dsimp only [Exit.then, Exit.inBlock]
          refine e_ret1 (v := .bool false) Try.results63 rfl ?_
          refine ⟨_, rfl, ?_⟩
          refine ⟨false, rfl, ⟨fun h => (by cases h), fun h => ?_⟩, H.sub (List.nil_sublist _)⟩
          have hm := h.2 i (by omega) e6 he7
          obtain ⟨⟨h1, h2, h3⟩, h4⟩ := hm
          first
            | omega
            | contradiction
            | exact absurd (h4 e12 (by omega) (by have e := he13; rwa [show ((i : Int) - 1).toNat = i - 1 by omega] at e)) (List.not_lt.2 (by assumption))
         ·
          refine l_yes rfl rfl (by exact congrArg Value.bool (decide_eq_false hc18)) (o_val (r_fa rfl fo54_3) ?_); refine l_yes rfl rfl (by exact congrArg Value.bool (decide_eq_false hc18)) (o_val (r_l1 (v := VI e6.size) H (i := 0) rfl rfl ct2 (show Cut3 (([.string ⟨(e6.name).toArray⟩, VI e6.kind] : List Value) ++ ((e6.of.1).map V8 ++ (([VI e6.size] : List Value)))) (([.string ⟨(e6.name).toArray⟩, VI e6.kind] : List Value) ++ ((e6.of.1).map V8)) (([VI e6.size] : List Value)) (([] : List Value)) 34 1 from ⟨(show ([.string ⟨(e6.name).toArray⟩, VI e6.kind] : List Value) ++ ((e6.of.1).map V8 ++ (([VI e6.size] : List Value))) = (([.string ⟨(e6.name).toArray⟩, VI e6.kind] : List Value) ++ ((e6.of.1).map V8)) ++ ((([VI e6.size] : List Value)) ++ (([] : List Value))) from by simp only [List.cons_append, List.nil_append]), (by simp only [List.length_append, List.length_map, List.length_cons, List.length_nil, (show (e6.of.1).length = 32 from e6.of.2)]), (by rfl)⟩)) ?_); refine l_yes rfl rfl (by exact congrArg Value.bool (decide_eq_false hc18)) (o_val (r_bin (a := e6.size) (b := 0) rfl rfl (fun _ => b_neq)) ?_); refine l_yes rfl rfl (by exact congrArg Value.bool (decide_eq_true hc17)) (o_val (r_pick (b := false) (congrArg Value.bool (decide_eq_false hc18))) ?_); refine l_op (o_val (r_pick (b := true) (congrArg Value.bool (decide_eq_true hc17))) ?_); refine l_op (o_val r_as ?_); first | refine l_end ?_ | refine l_nil ?_
          by_cases hc19 : e6.size ≠ 0
          ·
           repeat refine c_seq ?_
           refine c_yes (by exact congrArg Value.bool (decide_eq_true hc19)) ?_; repeat refine c_seq ?_
           refine c_region ?_; refine l_op (o_val r_as ?_); first | refine l_end ?_ | refine l_nil ?_
           refine c_ret ?_; try dsimp only [Exit.then, Exit.inBlock]
           refine e_ret1 (v := .bool false) Try.results63 rfl ?_
           refine ⟨_, rfl, ?_⟩
           refine ⟨false, rfl, ⟨fun h => (by cases h), fun h => ?_⟩, H.sub (List.nil_sublist _)⟩
           have hm := h.2 i (by omega) e6 he7
           obtain ⟨⟨h1, h2, h3⟩, h4⟩ := hm
           first
             | omega
             | contradiction
             | exact absurd (h4 e12 (by omega) (by have e := he13; rwa [show ((i : Int) - 1).toNat = i - 1 by omega] at e)) (List.not_lt.2 (by assumption))
          ·
           repeat refine c_seq ?_
           refine c_no (by exact congrArg Value.bool (decide_eq_false hc19)) ?_; refine c_skip ?_; repeat refine c_seq ?_
           refine c_region ?_; refine l_op (o_val (r_bin (a := (i : Int)) (b := 1) rfl rfl (fun _ => b_add (by omega) (by omega))) ?_); refine l_op (o_val r_mv ?_); first | refine l_end ?_ | refine l_nil ?_
           have hat : mayAt g.l i := fun x hx => by
             have ex : x = e6 := Option.some.inj (hx.symm.trans he7)
             subst ex
             refine ⟨⟨by assumption, by omega, by omega⟩, fun y hp hy => ?_⟩
             have ey : y = e12 := Option.some.inj (hy.symm.trans (by have e := he13; rwa [show ((i : Int) - 1).toNat = i - 1 by omega] at e))
             subst ey
             exact List.not_le.1 (by assumption)
           refine round_end (i + 1) ?_ ?_ ?_
           · exact ⟨rfl, rfl, rfl, show VI ((i : Int) + 1) = VI ((i + 1 : Nat) : Int) from congrArg VI (by omega), trivial⟩
           · refine ⟨?_, ?_⟩
             · try dsimp only
               exact ⟨by omega, fun j hj => (Nat.lt_or_ge j i).elim (hinv j) (fun h => (show i = j by omega) ▸ hat)⟩
             · exact H.sub (List.nil_sublist _)
           · show g.len - (i + 1 : Nat) < g.len - i; omega
        ·
         refine l_no rfl rfl (by exact congrArg Value.bool (decide_eq_false hc17)) rfl ?_; refine l_no rfl rfl (by exact congrArg Value.bool (decide_eq_false hc17)) rfl ?_; refine l_no rfl rfl (by exact congrArg Value.bool (decide_eq_false hc17)) rfl ?_; refine l_no rfl rfl (by exact congrArg Value.bool (decide_eq_false hc17)) rfl ?_; refine l_non rfl rfl rfl ?_; refine l_non rfl rfl rfl ?_; refine l_non rfl rfl rfl ?_; refine l_no rfl rfl (by exact congrArg Value.bool (decide_eq_false hc17)) rfl ?_; refine l_op (o_val (r_pick (b := false) (congrArg Value.bool (decide_eq_false hc17))) ?_); refine l_op (o_val r_as ?_); first | refine l_end ?_ | refine l_nil ?_
         repeat refine c_seq ?_
         refine c_no rfl ?_; refine c_skip ?_; repeat refine c_seq ?_
         refine c_region ?_; refine l_op (o_val (r_bin (a := (i : Int)) (b := 1) rfl rfl (fun _ => b_add (by omega) (by omega))) ?_); refine l_op (o_val r_mv ?_); first | refine l_end ?_ | refine l_nil ?_
         have hat : mayAt g.l i := fun x hx => by
           have ex : x = e6 := Option.some.inj (hx.symm.trans he7)
           subst ex
           refine ⟨⟨by assumption, by omega, by omega⟩, fun y hp hy => ?_⟩
           have ey : y = e12 := Option.some.inj (hy.symm.trans (by have e := he13; rwa [show ((i : Int) - 1).toNat = i - 1 by omega] at e))
           subst ey
           exact List.not_le.1 (by assumption)
         refine round_end (i + 1) ?_ ?_ ?_
         · exact ⟨rfl, rfl, rfl, show VI ((i : Int) + 1) = VI ((i + 1 : Nat) : Int) from congrArg VI (by omega), trivial⟩
         · refine ⟨?_, ?_⟩
           · try dsimp only
             exact ⟨by omega, fun j hj => (Nat.lt_or_ge j i).elim (hinv j) (fun h => (show i = j by omega) ▸ hat)⟩
           · exact H.sub (List.nil_sublist _)
         · show g.len - (i + 1 : Nat) < g.len - i; omega
     ·
      refine s_no rfl rfl (by exact congrArg Value.bool (decide_eq_false hc11)) rfl ?_; refine s_no rfl rfl (by exact congrArg Value.bool (decide_eq_false hc11)) rfl ?_; refine s_no rfl rfl (by exact congrArg Value.bool (decide_eq_false hc11)) rfl ?_; refine s_no rfl rfl (by exact congrArg Value.bool (decide_eq_false hc11)) rfl ?_; refine s_no rfl rfl (by exact congrArg Value.bool (decide_eq_false hc11)) rfl ?_; refine s_no rfl rfl (by exact congrArg Value.bool (decide_eq_false hc11)) rfl ?_; refine s_no rfl rfl (by exact congrArg Value.bool (decide_eq_false hc11)) rfl ?_; refine s_no rfl rfl (by exact congrArg Value.bool (decide_eq_false hc11)) rfl ?_; refine s_no rfl rfl (by exact congrArg Value.bool (decide_eq_false hc11)) rfl ?_; refine s_op (r_pick (b := false) (congrArg Value.bool (decide_eq_false hc11))) ?_; refine s_op (r_as) ?_; refine s_nil ?_; repeat refine c_seq ?_
      refine c_no rfl ?_; repeat refine c_seq ?_
      refine c_region ?_; refine l_op (o_val (r_fa rfl fo54_3) ?_); refine l_op (o_val (r_l1 (v := VI e6.size) H (i := 0) rfl rfl ct2 (show Cut3 (([.string ⟨(e6.name).toArray⟩, VI e6.kind] : List Value) ++ ((e6.of.1).map V8 ++ (([VI e6.size] : List Value)))) (([.string ⟨(e6.name).toArray⟩, VI e6.kind] : List Value) ++ ((e6.of.1).map V8)) (([VI e6.size] : List Value)) (([] : List Value)) 34 1 from ⟨(show ([.string ⟨(e6.name).toArray⟩, VI e6.kind] : List Value) ++ ((e6.of.1).map V8 ++ (([VI e6.size] : List Value))) = (([.string ⟨(e6.name).toArray⟩, VI e6.kind] : List Value) ++ ((e6.of.1).map V8)) ++ ((([VI e6.size] : List Value)) ++ (([] : List Value))) from by simp only [List.cons_append, List.nil_append]), (by simp only [List.length_append, List.length_map, List.length_cons, List.length_nil, (show (e6.of.1).length = 32 from e6.of.2)]), (by rfl)⟩)) ?_); refine l_op (o_val (r_bin (a := e6.size) (b := 0) rfl rfl (fun _ => b_lss)) ?_); refine l_op (o_val r_as ?_); first | refine l_end ?_ | refine l_nil ?_
      by_cases hc20 : e6.size < 0
      ·
       repeat refine c_seq ?_
       refine c_yes (by exact congrArg Value.bool (decide_eq_true hc20)) ?_; repeat refine c_seq ?_
       refine c_region ?_; refine l_op (o_val r_as ?_); first | refine l_end ?_ | refine l_nil ?_
       refine c_ret ?_; try dsimp only [Exit.then, Exit.inBlock]
       refine e_ret1 (v := .bool false) Try.results63 rfl ?_
       refine ⟨_, rfl, ?_⟩
       refine ⟨false, rfl, ⟨fun h => (by cases h), fun h => ?_⟩, H.sub (List.nil_sublist _)⟩
       have hm := h.2 i (by omega) e6 he7
       obtain ⟨⟨h1, h2, h3⟩, h4⟩ := hm
       first
         | omega
         | contradiction
         | skip
      ·
       repeat refine c_seq ?_
       refine c_no (by exact congrArg Value.bool (decide_eq_false hc20)) ?_; repeat refine c_seq ?_
       refine c_region ?_; refine l_op (o_val (r_fa rfl fo54_1) ?_); refine l_op (o_val (r_l1 (v := VI e6.kind) H (i := 0) rfl rfl ct3 (show Cut3 (([.string ⟨(e6.name).toArray⟩, VI e6.kind] : List Value) ++ ((e6.of.1).map V8 ++ (([VI e6.size] : List Value)))) (([.string ⟨(e6.name).toArray⟩] : List Value)) (([VI e6.kind] : List Value)) ((e6.of.1).map V8 ++ (([VI e6.size] : List Value))) 1 1 from ⟨(show ([.string ⟨(e6.name).toArray⟩, VI e6.kind] : List Value) ++ ((e6.of.1).map V8 ++ (([VI e6.size] : List Value))) = ([.string ⟨(e6.name).toArray⟩] : List Value) ++ ((([VI e6.kind] : List Value)) ++ ((e6.of.1).map V8 ++ (([VI e6.size] : List Value)))) from by simp only [List.cons_append, List.nil_append]), (by rfl), (by rfl)⟩)) ?_); refine l_op (o_val (r_bin (a := e6.kind) (b := 1) rfl rfl (fun _ => b_neq)) ?_); refine l_op (o_val r_mv ?_)
       by_cases hc21 : e6.kind ≠ 1
       ·
        refine l_yes rfl rfl (by exact congrArg Value.bool (decide_eq_true hc21)) (o_val (r_fa rfl fo54_1) ?_); refine l_yes rfl rfl (by exact congrArg Value.bool (decide_eq_true hc21)) (o_val (r_l1 (v := VI e6.kind) H (i := 0) rfl rfl ct3 (show Cut3 (([.string ⟨(e6.name).toArray⟩, VI e6.kind] : List Value) ++ ((e6.of.1).map V8 ++ (([VI e6.size] : List Value)))) (([.string ⟨(e6.name).toArray⟩] : List Value)) (([VI e6.kind] : List Value)) ((e6.of.1).map V8 ++ (([VI e6.size] : List Value))) 1 1 from ⟨(show ([.string ⟨(e6.name).toArray⟩, VI e6.kind] : List Value) ++ ((e6.of.1).map V8 ++ (([VI e6.size] : List Value))) = ([.string ⟨(e6.name).toArray⟩] : List Value) ++ ((([VI e6.kind] : List Value)) ++ ((e6.of.1).map V8 ++ (([VI e6.size] : List Value)))) from by simp only [List.cons_append, List.nil_append]), (by rfl), (by rfl)⟩)) ?_); refine l_yes rfl rfl (by exact congrArg Value.bool (decide_eq_true hc21)) (o_val (r_bin (a := e6.kind) (b := 2) rfl rfl (fun _ => b_neq)) ?_); refine l_yes rfl rfl (by exact congrArg Value.bool (decide_eq_true hc21)) (o_val r_mv ?_)
        by_cases hc22 : e6.kind ≠ 2
        ·
         refine l_no rfl rfl (by exact congrArg Value.bool (decide_eq_true hc22)) rfl ?_; refine l_no rfl rfl (by exact congrArg Value.bool (decide_eq_true hc22)) rfl ?_; refine l_no rfl rfl (by exact congrArg Value.bool (decide_eq_true hc22)) rfl ?_; refine l_yes rfl rfl (by exact congrArg Value.bool (decide_eq_true hc21)) (o_val (r_pick (b := true) (congrArg Value.bool (decide_eq_true hc22))) ?_); refine l_op (o_val (r_pick (b := true) (congrArg Value.bool (decide_eq_true hc21))) ?_); refine l_op (o_val r_as ?_); first | refine l_end ?_ | refine l_nil ?_
         repeat refine c_seq ?_
         refine c_yes rfl ?_; repeat refine c_seq ?_
         refine c_region ?_; refine l_op (o_val r_as ?_); first | refine l_end ?_ | refine l_nil ?_
         refine c_ret ?_; try dsimp only [Exit.then, Exit.inBlock]
         refine e_ret1 (v := .bool false) Try.results63 rfl ?_
         refine ⟨_, rfl, ?_⟩
         refine ⟨false, rfl, ⟨fun h => (by cases h), fun h => ?_⟩, H.sub (List.nil_sublist _)⟩
         have hm := h.2 i (by omega) e6 he7
         obtain ⟨⟨h1, h2, h3⟩, h4⟩ := hm
         first
           | omega
           | contradiction
           | skip
        ·
         refine l_yes rfl rfl (by exact congrArg Value.bool (decide_eq_false hc22)) (o_val (r_fa rfl fo54_3) ?_); refine l_yes rfl rfl (by exact congrArg Value.bool (decide_eq_false hc22)) (o_val (r_l1 (v := VI e6.size) H (i := 0) rfl rfl ct2 (show Cut3 (([.string ⟨(e6.name).toArray⟩, VI e6.kind] : List Value) ++ ((e6.of.1).map V8 ++ (([VI e6.size] : List Value)))) (([.string ⟨(e6.name).toArray⟩, VI e6.kind] : List Value) ++ ((e6.of.1).map V8)) (([VI e6.size] : List Value)) (([] : List Value)) 34 1 from ⟨(show ([.string ⟨(e6.name).toArray⟩, VI e6.kind] : List Value) ++ ((e6.of.1).map V8 ++ (([VI e6.size] : List Value))) = (([.string ⟨(e6.name).toArray⟩, VI e6.kind] : List Value) ++ ((e6.of.1).map V8)) ++ ((([VI e6.size] : List Value)) ++ (([] : List Value))) from by simp only [List.cons_append, List.nil_append]), (by simp only [List.length_append, List.length_map, List.length_cons, List.length_nil, (show (e6.of.1).length = 32 from e6.of.2)]), (by rfl)⟩)) ?_); refine l_yes rfl rfl (by exact congrArg Value.bool (decide_eq_false hc22)) (o_val (r_bin (a := e6.size) (b := 0) rfl rfl (fun _ => b_neq)) ?_); refine l_yes rfl rfl (by exact congrArg Value.bool (decide_eq_true hc21)) (o_val (r_pick (b := false) (congrArg Value.bool (decide_eq_false hc22))) ?_); refine l_op (o_val (r_pick (b := true) (congrArg Value.bool (decide_eq_true hc21))) ?_); refine l_op (o_val r_as ?_); first | refine l_end ?_ | refine l_nil ?_
         by_cases hc23 : e6.size ≠ 0
         ·
          repeat refine c_seq ?_
          refine c_yes (by exact congrArg Value.bool (decide_eq_true hc23)) ?_; repeat refine c_seq ?_
          refine c_region ?_; refine l_op (o_val r_as ?_); first | refine l_end ?_ | refine l_nil ?_
          refine c_ret ?_; try dsimp only [Exit.then, Exit.inBlock]
          refine e_ret1 (v := .bool false) Try.results63 rfl ?_
          refine ⟨_, rfl, ?_⟩
          refine ⟨false, rfl, ⟨fun h => (by cases h), fun h => ?_⟩, H.sub (List.nil_sublist _)⟩
          have hm := h.2 i (by omega) e6 he7
          obtain ⟨⟨h1, h2, h3⟩, h4⟩ := hm
          first
            | omega
            | contradiction
            | skip
         ·
          repeat refine c_seq ?_
          refine c_no (by exact congrArg Value.bool (decide_eq_false hc23)) ?_; refine c_skip ?_; repeat refine c_seq ?_
          refine c_region ?_; refine l_op (o_val (r_bin (a := (i : Int)) (b := 1) rfl rfl (fun _ => b_add (by omega) (by omega))) ?_); refine l_op (o_val r_mv ?_); first | refine l_end ?_ | refine l_nil ?_
          have hat : mayAt g.l i := fun x hx => by
            have ex : x = e6 := Option.some.inj (hx.symm.trans he7)
            subst ex
            refine ⟨⟨by assumption, by omega, by omega⟩, fun y hp hy => ?_⟩
            omega
          refine round_end (i + 1) ?_ ?_ ?_
          · exact ⟨rfl, rfl, rfl, show VI ((i : Int) + 1) = VI ((i + 1 : Nat) : Int) from congrArg VI (by omega), trivial⟩
          · refine ⟨?_, ?_⟩
            · try dsimp only
              exact ⟨by omega, fun j hj => (Nat.lt_or_ge j i).elim (hinv j) (fun h => (show i = j by omega) ▸ hat)⟩
            · exact H.sub (List.nil_sublist _)
          · show g.len - (i + 1 : Nat) < g.len - i; omega
       ·
        refine l_no rfl rfl (by exact congrArg Value.bool (decide_eq_false hc21)) rfl ?_; refine l_no rfl rfl (by exact congrArg Value.bool (decide_eq_false hc21)) rfl ?_; refine l_no rfl rfl (by exact congrArg Value.bool (decide_eq_false hc21)) rfl ?_; refine l_no rfl rfl (by exact congrArg Value.bool (decide_eq_false hc21)) rfl ?_; refine l_non rfl rfl rfl ?_; refine l_non rfl rfl rfl ?_; refine l_non rfl rfl rfl ?_; refine l_no rfl rfl (by exact congrArg Value.bool (decide_eq_false hc21)) rfl ?_; refine l_op (o_val (r_pick (b := false) (congrArg Value.bool (decide_eq_false hc21))) ?_); refine l_op (o_val r_as ?_); first | refine l_end ?_ | refine l_nil ?_
        repeat refine c_seq ?_
        refine c_no rfl ?_; refine c_skip ?_; repeat refine c_seq ?_
        refine c_region ?_; refine l_op (o_val (r_bin (a := (i : Int)) (b := 1) rfl rfl (fun _ => b_add (by omega) (by omega))) ?_); refine l_op (o_val r_mv ?_); first | refine l_end ?_ | refine l_nil ?_
        have hat : mayAt g.l i := fun x hx => by
          have ex : x = e6 := Option.some.inj (hx.symm.trans he7)
          subst ex
          refine ⟨⟨by assumption, by omega, by omega⟩, fun y hp hy => ?_⟩
          omega
        refine round_end (i + 1) ?_ ?_ ?_
        · exact ⟨rfl, rfl, rfl, show VI ((i : Int) + 1) = VI ((i + 1 : Nat) : Int) from congrArg VI (by omega), trivial⟩
        · refine ⟨?_, ?_⟩
          · try dsimp only
            exact ⟨by omega, fun j hj => (Nat.lt_or_ge j i).elim (hinv j) (fun h => (show i = j by omega) ▸ hat)⟩
          · exact H.sub (List.nil_sublist _)
        · show g.len - (i + 1 : Nat) < g.len - i; omega
    ·
     repeat refine c_seq ?_
     refine c_yes (by exact congrArg Value.bool (congrArg not (decide_eq_false hc10))) ?_; refine c_skip ?_; repeat refine c_seq ?_
     refine c_yes (by exact congrArg Value.bool (congrArg not (decide_eq_false hc10))) ?_; repeat refine c_seq ?_
     refine c_region ?_; refine l_op (o_val r_as ?_); first | refine l_end ?_ | refine l_nil ?_
     refine c_ret ?_; try dsimp only [Exit.then, Exit.inBlock]
     refine e_ret1 (v := .bool false) Try.results63 rfl ?_
     refine ⟨_, rfl, ?_⟩
     refine ⟨false, rfl, ⟨fun h => (by cases h), fun h => ?_⟩, H.sub (List.nil_sublist _)⟩
     have hm := h.2 i (by omega) e6 he7
     obtain ⟨⟨h1, h2, h3⟩, h4⟩ := hm
     first
       | omega
       | contradiction
       | skip
   ·
    repeat refine c_seq ?_
    refine c_no (by exact congrArg Value.bool (decide_eq_false hc2)) ?_; refine c_exit ?_; repeat refine c_seq ?_
    refine c_region ?_; refine l_op (o_val r_as ?_); first | refine l_end ?_ | refine l_nil ?_
    refine c_ret ?_; try dsimp only [Exit.then, Exit.inBlock]
    refine e_ret1 (v := .bool true) Try.results63 rfl ?_
    refine ⟨_, rfl, ?_⟩
    exact ⟨true, rfl, ⟨fun _ => ⟨by omega, fun j hj => hinv j (by omega)⟩, fun _ => rfl⟩, H⟩
end Go.Proofs.Ytomjbabllcmodaa
namespace Go.Proofs.Ytomjbabllcmodaa
open Go
set_option maxRecDepth 100000
def TakeRes (L : List UInt8) (l : List It) (e : Int) : Prop := (e = 0 ∧ takeF L = some l) ∨ (e = 4 ∧ l = [] ∧ takeF L = none)
theorem takeRes_len {L : List UInt8} {l : List It} {e : Int} (h : TakeRes L l e) : l.length ≤ 64 := by
  rcases h with ⟨_, h⟩ | ⟨_, h, _⟩
  · exact (takeF_of h).1.len
  · rw [h]; exact Nat.zero_le _
theorem take_no1 {L : List UInt8} (h : 4000 < L.length ∨ ([68, 49] : List UInt8).isPrefixOf L = false) : takeF L = none := by
  refine takeF_none fun m hm hl e => ?_
  rcases h with h | h
  · omega
  · rw [← e] at h; simp [fldB] at h
theorem take_pre {L : List UInt8} (h : ([68, 49] : List UInt8).isPrefixOf L = true) : L = [68, 49] ++ L.drop 2 := by
  obtain ⟨t, ht⟩ := List.isPrefixOf_iff_prefix.1 h
  rw [← ht]; rfl
theorem take_cnt {L b : List UInt8} {n : Nat} {m : List It} (hL : L = [68, 49] ++ (cnt n ++ b)) (e : fldB m = L) : m.length = n ∧ m.flatMap itB = b := by
  rw [hL, fldB] at e
  exact cnt_inj _ _ _ _ (List.append_cancel_left e)
theorem take_no2 {L : List UInt8} {x : UInt64} {k : Nat} {e : Int} (hp : L = [68, 49] ++ L.drop 2) (hc : CntRes (L.drop 2) x k e) (hbad : ¬ e = 0 ∨ 64 < x.toNat) : takeF L = none := by
  refine takeF_none fun m hm hl he => ?_
  rcases hc with ⟨h1, h2, h3, h4⟩ | ⟨_, h2⟩
  · rcases hbad with h5 | h5
    · exact h5 h1
    · have hL : L = [68, 49] ++ (cnt x.toNat ++ (L.drop 2).drop k) := by rw [← h3]; exact hp
      have := (take_cnt hL he).1
      have := hm.len
      omega
  · have e2 : L.drop 2 = cnt m.length ++ m.flatMap itB := by rw [← he]; rfl
    have := hm.len
    exact h2 m.length _ (by omega) e2
theorem take_no3 {L b : List UInt8} {l : List It} {n : Nat} (hL : L = [68, 49] ++ (cnt n ++ (l.flatMap itB ++ b))) (hl : ∀ x ∈ l, x.fits) (hlt : l.length < n) (h : NoIt b) : takeF L = none := by
  refine takeF_none fun m hm _ he => ?_
  obtain ⟨h1, h2⟩ := take_cnt hL he
  exact items_stuck (r := []) (fun x hx => (hl x hx).1) (fun x hx => (hm.ok x hx).fits) h (by omega) (by rw [List.append_nil]; exact h2.symm)
theorem take_no4 {L b : List UInt8} {l : List It} {n : Nat} (hL : L = [68, 49] ++ (cnt n ++ (l.flatMap itB ++ b))) (hl : ∀ x ∈ l, x.fits) (hlt : l.length = n) (h : 0 < b.length ∨ ¬ MayB l) : takeF L = none := by
  refine takeF_none fun m hm _ he => ?_
  obtain ⟨h1, h2⟩ := take_cnt hL he
  obtain ⟨e1, e2⟩ := items_inj (r := []) (s := b) (l := m) (m := l) (by omega) (fun x hx => (hm.ok x hx).fits.1) (fun x hx => (hl x hx).1) (by rw [List.append_nil]; exact h2)
  rcases h with h | h
  · rw [← e2] at h; exact Nat.lt_irrefl _ h
  · exact h (e1 ▸ mayB_of hm)
theorem take_yes {L b : List UInt8} {l : List It} {n : Nat} (hL : L = [68, 49] ++ (cnt n ++ (l.flatMap itB ++ b))) (hl : ∀ x ∈ l, x.fits) (hlt : l.length = n) (hb : ¬ 0 < b.length) (h : MayB l) (h4 : L.length ≤ 4000) : takeF L = some l := by
  have hb0 : b = [] := List.eq_nil_of_length_eq_zero (by omega)
  refine takeF_some (mayF_of h fun x hx => (hl x hx).2.2) ?_ h4
  rw [hL, hb0, List.append_nil, hlt.symm]; rfl
theorem cut_l0 {s : Sl} {w : World} (hs : s.ok w) (k : Nat) : (s.cut k s.len s.cap).l = s.l.drop k := by
  simp only [Sl.cut]; rw [List.take_of_length_le (by rw [List.length_drop, hs.ln]; omega)]
theorem cut_l00 {s : Sl} {w : World} (hs : s.ok w) (k j : Nat) : ((s.cut k s.len s.cap).cut j (s.len - k) (s.cap - k)).l = s.l.drop (k + j) := by
  have e := cut_l0 hs k
  rw [Sl.cut]; simp only [e]
  rw [List.drop_drop, List.take_of_length_le (by rw [List.length_drop, hs.ln]; omega)]
theorem ftake_ret (w0 : World) (s : Sl) (hs : s.ok w0) (hm : s.len ≤ 1048576) :
    Ret Try.prog 42 [s.v] w0 fun v w' => ∃ (a : Option Nat) (c : Nat) (l : List It) (e : Int), v = .tuple #[.slice (hd a) l.length c, VI e] ∧ TakeRes s.l l e ∧ Hp w0 w' [] [.own a l.length c (l.flatMap itE) 54 35] := by
  refine ret_mk Try.func42 rfl Try.ntmps42 (by simp) ?_
  have H := Hp.refl w0 []
  have hsl := hs.ln
  have hle := hs.le
  have hmx := hs.mx
  repeat refine c_seq ?_
  refine c_region ?_; refine l_op (o_val r_as ?_); refine l_op (o_val r_as ?_); first | refine l_end ?_ | refine l_nil ?_
  repeat refine c_seq ?_
  refine c_region ?_; refine l_op (o_val r_mv ?_); refine l_op (o_val (r_lens el32 rfl) ?_); refine l_op (o_val (r_bin (a := (s.len : Int)) (b := 4000) rfl rfl (fun _ => b_gtr)) ?_); refine l_op (o_val r_mv ?_)
  by_cases hc1 : 4000 < (s.len : Int)
  ·
   refine l_no rfl rfl (by exact congrArg Value.bool (decide_eq_true hc1)) rfl ?_; refine l_no rfl rfl (by exact congrArg Value.bool (decide_eq_true hc1)) rfl ?_; refine l_no rfl rfl (by exact congrArg Value.bool (decide_eq_true hc1)) rfl ?_; refine l_no rfl rfl (by exact congrArg Value.bool (decide_eq_true hc1)) rfl ?_; refine l_op (o_val (r_pick (b := true) (congrArg Value.bool (decide_eq_true hc1))) ?_); first | refine l_end ?_ | refine l_nil ?_
   repeat refine c_seq ?_
   refine c_yes rfl ?_; repeat refine c_seq ?_
   refine c_region ?_; refine l_op (o_val r_as ?_); refine l_op (o_val r_as ?_); first | refine l_end ?_ | refine l_nil ?_
   refine c_ret ?_; try dsimp only [Exit.then, Exit.inBlock]
   refine e_retN (vs := [.slice none 0 0, VI 4]) _ Try.results42 rfl (resT (v := .slice none 0 0) rfl (resT (v := VI 4) rfl (resZ))) ?_
   refine ⟨_, rfl, ?_⟩
   exact ⟨none, 0, [], 4, rfl, .inr ⟨rfl, rfl, take_no1 (by first | exact .inl (by omega) | exact .inr (by assumption))⟩, (H.sub (List.nil_sublist _)).nilEnd 54 35⟩
  ·
   refine l_yes rfl rfl (by exact congrArg Value.bool (decide_eq_false hc1)) (o_val r_mv ?_); refine l_yes rfl rfl (by exact congrArg Value.bool (decide_eq_false hc1)) (o_val (r_b2S (s := s) Try.underlying32 Try.underlying5 Try.underlying9 rfl (hs.up H (fun _ => apart_nil _))) ?_); refine l_yes rfl rfl (by exact congrArg Value.bool (decide_eq_false hc1)) (o_callR Try.func60 rfl rfl rfl (hasPrefix_ret _ (s.l) (([68,49] : List UInt8))) ?_); rintro _ w' ⟨rfl, hw2⟩
   rw [hw2]; clear hw2 w'
   refine l_yes rfl rfl (by exact congrArg Value.bool (decide_eq_false hc1)) (o_val (r_not rfl) ?_); refine l_op (o_val (r_pick (b := false) (congrArg Value.bool (decide_eq_false hc1))) ?_); first | refine l_end ?_ | refine l_nil ?_
   have hc30 := Bool.eq_false_or_eq_true ((([68,49] : List UInt8)).isPrefixOf (s.l))
   rcases hc30 with hc3 | hc3
   ·
    repeat refine c_seq ?_
    refine c_no (by exact congrArg Value.bool (congrArg not hc3)) ?_; refine c_skip ?_; have hpre := take_pre (by assumption : ([68, 49] : List UInt8).isPrefixOf s.l = true)
    have hpre2 := congrArg List.length hpre
    rw [List.length_append, List.length_drop] at hpre2
    have hpre3 : ([68, 49] : List UInt8).length = 2 := rfl
    repeat refine c_seq ?_
    refine c_region ?_; refine l_op (o_val r_mv ?_); refine l_op (o_val (r_slS (s := s) 2 s.len s.cap (lv := some (VI 2)) (hv := none) (mv := none) rfl el32 rfl rfl rfl (fun w => by exact sbl 2 (by omega) (by (try simp only [Sl.cut]); omega) w)) ?_); refine l_op (o_val r_as ?_); first | refine l_end ?_ | refine l_nil ?_
    repeat refine c_seq ?_
    refine c_region ?_; refine l_op (o_val r_mv ?_); refine l_op (o_callR Try.func61 rfl rfl rfl (takeCount_ret _ (Sl.cut s 2 s.len s.cap) ((hs.up H (fun _ => apart_nil _)).cut (l := 2) (h := s.len) (m := s.cap) (by omega) (by (try simp only [Sl.cut]); omega) (by omega) (by (try simp only [Sl.cut]); omega)) (by (try simp only [Sl.cut]); omega)) ?_); rintro _ w ⟨x4, k5, e6, rfl, hco7, Hc⟩
    replace H : Hp _ w _ ([]) := H.call Hc
    clear Hc
    have hco7n : e6 = 0 → k5 ≤ (((s.l).drop 2).take (s.len - 2)).length := fun h => hco7.elim (fun h1 => h1.2.1) (fun h1 => absurd h h1.1)
    try simp only [List.length_take, List.length_drop] at hco7n
    refine l_op (o_val r_mv ?_); refine l_op (o_val (r_ext rfl rfl) ?_); refine l_op (o_val (r_ext rfl rfl) ?_); refine l_op (o_val (r_ext rfl rfl) ?_); refine l_op (o_val r_as ?_); refine l_op (o_val r_as ?_); refine l_op (o_val r_as ?_); first | refine l_end ?_ | refine l_nil ?_
    rw [cut_l0 hs 2] at hco7
    repeat refine c_seq ?_
    refine c_region ?_; refine l_op (o_val r_mv ?_); refine l_op (o_val (r_bin (a := e6) (b := 0) rfl rfl (fun _ => b_neq)) ?_); refine l_op (o_val r_mv ?_)
    by_cases hc8 : e6 ≠ 0
    ·
     refine l_no rfl rfl (by exact congrArg Value.bool (decide_eq_true hc8)) rfl ?_; refine l_no rfl rfl (by exact congrArg Value.bool (decide_eq_true hc8)) rfl ?_; refine l_op (o_val (r_pick (b := true) (congrArg Value.bool (decide_eq_true hc8))) ?_); first | refine l_end ?_ | refine l_nil ?_
     repeat refine c_seq ?_
     refine c_yes rfl ?_; repeat refine c_seq ?_
     refine c_region ?_; refine l_op (o_val r_as ?_); refine l_op (o_val r_as ?_); first | refine l_end ?_ | refine l_nil ?_
     refine c_ret ?_; try dsimp only [Exit.then, Exit.inBlock]
     refine e_retN (vs := [.slice none 0 0, VI 4]) _ Try.results42 rfl (resT (v := .slice none 0 0) rfl (resT (v := VI 4) rfl (resZ))) ?_
     refine ⟨_, rfl, ?_⟩
     exact ⟨none, 0, [], 4, rfl, .inr ⟨rfl, rfl, take_no2 hpre hco7 (by omega)⟩, (H.sub (List.nil_sublist _)).nilEnd 54 35⟩
    ·
     refine l_yes rfl rfl (by exact congrArg Value.bool (decide_eq_false hc8)) (o_val r_mv ?_); refine l_yes rfl rfl (by exact congrArg Value.bool (decide_eq_false hc8)) (o_val (r_bin (a := (x4.toNat : Int)) (b := 64) rfl rfl (fun _ => b_gtr)) ?_); refine l_op (o_val (r_pick (b := false) (congrArg Value.bool (decide_eq_false hc8))) ?_); first | refine l_end ?_ | refine l_nil ?_
     by_cases hc9 : 64 < (x4.toNat : Int)
     ·
      repeat refine c_seq ?_
      refine c_yes (by exact congrArg Value.bool (decide_eq_true hc9)) ?_; repeat refine c_seq ?_
      refine c_region ?_; refine l_op (o_val r_as ?_); refine l_op (o_val r_as ?_); first | refine l_end ?_ | refine l_nil ?_
      refine c_ret ?_; try dsimp only [Exit.then, Exit.inBlock]
      refine e_retN (vs := [.slice none 0 0, VI 4]) _ Try.results42 rfl (resT (v := .slice none 0 0) rfl (resT (v := VI 4) rfl (resZ))) ?_
      refine ⟨_, rfl, ?_⟩
      exact ⟨none, 0, [], 4, rfl, .inr ⟨rfl, rfl, take_no2 hpre hco7 (by omega)⟩, (H.sub (List.nil_sublist _)).nilEnd 54 35⟩
     ·
      repeat refine c_seq ?_
      refine c_no (by exact congrArg Value.bool (decide_eq_false hc9)) ?_; refine c_skip ?_; have he0 : e6 = 0 := by omega
      subst he0
      have h00 : s.l = [68, 49] ++ (cnt x4.toNat ++ (([] : List It).flatMap itB ++ s.l.drop (2 + k5))) := by
        rcases hco7 with ⟨_, _, h3, _⟩ | ⟨h3, _⟩
        · rw [List.flatMap_nil, List.nil_append, ← List.drop_drop, ← h3]; exact hpre
        · exact absurd rfl h3
      repeat refine c_seq ?_
      refine c_region ?_; refine l_op (o_val r_mv ?_); refine l_op (o_val r_mv ?_); refine l_op (o_val (r_slS (s := (Sl.cut s 2 s.len s.cap)) k5 (s.len - 2) (s.cap - 2) (lv := some (VI (k5 : Int))) (hv := none) (mv := none) rfl el32 rfl rfl rfl (fun w => by exact sbl k5 (by omega) (by (try simp only [Sl.cut]); omega) w)) ?_); refine l_op (o_val r_as ?_); first | refine l_end ?_ | refine l_nil ?_
      repeat refine c_seq ?_
      refine c_region ?_; refine l_op (o_val r_as ?_); first | refine l_end ?_ | refine l_nil ?_
      repeat refine c_seq ?_
      refine c_region ?_; refine l_op (o_val r_mv ?_); refine l_op (o_val (r_mvV (c64 0 (by decide))) ?_); first | refine l_end ?_ | refine l_nil ?_
      repeat refine c_seq ?_
      refine c_block ?_; repeat refine c_seq ?_
      refine c_loop5 (fun (i : Nat) (b : Sl) (l : List It) (a : Option Nat) (c : Nat) => [(0, b.v), (7, .slice (hd a) l.length c), (37, V64 x4), (38, V64 (UInt64.ofNat i))])
        (fun (i : Nat) (b : Sl) (l : List It) (a : Option Nat) (c : Nat) w => (l.length = i ∧ i ≤ x4.toNat ∧ (∀ y ∈ l, y.fits) ∧ s.l = [68, 49] ++ (cnt x4.toNat ++ (l.flatMap itB ++ b.l)) ∧ (∀ w : World, s.ok w → b.ok w) ∧ b.len ≤ s.len) ∧ Hp w0 w [] ([.own a l.length c ((l).flatMap itE) 54 35]))
        (fun (i : Nat) (b : Sl) (l : List It) (a : Option Nat) (c : Nat) => x4.toNat - i) 0 (Sl.cut (Sl.cut s 2 s.len s.cap) k5 (s.len - 2) (s.cap - 2)) ([]) none 0 ⟨rfl, rfl, rfl, rfl, trivial⟩ ⟨⟨rfl, Nat.zero_le _, fun y hy => (by cases hy), by rw [cut_l00 hs 2 k5]; exact h00, fun w hs => (hs.cut (by omega) (by omega) (by omega) (by omega)).cut (by omega) (by (try simp only [Sl.cut]); omega) (by omega) (by (try simp only [Sl.cut]); omega), by first | (simp only [Sl.cut]; omega) | omega⟩, (H.nilEnd 54 35)⟩ ?_
      clear H
      rintro i b l a c τ w ⟨⟨hli, hix, hfit, hcut, hbk, hbl⟩, H⟩
      have hon := ofNat_nat i (by omega)
      have hbn := (hbk _ hs).ln
      repeat refine c_seq ?_
      refine c_region ?_; refine l_op (o_val (r_bin (a := ((UInt64.ofNat i).toNat : Int)) (b := (x4.toNat : Int)) rfl rfl (fun _ => b_lss)) ?_); first | refine l_end ?_ | refine l_nil ?_
      by_cases hc10 : ((UInt64.ofNat i).toNat : Int) < (x4.toNat : Int)
      ·
       repeat refine c_seq ?_
       refine c_yes (by exact congrArg Value.bool (decide_eq_true hc10)) ?_; refine c_skip ?_; repeat refine c_seq ?_
       refine c_block ?_; repeat refine c_seq ?_
       refine c_region ?_; refine l_op (o_val r_mv ?_); refine l_op (o_callR Try.func62 rfl rfl rfl (item_ret _ b (hbk _ (hs.up H (fun _ => apart_nil _))) (by (try simp only [Sl.cut]); omega)) ?_); rintro _ w ⟨x11, r12, f13, rfl, hrok15, hrl16, hit14, Hc⟩
       replace H : Hp _ w _ ([_]) := H.call Hc
       clear Hc
       refine l_op (o_val r_mv ?_); refine l_op (o_val (r_ext rfl rfl) ?_); refine l_op (o_val (r_ext rfl rfl) ?_); refine l_op (o_val (r_ext rfl rfl) ?_); refine l_op (o_alloc H zc54 (fun b17 w H hb17 => ?_)); replace H : Hp _ w _ ([_, .blk b17 (([.string ⟨(([] : List UInt8)).toArray⟩, VI 0] : List Value) ++ ((List.replicate 32 (0 : UInt8)).map V8 ++ (([VI 0] : List Value)))) 54]) := H
       refine l_op (o_stW (C' := ([.string ⟨(x11.name).toArray⟩, VI x11.kind] : List Value) ++ ((x11.of.1).map V8 ++ (([VI x11.size] : List Value)))) H (i := 1) rfl rfl rfl cs54 (by first | (simp [Value.oneCell', List.all_append, List.all_map]; done) | (simp only [List.all_append, List.all_cons, List.all_nil, List.all_map]; simp [Value.oneCell', Function.comp_def])) (by simp only [List.length_append, List.length_map, List.length_cons, List.length_nil, (show (List.replicate 32 (0 : UInt8)).length = 32 from (List.length_replicate ..))]) (by simp only [List.length_append, List.length_map, List.length_cons, List.length_nil, (show (x11.of.1).length = 32 from x11.of.2)]) (fun w H => ?_)); replace H : Hp _ w _ ([_, .blk b17 (([.string ⟨(x11.name).toArray⟩, VI x11.kind] : List Value) ++ ((x11.of.1).map V8 ++ (([VI x11.size] : List Value)))) 54]) := H
       refine l_op (o_val r_as ?_); refine l_op (o_val r_as ?_); first | refine l_end ?_ | refine l_nil ?_
       repeat refine c_seq ?_
       refine c_region ?_; refine l_op (o_val r_mv ?_); refine l_op (o_val (r_not rfl) ?_); first | refine l_end ?_ | refine l_nil ?_
       have hc180 := Bool.eq_false_or_eq_true (f13)
       rcases hc180 with hc18 | hc18
       ·
        repeat refine c_seq ?_
        refine c_no (by exact congrArg Value.bool (congrArg not hc18)) ?_; refine c_skip ?_; repeat refine c_seq ?_
        refine c_region ?_; refine l_op (o_val r_mv ?_); refine l_op (o_val (r_ldA (C := ([.string ⟨(x11.name).toArray⟩, VI x11.kind] : List Value) ++ ((x11.of.1).map V8 ++ (([VI x11.size] : List Value)))) H (i := 1) rfl rfl rt54 (by simp only [List.length_append, List.length_map, List.length_cons, List.length_nil, (show (x11.of.1).length = 32 from x11.of.2)])) ?_); refine l_op (o_bslG1 (enc := itE) (x11) H sl52 zc54 (by rfl) (by decide) (by decide) rfl (itE_len _) (fun b19 w H hb19 => ?_)); replace H : Hp _ w _ ([_, _, .own (some b19) 1 1 (([x11]).flatMap itE) 54 35]) := H
        have hl1 : (l ++ [x11]).length = l.length + 1 := by rw [List.length_append]; rfl
        refine l_op (o_appG (enc := itE) (s := ⟨hd (some b19), 1, 1, [x11]⟩) (l' := l ++ ([x11])) (len' := (l ++ ([x11])).length) rfl (by rw [List.length_append]; rfl) H (i := 0) rfl sl52 Try.underlying52 rfl rfl (H.glOwn (i := 2) rfl (by decide) (fun c _ => itE_len c)) (by decide) (fun c _ => itE_all c) (by omega) (by decide) (fun a20 c21 w H => ?_)); replace H : Hp _ w _ ([.own a20 ((l ++ ([x11])).length) c21 ((l ++ ([x11])).flatMap itE) 54 35, _, _]) := H
        refine l_op (o_val r_mv ?_); refine l_op (o_val r_as ?_); refine l_op (o_val r_as ?_); first | refine l_end ?_ | refine l_nil ?_
        repeat refine c_seq ?_
        refine c_region ?_; refine l_op (o_val (r_bin rfl (c64 1 (by decide)) (fun _ => b_add_u64N)) ?_); refine l_op (o_val r_mv ?_); first | refine l_end ?_ | refine l_nil ?_
        have hyes := hit14.elim (fun h => h.2) (fun h => absurd (hc18.symm.trans h.1) (by decide))
        refine round_end (i + 1, r12, l ++ ([x11]), a20, c21) ?_ ?_ ?_
        · exact ⟨rfl, rfl, rfl, show V64 (UInt64.ofNat (i + 1)) = V64 (UInt64.ofNat (i + 1 : Nat)) from congrArg V64 rfl, trivial⟩
        · refine ⟨?_, ?_⟩
          · try dsimp only
            exact ⟨by rw [List.length_append]; exact congrArg (· + 1) hli, by omega, fun y hy => (List.mem_append.1 hy).elim (hfit y) (fun hy => by rw [List.mem_singleton.1 hy]; exact hyes.1), by rw [List.flatMap_append, List.append_assoc, List.flatMap_cons, List.flatMap_nil, List.append_nil, ← hyes.2]; exact hcut, fun w h => hrok15 w (hbk w h), by omega⟩
          · exact H.sub (.cons_cons _ (List.nil_sublist _))
        · show x4.toNat - (i + 1 : Nat) < x4.toNat - i; omega
       ·
        repeat refine c_seq ?_
        refine c_yes (by exact congrArg Value.bool (congrArg not hc18)) ?_; repeat refine c_seq ?_
        refine c_region ?_; refine l_op (o_val r_as ?_); refine l_op (o_val r_as ?_); first | refine l_end ?_ | refine l_nil ?_
        refine c_ret ?_; try dsimp only [Exit.then, Exit.inBlock]
        refine e_retN (vs := [.slice none 0 0, VI 4]) _ Try.results42 rfl (resT (v := .slice none 0 0) rfl (resT (v := VI 4) rfl (resZ))) ?_
        refine ⟨_, rfl, ?_⟩
        exact ⟨none, 0, [], 4, rfl, .inr ⟨rfl, rfl, take_no3 hcut hfit (by omega) (hit14.elim (fun h => absurd (hc18.symm.trans h.1) (by decide)) (fun h => h.2))⟩, (H.sub (List.nil_sublist _)).nilEnd 54 35⟩
      ·
       repeat refine c_seq ?_
       refine c_no (by exact congrArg Value.bool (decide_eq_false hc10)) ?_; refine c_exit ?_; repeat refine c_seq ?_
       refine c_region ?_; refine l_op (o_val r_mv ?_); refine l_op (o_val (r_lens el32 rfl) ?_); refine l_op (o_val (r_bin (a := (b.len : Int)) (b := 0) rfl rfl (fun _ => b_gtr)) ?_); refine l_op (o_val r_mv ?_)
       by_cases hc22 : 0 < (b.len : Int)
       ·
        refine l_no rfl rfl (by exact congrArg Value.bool (decide_eq_true hc22)) rfl ?_; refine l_no rfl rfl (by exact congrArg Value.bool (decide_eq_true hc22)) rfl ?_; refine l_no rfl rfl (by exact congrArg Value.bool (decide_eq_true hc22)) rfl ?_; refine l_op (o_val (r_pick (b := true) (congrArg Value.bool (decide_eq_true hc22))) ?_); first | refine l_end ?_ | refine l_nil ?_
        repeat refine c_seq ?_
        refine c_yes rfl ?_; repeat refine c_seq ?_
        refine c_region ?_; refine l_op (o_val r_as ?_); refine l_op (o_val r_as ?_); first | refine l_end ?_ | refine l_nil ?_
        refine c_ret ?_; try dsimp only [Exit.then, Exit.inBlock]
        refine e_retN (vs := [.slice none 0 0, VI 4]) _ Try.results42 rfl (resT (v := .slice none 0 0) rfl (resT (v := VI 4) rfl (resZ))) ?_
        refine ⟨_, rfl, ?_⟩
        exact ⟨none, 0, [], 4, rfl, .inr ⟨rfl, rfl, take_no4 hcut hfit (by omega) (by first | exact .inl (by omega) | exact .inr (fun h => by have := hmay.2 h; simp [*] at this))⟩, (H.sub (List.nil_sublist _)).nilEnd 54 35⟩
       ·
        refine l_yes rfl rfl (by exact congrArg Value.bool (decide_eq_false hc22)) (o_val r_mv ?_); refine l_yes rfl rfl (by exact congrArg Value.bool (decide_eq_false hc22)) (o_callR Try.func63 rfl rfl rfl (fmay_ret _ ⟨hd a, l.length, c, l⟩ (H.glOwn (i := 0) rfl (by decide) (fun c _ => itE_len c))) ?_); rintro _ w ⟨b23, rfl, hmay24, Hc⟩
        replace H : Hp _ w _ ([_]) := H.call Hc
        clear Hc
        refine l_yes rfl rfl (by exact congrArg Value.bool (decide_eq_false hc22)) (o_val (r_not rfl) ?_); refine l_op (o_val (r_pick (b := false) (congrArg Value.bool (decide_eq_false hc22))) ?_); first | refine l_end ?_ | refine l_nil ?_
        have hc250 := Bool.eq_false_or_eq_true (b23)
        rcases hc250 with hc25 | hc25
        ·
         repeat refine c_seq ?_
         refine c_no (by exact congrArg Value.bool (congrArg not hc25)) ?_; refine c_skip ?_; repeat refine c_seq ?_
         refine c_region ?_; refine l_op (o_val r_mv ?_); refine l_op (o_val r_as ?_); refine l_op (o_val r_as ?_); first | refine l_end ?_ | refine l_nil ?_
         refine c_ret ?_; try dsimp only [Exit.then, Exit.inBlock]
         refine e_retN (vs := [.slice (hd a) l.length c, VI 0]) _ Try.results42 rfl (resT (v := .slice (hd a) l.length c) rfl (resT (v := VI 0) rfl (resZ))) ?_
         refine ⟨_, rfl, ?_⟩
         exact ⟨_, _, _, 0, rfl, .inl ⟨rfl, take_yes hcut hfit (by omega) (by omega) (hmay24.1 hc25) (by omega)⟩, H.sub (.cons_cons _ (List.nil_sublist _))⟩
        ·
         repeat refine c_seq ?_
         refine c_yes (by exact congrArg Value.bool (congrArg not hc25)) ?_; repeat refine c_seq ?_
         refine c_region ?_; refine l_op (o_val r_as ?_); refine l_op (o_val r_as ?_); first | refine l_end ?_ | refine l_nil ?_
         refine c_ret ?_; try dsimp only [Exit.then, Exit.inBlock]
         refine e_retN (vs := [.slice none 0 0, VI 4]) _ Try.results42 rfl (resT (v := .slice none 0 0) rfl (resT (v := VI 4) rfl (resZ))) ?_
         refine ⟨_, rfl, ?_⟩
         exact ⟨none, 0, [], 4, rfl, .inr ⟨rfl, rfl, take_no4 hcut hfit (by omega) (by first | exact .inl (by omega) | exact .inr (fun h => by have := hmay24.2 h; simp [*] at this))⟩, (H.sub (List.nil_sublist _)).nilEnd 54 35⟩
   ·
    repeat refine c_seq ?_
    refine c_yes (by exact congrArg Value.bool (congrArg not hc3)) ?_; repeat refine c_seq ?_
    refine c_region ?_; refine l_op (o_val r_as ?_); refine l_op (o_val r_as ?_); first | refine l_end ?_ | refine l_nil ?_
    refine c_ret ?_; try dsimp only [Exit.then, Exit.inBlock]
    refine e_retN (vs := [.slice none 0 0, VI 4]) _ Try.results42 rfl (resT (v := .slice none 0 0) rfl (resT (v := VI 4) rfl (resZ))) ?_
    refine ⟨_, rfl, ?_⟩
    exact ⟨none, 0, [], 4, rfl, .inr ⟨rfl, rfl, take_no1 (by first | exact .inl (by omega) | exact .inr (by assumption))⟩, (H.sub (List.nil_sublist _)).nilEnd 54 35⟩
end Go.Proofs.Ytomjbabllcmodaa
namespace Go.Proofs.Ytomjbabllcmodaa
open Go Go.Shelf
def Try.sortA_ren : Go.Shelf.Ren := ⟨fun | 6 => 39 | 15 => 59 | 14 => 58 | 28 => 77 | 29 => 78 | 20 => 69 | 21 => 70 | 22 => 71 | 23 => 72 | 24 => 73 | 25 => 74 | 26 => 75 | 27 => 76 | 46 => 82 | 47 => 83 | 48 => 84 | 49 => 85 | 50 => 86 | 57 => 89 | n => n, fun | 22 => 23 | 24 => 29 | 25 => 76 | 3 => 3 | 39 => 110 | 0 => 0 | 53 => 127 | 55 => 91 | 4 => 4 | 46 => 120 | 45 => 119 | 50 => 124 | 5 => 5 | 9 => 9 | 66 => 129 | 70 => 133 | 76 => 136 | 77 => 137 | n => n, fun | n => n⟩
theorem Try.sortA : Go.Proofs.SlLaysF0.n6 Try.prog Try.sortA_ren := {
  mixed := by kernel_rfl
  f6 := ⟨Try.f39.name, by decide, Try.func39.trans (congrArg some (by kernel_rfl))⟩
  f14 := ⟨Try.f58.name, by decide, Try.func58.trans (congrArg some (by kernel_rfl))⟩
  f15 := Try.func59.trans (congrArg some (by kernel_rfl))
  f20 := ⟨Try.f69.name, by decide, Try.func69.trans (congrArg some (by kernel_rfl))⟩
  f21 := ⟨Try.f70.name, by decide, Try.func70.trans (congrArg some (by kernel_rfl))⟩
  f22 := ⟨Try.f71.name, by decide, Try.func71.trans (congrArg some (by kernel_rfl))⟩
  f23 := ⟨Try.f72.name, by decide, Try.func72.trans (congrArg some (by kernel_rfl))⟩
  f24 := ⟨Try.f73.name, by decide, Try.func73.trans (congrArg some (by kernel_rfl))⟩
  f25 := ⟨Try.f74.name, by decide, Try.func74.trans (congrArg some (by kernel_rfl))⟩
  f26 := ⟨Try.f75.name, by decide, Try.func75.trans (congrArg some (by kernel_rfl))⟩
  f27 := ⟨Try.f76.name, by decide, Try.func76.trans (congrArg some (by kernel_rfl))⟩
  f28 := Try.func77.trans (congrArg some (by kernel_rfl))
  f29 := Try.func78.trans (congrArg some (by kernel_rfl))
  f46 := ⟨Try.f82.name, by decide, Try.func82.trans (congrArg some (by kernel_rfl))⟩
  f47 := Try.func83.trans (congrArg some (by kernel_rfl))
  f48 := Try.func84.trans (congrArg some (by kernel_rfl))
  f49 := ⟨Try.f85.name, by decide, Try.func85.trans (congrArg some (by kernel_rfl))⟩
  f50 := ⟨Try.f86.name, by decide, Try.func86.trans (congrArg some (by kernel_rfl))⟩
  f57 := ⟨Try.f89.name, by decide, Try.func89.trans (congrArg some (by kernel_rfl))⟩
  t0 := Try.underlying0
  a0 := Try.isAgg0
  z0 := Try.sizeOf0
  v0 := Try.zeroValue0
  t3 := Try.underlying3
  a3 := Try.isAgg3
  z3 := Try.sizeOf3
  v3 := Try.zeroValue3
  t4 := Try.underlying4
  a4 := Try.isAgg4
  z4 := Try.sizeOf4
  v4 := Try.zeroValue4
  t5 := Try.underlying5
  a5 := Try.isAgg5
  z5 := Try.sizeOf5
  v5 := Try.zeroValue5
  t9 := Try.underlying9
  a9 := Try.isAgg9
  z9 := Try.sizeOf9
  v9 := Try.zeroValue9
  t22 := Try.underlying23
  a22 := Try.isAgg23
  z22 := Try.sizeOf23
  v22 := Try.zeroValue23
  t25 := Try.underlying76
  a25 := Try.isAgg76
  z25 := Try.sizeOf76
  v25 := Try.zeroValue76
  t39 := Try.underlying110
  a39 := Try.isAgg110
  z39 := Try.sizeOf110
  v39 := Try.zeroValue110
  t45 := Try.underlying119
  a45 := Try.isAgg119
  z45 := Try.sizeOf119
  v45 := Try.zeroValue119
  t46 := Try.underlying120
  a46 := Try.isAgg120
  z46 := Try.sizeOf120
  v46 := Try.zeroValue120
  t50 := Try.underlying124
  a50 := Try.isAgg124
  z50 := Try.sizeOf124
  v50 := Try.zeroValue124
  t53 := Try.underlying127
  a53 := Try.isAgg127
  z53 := Try.sizeOf127
  v53 := Try.zeroValue127
  t55 := Try.underlying91
  a55 := Try.isAgg91
  z55 := Try.sizeOf91
  v55 := Try.zeroValue91
  t66 := Try.underlying129
  a66 := Try.isAgg129
  z66 := Try.sizeOf129
  v66 := Try.zeroValue129
  t70 := Try.underlying133
  a70 := Try.isAgg133
  z70 := Try.sizeOf133
  v70 := Try.zeroValue133
  t76 := Try.underlying136
  a76 := Try.isAgg136
  z76 := Try.sizeOf136
  v76 := Try.zeroValue136
  t77 := Try.underlying137
  a77 := Try.isAgg137
  z77 := Try.sizeOf137
  v77 := Try.zeroValue137 }
end Go.Proofs.Ytomjbabllcmodaa
namespace Go.Proofs.Ytomjbabllcmodaa
open Go Go.MapKept
set_option maxRecDepth 100000
def kA (x : Id32) : Value := .agg (x.1.map V8).toArray
theorem chkA_u8s (e : Bool) (l : List UInt8) (hl : l.length = 32) (w : World) (n : Nat) : (Instr.checkKey e (n + 2) 29 (.agg (l.map V8).toArray)).run Try.prog w = .ok () w := by
  obtain ⟨i, hi⟩ : ∃ i, Try.prog.info? 5 = some i := info_of_underlying (by kernel_rfl : Try.prog.underlying 5 = some (.int .u8))
  have hs : Try.prog.cellsOf 5 = 1 := by kernel_rfl
  rw [show n + 2 = (n + 1) + 1 from rfl, Instr.checkKey]
  simp only [Sem.run_bind, run_underlying (by kernel_rfl : Try.prog.underlying 29 = some (.array 32 5)), Result.andThen_ok]
  simp only [Std.Legacy.Range.forIn_eq_forIn_range', Std.Legacy.Range.size, Nat.sub_zero, Nat.add_one_sub_one, Nat.div_one]
  have each : ∀ j ∈ List.range' 0 32, j < 32 := by intro j hj; simpa using hj
  generalize List.range' 0 32 = is at each
  induction is with
  | nil => simp
  | cons j is ih =>
    have hj := each j (by simp)
    have p1 : (part 5 (l.map V8).toArray (j * Try.prog.cellsOf 5)).run Try.prog w = .ok (V8 (l.getD j 0)) w := by
      rw [hs, Nat.mul_one]
      exact part_cell (by kernel_rfl) (by rw [List.getElem?_toArray, Sl.get l j (by omega)])
    have p2 : (Instr.checkKey e (n + 1) 5 (V8 (l.getD j 0))).run Try.prog w = .ok () w := run_checkKey (d := .int .u8) (by kernel_rfl) (by simp [IsKey]) e n
    simp only [List.forIn_cons, Sem.run_bind, run_sizeOf w hi, Result.andThen_ok, p1, p2, Sem.run_pure]
    exact ih (fun y hy => each y (by simp [hy]))
theorem eqA (p q : Id32) (w : World) : (Op.equal 29 (kA p) (kA q)).run Try.prog w = .ok (decide (p = q)) w := by
  have h := eqI_u8s (P := Try.prog) (t := 29) (m := 32) (by kernel_rfl) (e := 5) (by kernel_rfl) (by kernel_rfl) 9998 p.1 q.1 p.2 q.2 (w := w)
  have e : decide (p.1 = q.1) = decide (p = q) := by
    rw [Bool.eq_iff_iff]
    simp only [decide_eq_true_eq]
    exact ⟨fun h => Subtype.ext h, fun h => by rw [h]⟩
  rw [← e]
  exact h
theorem sameA (p : Id32) : Instr.sameBits 10000 (kA p) (kA p) = true := by
  show Instr.sameBits (9999 + 1) (.agg _) (.agg _) = true
  simp only [Instr.sameBits, beq_self_eq_true, Bool.true_and, List.all_eq_true]
  intro x hx
  obtain ⟨i, hi, e⟩ := List.getElem_of_mem hx
  rw [List.getElem_zip] at e
  rw [← e]
  have hm := List.getElem_mem (l := p.1.map V8) (n := i) (by simpa using hi)
  simp only at hm ⊢
  generalize (p.1.map V8)[i]'(by simpa using hi) = v at hm
  obtain ⟨u, _, rfl⟩ := List.mem_map.1 hm; exact sameBits_self (d := .int .u8) (by simp [IsKey]) _
theorem keyA : KeyOf Try.prog 29 kA := KeyOf.ask (by kernel_rfl) (fun e p w => chkA_u8s e p.1 p.2 w 9998) eqA sameA
end Go.Proofs.Ytomjbabllcmodaa
namespace Go.Proofs.Ytomjbabllcmodaa
open Go
theorem Hp.slMid {w0 w : World} {S : List Nat} {L : List Ch} (H : Hp w0 w S L) {i b o k : Nat} {C A D : List Value} {l : List UInt8} {T : TypeId} (hi : L[i]? = some (.blk b C T)) (hc : Cut3 C A (l.map V8) D o k) (hm : k ≤ 9223372036854775807) : (⟨some ⟨b, o, none⟩, k, k, l⟩ : Sl).ok w := by
  have h := (Ch.rd_blk (H.has _ (List.mem_of_getElem? hi)) o).take k
  have e : (C.drop o).take k = l.map V8 := by rw [hc.e, ← hc.ha, List.drop_left, ← hc.hb, List.take_left]
  rw [e] at h
  exact ⟨h, by have := hc.hb; simpa using this, Nat.le_refl _, hm⟩
end Go.Proofs.Ytomjbabllcmodaa
namespace Go.Proofs.Ytomjbabllcmodaa
open Go
set_option maxRecDepth 100000
theorem run_load_cell {P : Program} {w : World} {a : Addr} {v : Value} (h : w.cell? a = some v) : (load a).run P w = .ok v w := by simp [load, Sem.run, h]
theorem run_loadBytes {P : Program} {w : World} {b : Nat} {C : Array Value} {T fr} (hb : w.heap[b]? = some (.cells C T fr)) : ∀ (l : List UInt8) (o : Nat) (acc : ByteArray), (∀ i v, (l.map V8)[i]? = some v → C[o + i]? = some v) →
    (Extern.Bytes.loadBytes ⟨b, o, none⟩ l.length acc).run P w = .ok ⟨(acc.data.toList ++ l).toArray⟩ w
  | [], o, acc, _ => by simp [Extern.Bytes.loadBytes]
  | c :: l, o, acc, h => by
    have h0 : C[o]? = some (V8 c) := by simpa using h 0 (V8 c) (by simp)
    have hc : w.cell? ⟨b, o, none⟩ = some (V8 c) := by simp [World.cell?, hb, h0]
    have ih := run_loadBytes (P := P) hb l (o + 1) (acc.push c) (fun i v hv => by
      have := h (i + 1) v (by simpa using hv)
      rw [show o + 1 + i = o + (i + 1) by omega]; exact this)
    rw [List.length_cons, Extern.Bytes.loadBytes]
    simp only [Sem.run_bind, run_load_cell hc, Result.andThen_ok, V8]
    have e1 : ((c.toNat : Int)).toNat.toUInt8 = c := by simp
    rw [e1]
    have e2 : (⟨b, o, none⟩ : Addr).add 1 = ⟨b, o + 1, none⟩ := rfl
    rw [e2, ih]
    simp [ByteArray.push]
theorem run_bytesOf {P : Program} {w : World} {s : Sl} (hs : s.ok w) : (Extern.Bytes.bytesOf s.v).run P w = .ok ⟨s.l.toArray⟩ w := by
  have hl := hs.ln
  rcases hs.rd with h | ⟨b, o, C, T, fr, ha, hb, hc⟩
  · have h0 : s.l = [] := by simpa using h
    rw [h0] at hl ⊢
    have hl0 : s.len = 0 := hl.symm
    unfold Sl.v
    rw [hl0]
    cases s.a with
    | none => simp [Extern.Bytes.bytesOf]; rfl
    | some a => simp [Extern.Bytes.bytesOf, Extern.Bytes.loadBytes]; rfl
  · unfold Sl.v
    rw [ha, ← hl]
    have := run_loadBytes (P := P) hb s.l o .empty hc
    simpa [Extern.Bytes.bytesOf] using this
theorem run_compare {P : Program} {w : World} {s u : Sl} (hs : s.ok w) (hu : u.ok w) : (Extern.BytealgCompare.compare #[s.v, u.v]).run P w = .ok (.int .i64 (Lib.compareBytes s.l u.l)) w := by
  change Sem.run P (do pure (goInt (Extern.BytealgCompare.cmp (← Extern.Bytes.bytesOf s.v) (← Extern.Bytes.bytesOf u.v)))) w = _
  simp only [Sem.run_bind, run_bytesOf hs, run_bytesOf hu, Result.andThen_ok, Sem.run_pure, Lib.cmp_eq]
  rfl
open Go.Proofs in
set_option maxHeartbeats 1000000 in
theorem bytesCompare_ret (w : World) (s u : Sl) (hs : s.ok w) (hu : u.ok w) : Ret Try.prog 35 [s.v, u.v] w fun v w' => v = VI (Lib.compareBytes s.l u.l) ∧ w' = w := by
  have hc := run_compare (P := Try.prog) hs hu
  unfold Sl.v at hc ⊢
  have h : Calls Try.prog 35 #[.slice s.a s.len s.cap, .slice u.a u.len u.cap] w fun e w' => e = .returned (VI (Lib.compareBytes s.l u.l)) ∧ w' = w := by
    go_enter Try.func35, Try.ntmps35
    go_wp2
    rw [run_callFunc_extern Try.func51 (by kernel_rfl) (by kernel_rfl) (by kernel_rfl) (e := Extern.BytealgCompare.compare) (by kernel_rfl), hc]
    simp only [Result.andThen]
    rw [Oper.upon_value]
    go_wp2
    go_ret
    exact ⟨rfl, rfl⟩
  exact Calls.mono h fun e w' ⟨he, hw⟩ => ⟨_, he, rfl, hw⟩
end Go.Proofs.Ytomjbabllcmodaa
namespace Go.Proofs.Ytomjbabllcmodaa
open Go
set_option maxRecDepth 100000
set_option linter.unusedSectionVars false
section
variable {α : Type} [Inhabited α] {enc : α → List Value} {k : Nat}
theorem flatK_get (hk : ∀ x, (enc x).length = k) (h0 : 0 < k) : ∀ (l : List α) (t : Nat), t < l.length * k → (l.flatMap enc)[t]? = (enc (l[t / k]!))[t % k]?
  | [], t, h => by simp at h
  | x :: l, t, h => by
    rw [List.flatMap_cons]
    by_cases ht : t < k
    · rw [List.getElem?_append_left (by rw [hk]; exact ht), Nat.div_eq_of_lt ht, Nat.mod_eq_of_lt ht]; rfl
    · have h2 : t - k < l.length * k := by rw [List.length_cons, Nat.add_mul, Nat.one_mul] at h; omega
      have e1 : t / k = (t - k) / k + 1 := Nat.div_eq_sub_div h0 (by omega)
      have e2 : t % k = (t - k) % k := Nat.mod_eq_sub_mod (by omega)
      rw [List.getElem?_append_right (by rw [hk]; omega), hk, flatK_get hk h0 l (t - k) h2, e1, e2]
      rfl
theorem flatK_len (hk : ∀ x, (enc x).length = k) : ∀ l : List α, (l.flatMap enc).length = l.length * k
  | [] => by simp
  | x :: l => by rw [List.flatMap_cons, List.length_append, hk, flatK_len hk l, List.length_cons, Nat.add_mul, Nat.one_mul, Nat.add_comm]
open Go.Sort in
theorem flatK_list (hk : ∀ x, (enc x).length = k) (h0 : 0 < k) (l : List α) : flatK enc k l.toArray = (l.flatMap enc).toArray := by
  refine ext_get! (by simp [flatK_len hk]) fun t ht => ?_
  have ht' : t < l.length * k := by simpa using ht
  rw [get_flatK enc k _ t (by simpa using ht')]
  have hl := flatK_get hk h0 l t ht'
  have hlt : t < (l.flatMap enc).length := by rw [flatK_len hk]; exact ht'
  rw [List.getElem?_eq_getElem hlt] at hl
  have e1 : (l.flatMap enc).toArray[t]! = (l.flatMap enc)[t] := by
    rw [getElem!_pos _ t (by simpa using hlt)]; simp
  rw [e1]
  have hm : t % k < (enc l[t / k]!).length := by rw [hk]; exact Nat.mod_lt _ h0
  rw [List.getElem?_eq_getElem hm] at hl
  have e2 : l.toArray[t / k]! = l[t / k]! := by simp
  rw [e2, getElem!_pos (enc l[t / k]!) (t % k) hm]
  exact (Option.some.inj hl).symm
open Go.Sort in
theorem putCells_id (d xs rest : List Value) (h : d.length = xs.length) : putCells id 0 d.toArray (xs ++ rest).toArray = (d ++ rest).toArray := by
  apply Array.ext_getElem?
  intro k
  simp only [putCells, Array.getElem?_mapIdx, List.getElem?_toArray, Nat.zero_add, Nat.sub_zero, Nat.zero_le, true_and, List.size_toArray, id]
  by_cases hk : k < d.length
  · rw [List.getElem?_append_left (by omega), List.getElem?_append_left (by simpa using hk), List.getElem?_eq_getElem (by omega), List.getElem?_eq_getElem hk]
    simp [hk]
  · rw [List.getElem?_append_right (by omega), List.getElem?_append_right (by simpa using hk), h]
    have hk2 : ¬ k < xs.length := by omega
    cases rest[k - xs.length]? <;> simp [hk2]
open Go.Sort in
theorem hp_putRowK {w0 w : World} {S : List Nat} {L : List Ch} {i b n c m : Nat} {l d : List α} {T : TypeId} {os : Array Obj} (hk : ∀ x, (enc x).length = k) (h0 : 0 < k) (H : Hp w0 w S L) (hi : L[i]? = some (.own (some b) n c (l.flatMap enc) T k)) (hd : d.length = l.length) :
    Hp w0 (sortWorldK enc k w b 0 m d.toArray os) S (L.set i (.own (some b) n c (d.flatMap enc) T k)) := by
  obtain ⟨q1, q2, q3, rest, hw, q5⟩ := H.has _ (List.mem_of_getElem? hi)
  have hlt : b < w.heap.size := (Array.getElem?_eq_some_iff.1 hw).1
  have hdl : (d.flatMap enc).length = (l.flatMap enc).length := by rw [flatK_len hk, flatK_len hk, hd]
  have e0 : sortWorldK enc k w b 0 m d.toArray os = grow (putRow id (Sort.ahead w m) b 0 (d.flatMap enc).toArray) os := by
    unfold sortWorldK putRowK; rw [flatK_list hk h0]
  rw [e0]
  have hsz : (putRow id (Sort.ahead w m) b 0 (d.flatMap enc).toArray).heap.size = w.heap.size := by rw [size_putRow]; rfl
  have hold : ∀ k, k < w.heap.size → (grow (putRow id (Sort.ahead w m) b 0 (d.flatMap enc).toArray) os).heap[k]? = (w.heap.modify b (onCells (putCells id 0 (d.flatMap enc).toArray)))[k]? := fun k hk => by
    show ((putRow id (Sort.ahead w m) b 0 (d.flatMap enc).toArray).heap ++ os)[k]? = _
    rw [Array.getElem?_append_left (by rw [hsz]; exact hk)]; rfl
  refine H.turn hi (c' := .own (some b) n c (d.flatMap enc) T k) ⟨by rw [hdl]; exact q1, q2, q3, rest, ?_, by rw [List.length_append, hdl, ← List.length_append]; exact q5⟩ (fun b' hb' => .inl hb') rfl rfl rfl (by show w.heap.size ≤ ((putRow id (Sort.ahead w m) b 0 (d.flatMap enc).toArray).heap ++ os).size; rw [Array.size_append, hsz]; omega) fun b' hlt' hne => ?_
  · rw [hold b hlt, Array.getElem?_modify, if_pos rfl, hw]
    simp only [Option.map_some, onCells, putCells_id _ _ rest hdl]
  · rw [hold b' hlt', Array.getElem?_modify, if_neg (fun e => hne (by rw [← e]; rfl))]
open Go.Sort in
theorem holdsK_own {w : World} {b n c : Nat} {l : List α} {T : TypeId} (hk : ∀ x, (enc x).length = k) (h0 : 0 < k) (h : (Ch.own (some b) n c (l.flatMap enc) T k).ok w) : HoldsK enc k w b 0 l.toArray := by
  obtain ⟨q1, q2, q3, rest, hw, q5⟩ := h
  unfold HoldsK
  rw [flatK_list hk h0]
  intro j hj
  have hj' : j < (l.flatMap enc).length := by simpa using hj
  refine ⟨?_, ?_⟩
  · simp only [World.cell?, hw, Nat.zero_add, List.getElem?_toArray]
    rw [List.getElem?_append_left hj', List.getElem?_eq_getElem hj']
    rw [getElem!_pos _ j hj]; simp
  · simp [World.frozen?, hw]
/-- a list, sorted by what tells less. -/
def sortK (cf : α → α → Int) (l : List α) : List α := l.mergeSort fun x y => !(decide (cf y x < 0))
open Go.Sort Go.Shelf in
theorem sortK_ret {ρ : Ren} (Ly : SlLaysF0.n6 Try.prog ρ) (aE : ∀ w, (isAgg (ρ.t 24)).run Try.prog w = .ok true w) (zE : ∀ w, (Go.sizeOf (ρ.t 24)).run Try.prog w = .ok k w) (hk : ∀ x, (enc x).length = k) (h0 : 0 < k) (h1 : ∀ x, ∀ v ∈ enc x, v.oneCell' = true) (cf : α → α → Int) (hO : SWO (ltOf cf)) (hT : ∀ x y, ltOf cf x y = false → ltOf cf y x = false → x = y)
    {g : FuncId} {fn : Func} (hf : Try.prog.funcs[g]? = some fn) (hb : fn.body.isSome = true) (hname : (fn.name == "runtime.NumGoroutine") = false)
    (hcmp : ∀ (W : World) (x y : α), Calls Try.prog g #[.agg (enc x).toArray, .agg (enc y).toArray] W fun e w' => e = .returned (VI (cf x y)) ∧ ∃ q os', w' = grow (W.drewN q) os')
    {w0 w : World} {S : List Nat} {L : List Ch} {i n c : Nat} {a : Option Nat} {l : List α} {T : TypeId} (H : Hp w0 w S L) (hi : L[i]? = some (.own a n c (l.flatMap enc) T k)) (hn : l.length = n) (hbd : n ≤ 1099511627776) :
    Ret Try.prog (ρ.f 6) [.slice (hd a) n c, .func (.func g) #[] #[]] w fun v w' => v = .tuple #[] ∧ Hp w0 w' S (L.set i (.own a n c ((sortK cf l).flatMap enc) T k)) := by
  subst hn
  have eg : ∀ args w, (callFunc g args).run Try.prog w = .ok (.enter g args) w := fun args w => by
    have hn' : fn.body ≠ none := by cases hh : fn.body <;> simp_all
    have hnm : fn.name ≠ "runtime.NumGoroutine" := by intro e; simp [e] at hname
    simp [callFunc, hf, hnm, hn']
  cases a with
  | none =>
    obtain ⟨h1', h2, h3⟩ := (H.has _ (List.mem_of_getElem? hi) : (Ch.own none l.length c (l.flatMap enc) T k).ok w)
    have hl : l = [] := List.eq_nil_of_length_eq_zero h1'
    subst hl
    have h := AnyF.slices_SortFunc_none (P := Try.prog) (ρ := ρ) Ly none c (.func (.func g) #[] #[]) w
    refine Calls.mono h fun e w' ⟨he, hw'⟩ => ⟨_, he, rfl, ?_⟩
    have e1 : sortK cf ([] : List α) = [] := by simp [sortK]
    rw [hw', e1]
    have e2 : L.set i (.own none ([] : List α).length c (([] : List α).flatMap enc) T k) = L := by
      apply List.ext_getElem?
      intro j
      rw [List.getElem?_set]
      by_cases e : i = j
      · subst e
        have := (List.getElem?_eq_some_iff.1 hi).1
        rw [if_pos rfl, if_pos this, hi]
      · rw [if_neg e]
    rw [e2]; exact H
  | some b =>
    have hc := H.has _ (List.mem_of_getElem? hi)
    have hlt : b < w.heap.size := Ch.lt hc rfl
    have h := AnyQ.slices_SortFunc_total Ly k aE zE enc hk h1 cf hO g #[] b 0 c l.toArray w eg (fun m os dk _ x y => hcmp _ x y) (holdsK_own hk h0 hc) hlt (by simp; omega) hT
    simp only [List.size_toArray] at h
    refine Calls.mono h fun e w' ⟨he, m, os, hw'⟩ => ⟨_, he, rfl, ?_⟩
    rw [hw']
    exact hp_putRowK (m := m) (os := os) (d := sortK cf l) hk h0 H hi (by rw [sortK, List.length_mergeSort])
end
end Go.Proofs.Ytomjbabllcmodaa
namespace Go.Proofs.Ytomjbabllcmodaa
open Go
set_option maxRecDepth 100000
def idE (x : Id32) : List Value := x.1.map V8
theorem idE_len (x : Id32) : (idE x).length = 32 := by rw [idE, List.length_map, x.2]
theorem idE_all (x : Id32) : (idE x).all (·.oneCell') = true := by
  rw [idE, List.all_eq_true]; intro v hv; obtain ⟨c, _, rfl⟩ := List.mem_map.1 hv; rfl
theorem cmpB_lt : ∀ a b : List UInt8, Lib.compareBytes a b < 0 ↔ a < b
  | [], [] => by simp [Lib.compareBytes]
  | [], _ :: _ => by simp [Lib.compareBytes]
  | _ :: _, [] => by simp [Lib.compareBytes]
  | a :: xs, b :: ys => by
    rw [Lib.compareBytes, List.cons_lt_cons_iff]
    by_cases h1 : a < b
    · simp [h1]
    · by_cases h2 : b < a
      · have : a ≠ b := fun e => by subst e; exact h1 h2
        simp [h1, h2, this]
      · have e : a = b := UInt8.toNat_inj.1 (by
          have g1 : ¬ a.toNat < b.toNat := fun h => h1 (UInt8.lt_iff_toNat_lt.2 h)
          have g2 : ¬ b.toNat < a.toNat := fun h => h2 (UInt8.lt_iff_toNat_lt.2 h)
          omega)
        subst e
        simp [h1, cmpB_lt xs ys]
instance : Inhabited Id32 := ⟨⟨List.replicate 32 0, by simp⟩⟩
def cmpA (x y : Id32) : Int := Lib.compareBytes x.1 y.1
open Go.Sort in
theorem ltA (x y : Id32) : ltOf cmpA x y = decide (x.1 < y.1) := by
  rw [ltOf, Bool.eq_iff_iff, decide_eq_true_eq, decide_eq_true_eq]; exact cmpB_lt _ _
theorem lt_irr (a : List UInt8) : ¬ a < a := List.lt_irrefl a
theorem lt_tot {a b : List UInt8} (h1 : ¬ a < b) (h2 : ¬ b < a) : a = b := List.le_antisymm (List.not_lt.1 h2) (List.not_lt.1 h1)
theorem lt_tr {a b c : List UInt8} (h1 : a < b) (h2 : b < c) : a < c := List.lt_trans h1 h2
open Go.Sort in
theorem swoA : SWO (ltOf cmpA) where
  irrefl x := by rw [ltA]; exact decide_eq_false (lt_irr _)
  trans x y z h1 h2 := by rw [ltA, decide_eq_true_eq] at *; exact lt_tr h1 h2
  ntrans x y z h1 h2 := by
    rw [ltA, decide_eq_false_iff_not] at *
    exact List.not_lt.2 (List.le_trans (List.not_lt.1 h2) (List.not_lt.1 h1))
theorem totA (x y : Id32) (h1 : ltOf cmpA x y = false) (h2 : ltOf cmpA y x = false) : x = y := by
  rw [ltA, decide_eq_false_iff_not] at *
  exact Subtype.ext (lt_tot h1 h2)
/-- names, in order. -/
def sortA (l : List Id32) : List Id32 := sortK cmpA l
section
variable {P : Program} {Q : Exit → Act → World → Prop} {n : Nat} {σ : Nat → Value} {w : World} {K : Act → World → Prop}
  {ty : TypeId} {pos : String} {aft : Array Edge} {g : Option (Nat × Bool)} {d : Nat} {t : TypeId} {x : Operand}
theorem o_boxE {v : Value} (hx : ev n σ x = v) (h : K (mk n (up σ d (.pointer (some ⟨w.heap.size, 0, none⟩)))) (w.alloc (.cells v.cells t))) : Oper.wp P ⟨some d, .box t x, ty, pos, aft, g⟩ (mk n σ) w K Q := by
  refine o_val (v := .pointer (some ⟨w.heap.size, 0, none⟩)) (w' := w.alloc (.cells v.cells t)) ?_ h
  simp [execOp, Instr.box, hx, newVar, newRow]
end
theorem id_slok {w : World} {b : Nat} {x : Id32} {T fr} (h : w.heap[b]? = some (.cells (idE x).toArray T fr)) : (⟨some ⟨b, 0, none⟩, 32, 32, x.1⟩ : Sl).ok w :=
  ⟨.inr ⟨b, 0, _, T, fr, rfl, h, fun i v hv => by rw [Nat.zero_add, List.getElem?_toArray]; exact hv⟩, x.2, Nat.le_refl _, (by decide : (32 : Nat) ≤ 9223372036854775807)⟩
theorem idCmpWlk (x y : Id32) (W : World) : Calls Try.prog 34 #[.agg (idE x).toArray, .agg (idE y).toArray] W fun e w' => e = .returned (VI (cmpA x y)) ∧ ∃ q os', w' = Go.Sort.grow (W.drewN q) os' := by
  refine calls_mk (args := [kA x, kA y]) Try.func34 rfl Try.ntmps34 (by simp) ?_
  refine c_seq ?_; refine c_region ?_; refine l_op (o_boxE (v := kA x) rfl ?_); refine l_op (o_boxE (v := kA y) rfl ?_); refine l_op (o_val r_as ?_); refine l_end ?_; refine c_seq ?_; refine c_still mixed (by kernel_rfl) ?_; refine s_op (r_slA (h := 32) (m := 32) (lv := none) (hv := none) (mv := none) rfl ar29 rfl rfl rfl (fun w => sbn w)) ?_; refine s_op (r_slA (h := 32) (m := 32) (lv := none) (hv := none) (mv := none) rfl ar29 rfl rfl rfl (fun w => sbn w)) ?_; have hs : ((W.alloc (.cells (kA x).cells 29)).alloc (.cells (kA y).cells 29)).drew.heap[W.heap.size]? = some (.cells (idE x).toArray 29 (0, 0)) := by
    have h1 := heap_alloc_old' (W.alloc (.cells (kA x).cells 29)) (.cells (kA y).cells 29) W.heap.size (by simp)
    exact h1.trans (heap_alloc_new' W _)
  have hu : ((W.alloc (.cells (kA x).cells 29)).alloc (.cells (kA y).cells 29)).drew.heap[(W.alloc (.cells (kA x).cells 29)).heap.size]? = some (.cells (idE y).toArray 29 (0, 0)) := heap_alloc_new' _ _
  refine s_call (v := VI (cmpA x y)) Try.func35 rfl rfl rfl (bytesCompare_ret _ ⟨some ⟨W.heap.size, 0, none⟩, 32, 32, x.1⟩ ⟨some ⟨(W.alloc (.cells (kA x).cells 29)).heap.size, 0, none⟩, 32, 32, y.1⟩ (id_slok hs) (id_slok hu)) ?_
  refine s_op (r_as) ?_; refine s_nil ?_; refine c_ret ?_; refine e_ret1 (v := VI (cmpA x y)) Try.results34 rfl ?_
  refine ⟨rfl, 1, #[.cells (kA x).cells 29, .cells (kA y).cells 29], ?_⟩
  rw [Go.Sort.alloc_eq_grow, Go.Sort.alloc_eq_grow, Go.Sort.grow_grow]
  rfl
theorem sortAWlk {w0 w : World} {S : List Nat} {L : List Ch} {i n c : Nat} {a : Option Nat} {l : List Id32} (H : Hp w0 w S L) (hi : L[i]? = some (.own a n c (l.flatMap idE) 29 32)) (hn : l.length = n) (hb : n ≤ 1099511627776) :
    Ret Try.prog 39 [.slice (hd a) n c, .func (.func 34) #[] #[]] w fun v w' => v = .tuple #[] ∧ Hp w0 w' S (L.set i (.own a n c ((sortA l).flatMap idE) 29 32)) :=
  sortK_ret Try.sortA Try.isAgg29 Try.sizeOf29 idE_len (by decide) (fun x v hv => List.all_eq_true.1 (idE_all x) v hv) cmpA swoA totA Try.func34 rfl rfl (fun W x y => idCmpWlk x y W) H hi hn hb
end Go.Proofs.Ytomjbabllcmodaa
namespace Go.Proofs.Ytomjbabllcmodaa
open Go
section
variable {P : Program} {ops : Array Oper} {Q : Exit → Act → World → Prop} {n l : Nat} {K : Act → World → Prop}
theorem rowsIn_round {row : String} {args : Array Value} {w : World} {R : Value → World → Prop} (h : Rows P row args w R) : RowsIn (Fence.wide.inRound l) n P row args w R :=
  fun c cs _ => let ⟨v, w', r, s⟩ := h c cs; ⟨v, w', r, stepsIn_wide.2 s⟩
theorem callsIn_round {f : FuncId} {args : Array Value} {w : World} {R : Ending → World → Prop} (h : Calls P f args w R) : CallsIn (Fence.wide.inRound l) n P f args w R := CallsIn.inRound l (callsIn_wide.2 h)
theorem uponIn_round {o : Oper} {a : Act} {r : Result Next} (h : o.upon P a K Q r) : o.uponIn (Fence.wide.inRound l) n P a K Q r := by
  cases r with
  | ok x w' =>
    cases x <;> simp only [Oper.upon, Oper.uponIn] at h ⊢ <;>
      first
        | exact h
        | exact ⟨fun h => (by cases h), callsIn_round h⟩
        | exact ⟨fun h => (by cases h), rowsIn_round h⟩
        | exact h.elim
  | halt x w' => cases x <;> simp only [Oper.upon, Oper.uponIn] at h ⊢ <;> exact h
/-- an operation is no 'defer'. -/
def Oper.plain (o : Oper) : Bool := match o.op with | .defer _ => false | _ => true
theorem semAt_plain {o : Oper} (h : Oper.plain o = true) (ρ : Operand → Value) : Oper.semAt (some l) ρ o = execOp ρ o := by
  unfold Oper.semAt
  unfold Oper.plain at h
  split
  · rename_i heq; rw [heq] at h; cases h
  · rfl
theorem wpIn_round {o : Oper} {a : Act} {w : World} (hp : Oper.plain o = true) (h : o.wp P a w K Q) : o.wpIn (Fence.wide.inRound l) n P a w K Q := by
  refine ⟨fun _ _ => trivial, ?_⟩
  rw [show (Fence.wide.inRound l).round = some l from rfl, semAt_plain hp]
  exact uponIn_round h
theorem wpList_round {L : Array Oper} (hp : ∀ o ∈ L, Oper.plain o = true) (hQ : ¬ LetsOut Q) : ∀ (is : List Oper) (a : Act) (w : World), (∀ o ∈ is, o ∈ L) → wpList P L Q is a w → wpListIn (Fence.wide.inRound l) n P L Q is a w
  | [], a, w, _, h => h
  | o :: is, a, w, hs, h => by
    unfold wpList at h
    unfold wpListIn
    by_cases hw : Region.wanted o (yielded L a.tmps) = true
    · rw [if_pos hw] at h ⊢
      rcases h with h | h
      · exact wpIn_round (hp o (hs o (List.mem_cons_self ..))) (Oper.wp_mono (fun a w h => wpList_round hp hQ is a w (fun o ho => hs o (List.mem_cons_of_mem _ ho)) h) h)
      · exact absurd h.2 hQ
    · rw [if_neg hw] at h ⊢
      exact ⟨fun _ _ => trivial, wpList_round hp hQ is _ w (fun o ho => hs o (List.mem_cons_of_mem _ ho)) h⟩
def plainAll (L : List Oper) : Bool := L.all Oper.plain
/-- a region that does not draw, in a round. -/
theorem i_region {id : Nat} {L : List Oper} {a : Act} {w : World} (hp : plainAll L = true) (hQ : ¬ LetsOut Q) (h : wpList P L.toArray Q L a w) : (Code.region id L.toArray false).wpIn (Fence.wide.inRound l) n P Q a w :=
  wpIn_region_lit (wpList_round (fun o ho => List.all_eq_true.1 hp o (by simpa using ho)) hQ L a w (fun o ho => by simpa using ho) h)
end
end Go.Proofs.Ytomjbabllcmodaa
namespace Go.Proofs.Ytomjbabllcmodaa
open Go
section
variable {P : Program} {ops : Array Oper} {Q : Exit → Act → World → Prop} {n l m : Nat} {K : Act → World → Prop} {σ : Nat → Value} {w : World}
  {ty : TypeId} {pos : String} {aft : Array Edge} {g : Option (Nat × Bool)} {d : Nat} {rest : List Oper}
theorem uponIn_wide {o : Oper} {a : Act} {r : Result Next} (h : o.upon P a K Q r) : o.uponIn Fence.wide m P a K Q r := by
  cases r with
  | ok x w' =>
    cases x <;> simp only [Oper.upon, Oper.uponIn] at h ⊢ <;>
      first
        | exact h
        | exact ⟨fun h => (by cases h), callsIn_wide.2 h⟩
        | exact ⟨fun h => (by cases h), fun c cs _ => let ⟨v, w', r, s⟩ := h c cs; ⟨v, w', r, stepsIn_wide.2 s⟩⟩
        | exact h.elim
  | halt x w' => cases x <;> simp only [Oper.upon, Oper.uponIn] at h ⊢ <;> exact h
/-- an operation of a list in which 'yield' is called. -/
theorem y_op {op : Op} {dst : Option Tmp} {a : Act} (h : Oper.wp P ⟨dst, op, ty, pos, aft, none⟩ a w (wpListIn Fence.wide m P ops Q rest) Q) : wpListIn Fence.wide m P ops Q (⟨dst, op, ty, pos, aft, none⟩ :: rest) a w := by
  unfold wpListIn
  rw [if_pos (by simp [Region.wanted])]
  exact ⟨fun _ _ => trivial, uponIn_wide h⟩
theorem y_end {y : Code} {a : Act} (h : y.wp P Q a w) : wpListIn Fence.wide m P ops (Exit.then (y.wp P Q) Q) [] a w := h
/-- 'yield' is called. -/
theorem y_yield {x y : Operand} {ats : Array TypeId} {v : Value} {b : Bool} {R : World → Prop} (hx : ev n σ x = .func (.yield l) #[] #[]) (hnf : ∀ f, x ≠ .func f) (hy : ev n σ y = v)
    (hY : YieldAt Fence.wide (m - 1) P l #[v] w fun e W' => e = .returned (.bool b) ∧ R W')
    (h : ∀ W', R W' → wpListIn Fence.wide m P ops Q rest (mk n (up σ d (.bool b))) W') :
    wpListIn Fence.wide m P ops Q (⟨some d, .call ⟨.value x, #[y], ats⟩, ty, pos, aft, none⟩ :: rest) (mk n σ) w := by
  obtain ⟨fn, tmps, assign, body, hrun, hR⟩ := hY
  unfold wpListIn
  rw [if_pos (by simp [Region.wanted])]
  refine ⟨fun _ _ => trivial, ?_⟩
  have e : (execOp (mk n σ).eval ⟨some d, .call ⟨.value x, #[y], ats⟩, ty, pos, aft, none⟩).run P w = .ok (.round l fn tmps assign body) w := by
    rw [mk_evalf]
    cases x with
    | func f => exact absurd rfl (hnf f)
    | _ => simp [execOp, resolve, hx, hy, Deferred.ofValue, invoke, hrun]
  rw [show Fence.wide.round = none from rfl, Oper.semAt_none, e, Oper.uponIn_round]
  refine ⟨fun h => (by cases h), hR.mono fun e W' he => ?_⟩
  obtain ⟨he, hr⟩ := he
  subst he
  show wpListIn Fence.wide m P ops Q rest ((mk n σ).put (some d) (.bool b)) W'
  rw [mk_put]
  exact h W' hr
end
end Go.Proofs.Ytomjbabllcmodaa
namespace Go.Proofs.Ytomjbabllcmodaa
open Go
set_option maxRecDepth 100000
theorem keysItObj {ι α : Type} {w0 w1 : World} {S : List Nat} {bb b l c : Nat} {enc : α → Value} {M : List (Id32 × Value × Nat)} {F : Id32 → Option α} (hM : MOk M c) (hF : MIs enc M F) (Lv : ι → List Ch) (I : List Id32 → ι → Prop) (x0 : ι) (h0 : I [] x0) (H0 : Hp w0 w1 S (Ch.blk bb ([.map (some b)]) 58 :: Ch.obj b (mobj kA M c) :: Lv x0)) (hY : ∀ (it : Nat) (vis : List Id32) (x : ι) (k : Id32) (a : α) (W : World), I vis x → F k = some a → k ∉ vis → (∀ j ∈ vis, (F j).isSome = true) → vis.Nodup → Hp w0 W S (Ch.obj it (itO b M c (vis ++ [k])) :: Ch.blk bb ([.map (some b)]) 58 :: Ch.obj b (mobj kA M c) :: Lv x) → YieldAt Fence.wide 0 Try.prog l #[kA k] W fun e W' => e = .returned (.bool true) ∧ ∃ x', I (vis ++ [k]) x' ∧ Hp w0 W' S (Ch.obj it (itO b M c (vis ++ [k])) :: Ch.blk bb ([.map (some b)]) 58 :: Ch.obj b (mobj kA M c) :: Lv x')) :
    Ret Try.prog 57 [.func (.yield l) #[] #[], .pointer (some ⟨bb, 0, none⟩)] w1 fun v w' => ∃ vis x, I vis x ∧ vis.Nodup ∧ (∀ k, k ∈ vis ↔ (F k).isSome = true) ∧ Hp w0 w' S (Ch.blk bb ([.map (some b)]) 58 :: Ch.obj b (mobj kA M c) :: Lv x) := by
  refine ret_mk Try.func57 rfl Try.ntmps57 (by simp) ?_
  have H := H0
  repeat refine c_seq ?_
  refine c_region ?_; refine l_op (o_val (r_ld H (i := 0) rfl rfl ct58 rfl) ?_); refine l_op (o_range (kv := kA) H (i := 1) rfl Try.underlying58 rfl (fun b1 w H hb1 => ?_)); replace H := H.rot
  replace H : Hp _ w _ (Ch.obj b1 (itO b M c ([])) :: Ch.blk bb ([.map (some b)]) 58 :: Ch.obj b (mobj kA M c) :: Lv x0) := H
  first | refine l_end ?_ | refine l_nil ?_
  repeat refine c_seq ?_
  refine c_block ?_; repeat refine c_seq ?_
  refine c_loop2 (fun (vis : List Id32) (x : ι) => [(0, .func (.yield l) #[] #[]), (5, .pointer (some ⟨b1, 0, none⟩))])
    (fun (vis : List Id32) (x : ι) w => (vis.Nodup ∧ (∀ k ∈ vis, (F k).isSome = true) ∧ I vis x) ∧ Hp w0 w S (Ch.obj b1 (itO b M c vis) :: Ch.blk bb ([.map (some b)]) 58 :: Ch.obj b (mobj kA M c) :: Lv x))
    (fun (vis : List Id32) (x : ι) => M.length - vis.length) ([]) x0 ⟨rfl, rfl, trivial⟩ ⟨⟨List.nodup_nil, fun _ h => (by cases h), h0⟩, H⟩ ?_
  clear H
  rintro vis x τ w ⟨⟨hvn, hv, hI⟩, H⟩
  repeat refine c_seq ?_
  refine c_region ?_; refine l_op (o_next (kv := kA) (enc := enc) H (i := 2) (j := 0) rfl rfl hM hF hv rfl (fun hall2 w H => ?_) (fun kk3 va4 hkf5 hkn6 w H => ?_))
  ·
   refine l_op (o_val (r_ext rfl rfl) ?_); first | refine l_end ?_ | refine l_nil ?_
   repeat refine c_seq ?_
   refine c_no rfl ?_; refine c_exit ?_; try simp only [Exit.then, Exit.inBlock, ↓reduceIte]
   refine e_norm ?_; refine e_ret0 Try.results57 ?_
   refine ⟨_, rfl, ?_⟩
   exact ⟨vis, x, hI, hvn, fun k => ⟨hv k, hall2 k⟩, H.sub (.cons _ (.cons_cons _ (.cons_cons _ (List.Sublist.refl _))))⟩
  ·
   replace H : Hp _ w _ (Ch.obj b1 (itO b M c (vis ++ [kk3])) :: Ch.blk bb ([.map (some b)]) 58 :: Ch.obj b (mobj kA M c) :: Lv x) := H
   refine l_op (o_val (r_ext rfl rfl) ?_); first | refine l_end ?_ | refine l_nil ?_
   repeat refine c_seq ?_
   refine c_yes rfl ?_; refine c_skip ?_; repeat refine c_seq ?_
   refine c_block ?_; repeat refine c_seq ?_
   refine c_region ?_; refine l_op (o_val (r_entry (kv := kA) (enc := enc) H (i := 2) (j := 0) rfl rfl hM hF hkf5 rfl) ?_); refine l_op (o_val (r_ext rfl rfl) ?_); refine l_op (o_alloc H zc29 (fun b7 w H hb7 => ?_)); replace H := H.rot
   replace H : Hp _ w _ (Ch.blk b7 ((List.replicate 32 (0 : UInt8)).map V8) 29 :: Ch.obj b1 (itO b M c (vis ++ [kk3])) :: Ch.blk bb ([.map (some b)]) 58 :: Ch.obj b (mobj kA M c) :: Lv x) := H
   refine l_op (o_stA (l' := kk3.1) H (i := 0) rfl rfl rfl cs29 (show (List.replicate 32 (0 : UInt8)).length = 32 from (List.length_replicate ..)) (show (kk3.1).length = 32 from kk3.2) (fun w H => ?_)); replace H : Hp _ w _ (Ch.blk b7 ((kk3.1).map V8) 29 :: Ch.obj b1 (itO b M c (vis ++ [kk3])) :: Ch.blk bb ([.map (some b)]) 58 :: Ch.obj b (mobj kA M c) :: Lv x) := H
   first | refine l_end ?_ | refine l_nil ?_
   repeat refine c_seq ?_
   have hvs := vis_snoc hvn hv hkf5 hkn6
   have hvl := vis_le hF hvs.1 hvs.2
   rw [List.length_append, List.length_singleton] at hvl
   refine (wpIn_wide (n := 1)).1 ?_; refine wpIn_region_lit ?_; refine y_op (o_val r_mv ?_); refine y_op (o_val (r_ldAA (l := kk3.1) H (i := 0) rfl rfl rt29 (show (kk3.1).length = 32 from kk3.2)) ?_); have H1 := H.sub (.cons _ (.cons_cons _ (.cons_cons _ (.cons_cons _ (List.Sublist.refl _)))))
   have hy := hY _ vis x kk3 va4 _ hI hkf5 hkn6 hv hvn H1
   refine y_yield (v := kA kk3) (b := true) rfl (fun f e => by cases e) rfl hy ?_; rintro w ⟨x', hI', H2⟩
   clear H H1 hy; have H := H2; clear H2
   refine y_op (o_val (r_not rfl) ?_); refine y_end ?_; repeat refine c_seq ?_
   refine c_no rfl ?_; refine c_skip ?_; refine round_end (vis ++ [kk3], x') ?_ ?_ ?_
   · exact ⟨rfl, rfl, trivial⟩
   · refine ⟨?_, ?_⟩
     · try dsimp only
       exact ⟨hvs.1, hvs.2, hI'⟩
     · exact H
   · show M.length - (vis ++ [kk3]).length < M.length - vis.length; rw [List.length_append, List.length_singleton]; omega
theorem keysItInt {ι α : Type} {w0 w1 : World} {S : List Nat} {bb b l c : Nat} {enc : α → Value} {M : List (Id32 × Value × Nat)} {F : Id32 → Option α} (hM : MOk M c) (hF : MIs enc M F) (Lv : ι → List Ch) (I : List Id32 → ι → Prop) (x0 : ι) (h0 : I [] x0) (H0 : Hp w0 w1 S (Ch.blk bb ([.map (some b)]) 68 :: Ch.obj b (mobj kA M c) :: Lv x0)) (hY : ∀ (it : Nat) (vis : List Id32) (x : ι) (k : Id32) (a : α) (W : World), I vis x → F k = some a → k ∉ vis → (∀ j ∈ vis, (F j).isSome = true) → vis.Nodup → Hp w0 W S (Ch.obj it (itO b M c (vis ++ [k])) :: Ch.blk bb ([.map (some b)]) 68 :: Ch.obj b (mobj kA M c) :: Lv x) → YieldAt Fence.wide 0 Try.prog l #[kA k] W fun e W' => e = .returned (.bool true) ∧ ∃ x', I (vis ++ [k]) x' ∧ Hp w0 W' S (Ch.obj it (itO b M c (vis ++ [k])) :: Ch.blk bb ([.map (some b)]) 68 :: Ch.obj b (mobj kA M c) :: Lv x')) :
    Ret Try.prog 50 [.func (.yield l) #[] #[], .pointer (some ⟨bb, 0, none⟩)] w1 fun v w' => ∃ vis x, I vis x ∧ vis.Nodup ∧ (∀ k, k ∈ vis ↔ (F k).isSome = true) ∧ Hp w0 w' S (Ch.blk bb ([.map (some b)]) 68 :: Ch.obj b (mobj kA M c) :: Lv x) := by
  refine ret_mk Try.func50 rfl Try.ntmps50 (by simp) ?_
  have H := H0
  repeat refine c_seq ?_
  refine c_region ?_; refine l_op (o_val (r_ld H (i := 0) rfl rfl ct68 rfl) ?_); refine l_op (o_range (kv := kA) H (i := 1) rfl Try.underlying68 rfl (fun b1 w H hb1 => ?_)); replace H := H.rot
  replace H : Hp _ w _ (Ch.obj b1 (itO b M c ([])) :: Ch.blk bb ([.map (some b)]) 68 :: Ch.obj b (mobj kA M c) :: Lv x0) := H
  first | refine l_end ?_ | refine l_nil ?_
  repeat refine c_seq ?_
  refine c_block ?_; repeat refine c_seq ?_
  refine c_loop2 (fun (vis : List Id32) (x : ι) => [(0, .func (.yield l) #[] #[]), (5, .pointer (some ⟨b1, 0, none⟩))])
    (fun (vis : List Id32) (x : ι) w => (vis.Nodup ∧ (∀ k ∈ vis, (F k).isSome = true) ∧ I vis x) ∧ Hp w0 w S (Ch.obj b1 (itO b M c vis) :: Ch.blk bb ([.map (some b)]) 68 :: Ch.obj b (mobj kA M c) :: Lv x))
    (fun (vis : List Id32) (x : ι) => M.length - vis.length) ([]) x0 ⟨rfl, rfl, trivial⟩ ⟨⟨List.nodup_nil, fun _ h => (by cases h), h0⟩, H⟩ ?_
  clear H
  rintro vis x τ w ⟨⟨hvn, hv, hI⟩, H⟩
  repeat refine c_seq ?_
  refine c_region ?_; refine l_op (o_next (kv := kA) (enc := enc) H (i := 2) (j := 0) rfl rfl hM hF hv rfl (fun hall2 w H => ?_) (fun kk3 va4 hkf5 hkn6 w H => ?_))
  ·
   refine l_op (o_val (r_ext rfl rfl) ?_); first | refine l_end ?_ | refine l_nil ?_
   repeat refine c_seq ?_
   refine c_no rfl ?_; refine c_exit ?_; try simp only [Exit.then, Exit.inBlock, ↓reduceIte]
   refine e_norm ?_; refine e_ret0 Try.results50 ?_
   refine ⟨_, rfl, ?_⟩
   exact ⟨vis, x, hI, hvn, fun k => ⟨hv k, hall2 k⟩, H.sub (.cons _ (.cons_cons _ (.cons_cons _ (List.Sublist.refl _))))⟩
  ·
   replace H : Hp _ w _ (Ch.obj b1 (itO b M c (vis ++ [kk3])) :: Ch.blk bb ([.map (some b)]) 68 :: Ch.obj b (mobj kA M c) :: Lv x) := H
   refine l_op (o_val (r_ext rfl rfl) ?_); first | refine l_end ?_ | refine l_nil ?_
   repeat refine c_seq ?_
   refine c_yes rfl ?_; refine c_skip ?_; repeat refine c_seq ?_
   refine c_block ?_; repeat refine c_seq ?_
   refine c_region ?_; refine l_op (o_val (r_entry (kv := kA) (enc := enc) H (i := 2) (j := 0) rfl rfl hM hF hkf5 rfl) ?_); refine l_op (o_val (r_ext rfl rfl) ?_); refine l_op (o_alloc H zc29 (fun b7 w H hb7 => ?_)); replace H := H.rot
   replace H : Hp _ w _ (Ch.blk b7 ((List.replicate 32 (0 : UInt8)).map V8) 29 :: Ch.obj b1 (itO b M c (vis ++ [kk3])) :: Ch.blk bb ([.map (some b)]) 68 :: Ch.obj b (mobj kA M c) :: Lv x) := H
   refine l_op (o_stA (l' := kk3.1) H (i := 0) rfl rfl rfl cs29 (show (List.replicate 32 (0 : UInt8)).length = 32 from (List.length_replicate ..)) (show (kk3.1).length = 32 from kk3.2) (fun w H => ?_)); replace H : Hp _ w _ (Ch.blk b7 ((kk3.1).map V8) 29 :: Ch.obj b1 (itO b M c (vis ++ [kk3])) :: Ch.blk bb ([.map (some b)]) 68 :: Ch.obj b (mobj kA M c) :: Lv x) := H
   first | refine l_end ?_ | refine l_nil ?_
   repeat refine c_seq ?_
   have hvs := vis_snoc hvn hv hkf5 hkn6
   have hvl := vis_le hF hvs.1 hvs.2
   rw [List.length_append, List.length_singleton] at hvl
   refine (wpIn_wide (n := 1)).1 ?_; refine wpIn_region_lit ?_; refine y_op (o_val r_mv ?_); refine y_op (o_val (r_ldAA (l := kk3.1) H (i := 0) rfl rfl rt29 (show (kk3.1).length = 32 from kk3.2)) ?_); have H1 := H.sub (.cons _ (.cons_cons _ (.cons_cons _ (.cons_cons _ (List.Sublist.refl _)))))
   have hy := hY _ vis x kk3 va4 _ hI hkf5 hkn6 hv hvn H1
   refine y_yield (v := kA kk3) (b := true) rfl (fun f e => by cases e) rfl hy ?_; rintro w ⟨x', hI', H2⟩
   clear H H1 hy; have H := H2; clear H2
   refine y_op (o_val (r_not rfl) ?_); refine y_end ?_; repeat refine c_seq ?_
   refine c_no rfl ?_; refine c_skip ?_; refine round_end (vis ++ [kk3], x') ?_ ?_ ?_
   · exact ⟨rfl, rfl, trivial⟩
   · refine ⟨?_, ?_⟩
     · try dsimp only
       exact ⟨hvs.1, hvs.2, hI'⟩
     · exact H
   · show M.length - (vis ++ [kk3]).length < M.length - vis.length; rw [List.length_append, List.length_singleton]; omega
end Go.Proofs.Ytomjbabllcmodaa
namespace Go.Proofs.Ytomjbabllcmodaa
open Go
/-- a frame that has something to do at its end. -/
def mkD (n : Nat) (σ : Nat → Value) (ds : List Deferred) : Act := { mk n σ with defers := ds }
section
variable {P : Program} {Q : Exit → Act → World → Prop} {n l m i d : Nat} {K : Act → World → Prop} {σ : Nat → Value} {w w0 : World} {S : List Nat} {L : List Ch}
  {ty : TypeId} {pos : String} {aft : Array Edge} {g : Option (Nat × Bool)} {rest : List Oper} {ds : List Deferred} {ops : Array Oper}
theorem mkD_evalf : (mkD n σ ds).eval = ev n σ := by
  rw [← mk_evalf]; funext x; cases x <;> rfl
theorem mkD_put {v : Value} : (mkD n σ ds).put (some d) v = mkD n (up σ d v) ds := by
  show (mkD n σ ds).put (some d) v = { mk n (up σ d v) with defers := ds }
  rw [← mk_put]; rfl
theorem Hp.putObj {r : Nat} {o o' : Obj} (H : Hp w0 w S L) (hi : L[i]? = some (.obj r o)) : Hp w0 (w.putObj r o') S (L.set i (.obj r o')) := by
  have hr : w.heap[r]? = some o := H.has _ (List.mem_of_getElem? hi)
  have hlt := (Array.getElem?_eq_some_iff.1 hr).1
  refine H.turn hi (c' := .obj r o') (World.putObj_heap_same hlt) (fun b hb => .inl hb) rfl rfl rfl (by simp [World.putObj]) (fun b _ hne => World.putObj_heap_other fun e => hne (by rw [e]; rfl))
theorem d_val {op : Op} {v : Value} {w' : World} (hrun : (execOp (ev n σ) ⟨some d, op, ty, pos, aft, g⟩).run P w = .ok (.value v) w') (h : K (mkD n (up σ d v) ds) w') : Oper.wp P ⟨some d, op, ty, pos, aft, g⟩ (mkD n σ ds) w K Q := by
  unfold Oper.wp
  rw [mkD_evalf, hrun, Oper.upon_value, mkD_put]
  exact h
theorem marks_calls {f : FuncId} {fn : Func} {c : Code} {args : List Value} {R : Ending → World → Prop} (hf : P.funcs[f]? = some fn) (hb : fn.body = some c) (hn : fn.ntmps = n) (hle : args.length ≤ n)
    (h : c.wp P (bodyPostM Fence.wide 1 P fn R) (mk n (fun t => args.getD t undef)) w) : Calls P f args.toArray w R := by
  refine callsIn_wide.1 (callsIn_of_wp_marks (F := Fence.wide) (n := 1) hf hb trivial ?_)
  rw [hn, enter_mk args n hle]
  exact wpIn_wide.2 h
theorem ret_mkM {f : FuncId} {fn : Func} {c : Code} {args : List Value} {R : Value → World → Prop} (hf : P.funcs[f]? = some fn) (hb : fn.body = some c) (hn : fn.ntmps = n) (hle : args.length ≤ n)
    (h : c.wp P (bodyPostM Fence.wide 1 P fn fun e w' => ∃ v, e = .returned v ∧ R v w') (mk n (fun t => args.getD t undef)) w) : Ret P f args w R := marks_calls hf hb hn hle h
theorem i_block {id : Nat} {c : Code} {a : Act} (h : c.wpIn (Fence.wide.inRound l) m P (Exit.inBlock id Q) a w) : (Code.block id c).wpIn (Fence.wide.inRound l) m P Q a w := wpIn_block h
theorem i_end {y : Code} {a : Act} (h : y.wpIn (Fence.wide.inRound l) m P Q a w) : wpList P ops (Exit.then (y.wpIn (Fence.wide.inRound l) m P Q) Q) [] a w := h
def markD (D : Nat) : List Deferred := [{ target := .collected D, args := #[] }]
theorem m_ret1 {fn : Func} {R : Ending → World → Prop} {D : Nat} {t : Tmp} {v : Value} (h : fn.results = #[.tmp t]) (hv : ev n σ (.tmp t) = v) (H : Hp w0 w S L) (hi : L[i]? = some (.obj D (.deferred (some []))))
    (hR : ∀ w', Hp w0 w' S (L.eraseIdx i) → R (.returned v) w') : bodyPostM Fence.wide 1 P fn R .ret (mkD n σ (markD D)) w := by
  have hD : w.heap[D]? = some (.deferred (some [])) := H.has _ (List.mem_of_getElem? hi)
  have H2 := H.putObj (o' := .deferred none) hi
  refine ⟨by simp, .inl ⟨D, _, rfl, run_takeDeferred hD, ?_⟩⟩
  have hs : (L.set i (.obj D (.deferred none))).eraseIdx i = L.eraseIdx i := by
    rw [List.eraseIdx_set_eq]
  have H3 := H2.sub (List.eraseIdx_sublist _ i)
  rw [hs] at H3
  refine ⟨_, results_tmp h _ _ _, ?_⟩
  have e : (mkD n σ (markD D)).tmps.getD t undef = v := by rw [← hv]; exact mk_tmp n σ t
  rw [e]
  exact hR _ H3
theorem enters_callFunc {f : FuncId} {fn : Func} (hf : P.funcs[f]? = some fn) (hb : fn.body.isSome = true) (hname : (fn.name == "runtime.NumGoroutine") = false) (args : Array Value) (w : World) : (callFunc f args).run P w = .ok (.enter f args) w := by
  have hn : fn.body ≠ none := by cases hh : fn.body <;> simp_all
  have hnm : fn.name ≠ "runtime.NumGoroutine" := by intro e; simp [e] at hname
  simp [callFunc, hf, hnm, hn]
theorem c_rangeK {ι κ α : Type} {FX : List Ch} {Got : κ → α → Prop} {All : List κ → Prop} {I : List κ → ι → Prop} {x0 : ι} {itC : Nat → List κ → Ch} {kv : κ → Value} {gf : FuncId} {fnI : Func} {pb : Value} {op : Operand} {p : Tmp} {assign body : Code}
    (hf : P.funcs[gf]? = some fnI) (hb : fnI.body.isSome = true) (hname : (fnI.name == "runtime.NumGoroutine") = false)
    (hIt : ∀ (Lv : ι → List Ch) (l : Nat) (w1 : World), Hp w0 w1 S (FX ++ Lv x0) →
      (∀ (it : Nat) (vis : List κ) (x : ι) (k : κ) (a : α) (W : World), I vis x → Got k a → k ∉ vis → Hp w0 W S (itC it (vis ++ [k]) :: (FX ++ Lv x)) →
        YieldAt Fence.wide 0 P l #[kv k] W fun e W' => e = .returned (.bool true) ∧ ∃ x', I (vis ++ [k]) x' ∧ Hp w0 W' S (itC it (vis ++ [k]) :: (FX ++ Lv x'))) →
      Ret P gf [.func (.yield l) #[] #[], pb] w1 fun _ w' => ∃ vis x, I vis x ∧ All vis ∧ Hp w0 w' S (FX ++ Lv x))
    (hg : ev n σ op = .func (.func gf) #[] #[pb]) (Lv : ι → List Ch) (H : Hp w0 w S (FX ++ Lv x0))
    (hround : ∀ (l : Nat) (T : List Ch) (vis : List κ) (x : ι) (k : κ) (a : α) (W : World), I vis x → Got k a → k ∉ vis → Hp w0 W S (FX ++ (Lv x ++ T)) →
      assign.wpIn (Fence.wide.inRound l) 0 P (Exit.then (fun a₁ W₁ => ∃ Lb, Hp w0 W₁ S (Lb ++ T) ∧ ∀ T' W₂, Hp w0 W₂ S (Lb ++ T') →
        body.wpIn (Fence.wide.inRound l) 0 P (fun e _ W₃ => e = .normal ∧ ∃ x', I (vis ++ [k]) x' ∧ Hp w0 W₃ S (FX ++ (Lv x' ++ T'))) a₁ W₂) (fun _ _ _ => False)) (mk n (up σ p (kv k))) W)
    (hdone : ∀ (D : Nat) (vis : List κ) (x : ι) (w' : World), I vis x → All vis → Hp w0 w' S (Ch.obj D (.deferred (some [])) :: (FX ++ Lv x)) → Q .normal (mkD n σ (markD D)) w') :
    (Code.rangeFunc op #[p] assign body).wp P Q (mk n σ) w := by
  refine (wpIn_wide (n := 1)).1 (wpIn_rangeFunc ?_); intro fn _
  have hDn : w0.heap.size ≤ w.heap.size := H.size
  have H1 := (H.new (.deferred (some [])) (.obj w.heap.size (.deferred (some []))) rfl (heap_alloc_new' w _))
  generalize hrec : (fun (st : LoopState) (pe : Option Code) => ({ state := st, pending := pe, fn, tmps := (mk n σ).tmps, params := #[p], assign, body, defers := w.heap.size } : Loop)) = rec
  have H2 := H1.new (.loop (rec .ready none)) (.obj (w.heap.size + 1) (.loop (rec .ready none))) (by simp [Ch.key]) (by have := heap_alloc_new' (w.alloc (.deferred (some []))) (.loop (rec .ready none)); simpa [Ch.ok] using this)
  generalize hW1 : (w.alloc (.deferred (some []))).alloc (.loop (rec .ready none)) = W1 at H2
  generalize hD : w.heap.size = D at *
  have P1 : ∀ (x : ι) (o : Obj), (FX ++ (Lv x ++ [Ch.obj D (.deferred (some [])), Ch.obj (D + 1) o])).Perm (FX ++ Lv x ++ [Ch.obj D (.deferred (some []))] ++ [Ch.obj (D + 1) o]) := fun x o => by
    rw [List.append_assoc, List.append_assoc]; exact .refl _
  have H3 : Hp w0 W1 S (FX ++ (fun x => Lv x ++ [Ch.obj D (.deferred (some [])), Ch.obj (D + 1) (.loop (rec .ready none))]) x0) := H2.permL (P1 x0 _).symm
  refine ⟨D + 1, markD D, W1, { target := .fn (.func gf) #[pb], args := #[.func (.yield (D + 1)) #[] #[]] }, W1, gf, #[.func (.yield (D + 1)) #[] #[]] ++ #[pb], W1, ?_, ?_, fun _ _ => trivial, ?_, fun h => (by cases h), ?_⟩
  · subst hD; rw [← hW1, ← hrec]; exact run_enterLoop_outer _ _ _ _ _
  · rw [mk_evalf]
    have hc : ev n σ (.const (.func (.yield (D + 1)) #[] #[])) = .func (.yield (D + 1)) #[] #[] := rfl
    cases op <;> simp [resolve, hg, hc, Deferred.ofValue]
  · simp [invoke, enters_callFunc hf hb hname]
  · refine callsIn_wide.2 ?_
    refine Calls.mono (hIt (fun x => Lv x ++ [Ch.obj D (.deferred (some [])), Ch.obj (D + 1) (.loop (rec .ready none))]) (D + 1) W1 H3 ?_) ?_
    · intro it vis x k a W hI hgot hk HW
      -- one round
      have HWp : Hp w0 W S (FX ++ (Lv x ++ [Ch.obj D (.deferred (some [])), Ch.obj (D + 1) (.loop (rec .ready none)), itC it (vis ++ [k])])) := HW.permL (by
        have := (List.perm_append_comm (l₁ := [itC it (vis ++ [k])]) (l₂ := FX ++ (Lv x ++ [Ch.obj D (.deferred (some [])), Ch.obj (D + 1) (.loop (rec .ready none))])))
        rw [List.append_assoc, List.append_assoc] at this
        exact this)
      have hi : (FX ++ (Lv x ++ [Ch.obj D (.deferred (some [])), Ch.obj (D + 1) (.loop (rec .ready none)), itC it (vis ++ [k])]))[FX.length + ((Lv x).length + 1)]? = some (Ch.obj (D + 1) (.loop (rec .ready none))) := by
        rw [List.getElem?_append_right (by omega), Nat.add_sub_cancel_left, List.getElem?_append_right (by omega), Nat.add_sub_cancel_left]; rfl
      have hl : W.heap[D + 1]? = some (.loop (rec .ready none)) := HWp.has _ (List.mem_of_getElem? hi)
      have hy := run_yield (P := P) (args := #[kv k]) hl (by rw [← hrec]; rfl)
      refine ⟨_, _, _, _, hy, roundIn_of_wpIn trivial ?_⟩
      have hact : ({ tmps := ((rec .ready none).params.zip #[kv k]).foldl (fun tmps (x : Tmp × Value) => tmps.setIfInBounds x.1 x.2) (rec .ready none).tmps, defers := [] } : Act) = mk n (up σ p (kv k)) := by
        rw [← mk_put, ← hrec]
        simp [Act.put, mk_defers]
      rw [hact]
      have ha : (rec .ready none).assign = assign := by rw [← hrec]
      have hbd : (rec .ready none).body = body := by rw [← hrec]
      rw [ha, hbd]
      refine wpIn_mono (hround (D + 1) _ vis x k a W hI hgot hk HWp) ?_; intro e a₁ W₁ hq
      cases e with
      | normal =>
        obtain ⟨Lb, HLb, hbody⟩ := hq
        have hi1 : (Lb ++ [Ch.obj D (.deferred (some [])), Ch.obj (D + 1) (.loop (rec .ready none)), itC it (vis ++ [k])])[Lb.length + 1]? = some (Ch.obj (D + 1) (.loop (rec .ready none))) := by
          rw [List.getElem?_append_right (by omega), Nat.add_sub_cancel_left]; rfl
        have hl1 : W₁.heap[D + 1]? = some (.loop (rec .ready none)) := HLb.has _ (List.mem_of_getElem? hi1)
        have hbg := run_beginRound (P := P) hl1 (by rw [← hrec])
        have H4 := HLb.putObj (o' := .loop { rec .ready none with state := .busy }) hi1
        rw [show (Lb ++ [Ch.obj D (.deferred (some [])), Ch.obj (D + 1) (.loop (rec .ready none)), itC it (vis ++ [k])]).set (Lb.length + 1) (.obj (D + 1) (.loop { rec .ready none with state := .busy })) = Lb ++ [Ch.obj D (.deferred (some [])), Ch.obj (D + 1) (.loop { rec .ready none with state := .busy }), itC it (vis ++ [k])] from by
          rw [List.set_append_right _ _ (by omega), Nat.add_sub_cancel_left]; rfl] at H4
        refine ⟨_, hbg, wpIn_mono (hbody _ _ H4) ?_⟩
        rintro e a₂ W₃ ⟨rfl, x', hI', H5⟩
        have hi2 : (FX ++ (Lv x' ++ [Ch.obj D (.deferred (some [])), Ch.obj (D + 1) (.loop { rec .ready none with state := .busy }), itC it (vis ++ [k])]))[FX.length + ((Lv x').length + 1)]? = some (Ch.obj (D + 1) (.loop { rec .ready none with state := .busy })) := by
          rw [List.getElem?_append_right (by omega), Nat.add_sub_cancel_left, List.getElem?_append_right (by omega), Nat.add_sub_cancel_left]; rfl
        have hl2 : W₃.heap[D + 1]? = some (.loop { rec .ready none with state := .busy }) := H5.has _ (List.mem_of_getElem? hi2)
        have hen := run_endRound (P := P) none hl2
        have H6 := H5.putObj (o' := .loop (rec .ready none)) hi2
        rw [List.set_append_right _ _ (by omega), Nat.add_sub_cancel_left, List.set_append_right _ _ (by omega), Nat.add_sub_cancel_left] at H6
        have hrr : ({ ({ rec .ready none with state := .busy } : Loop) with state := if (none : Option Code).isNone then .ready else .done, pending := none } : Loop) = rec .ready none := by rw [← hrec]; rfl
        rw [hrr] at hen
        refine ⟨_, _, hen, rfl, x', hI', H6.permL ?_⟩
        have := (List.perm_append_comm (l₁ := FX ++ (Lv x' ++ [Ch.obj D (.deferred (some [])), Ch.obj (D + 1) (.loop (rec .ready none))])) (l₂ := [itC it (vis ++ [k])]))
        rw [List.append_assoc, List.append_assoc] at this
        exact this
      | exit _ => exact hq.elim
      | ret => exact hq.elim
      | goto _ => exact hq.elim
      | panic _ => exact hq.elim
      | outgrown => exact hq.elim
    · rintro e W2 ⟨v, rfl, vis, x, hI, hA, HW⟩
      have hi : (FX ++ (Lv x ++ [Ch.obj D (.deferred (some [])), Ch.obj (D + 1) (.loop (rec .ready none))]))[FX.length + ((Lv x).length + 1)]? = some (Ch.obj (D + 1) (.loop (rec .ready none))) := by
        rw [List.getElem?_append_right (by omega), Nat.add_sub_cancel_left, List.getElem?_append_right (by omega), Nat.add_sub_cancel_left]; rfl
      have hl : W2.heap[D + 1]? = some (.loop (rec .ready none)) := HW.has _ (List.mem_of_getElem? hi)
      have hen := run_endLoop (P := P) hl (by rw [← hrec]; simp)
      have H6 := HW.putObj (o' := .loop { rec .ready none with state := .exhausted }) hi
      rw [List.set_append_right _ _ (by omega), Nat.add_sub_cancel_left, List.set_append_right _ _ (by omega), Nat.add_sub_cancel_left] at H6
      have hpn : (rec .ready none).pending = none := by rw [← hrec]
      refine ⟨none, _, hen.trans (congrArg (fun z => Result.ok z (W2.putObj (D + 1) (.loop { rec .ready none with state := .exhausted }))) hpn), ?_⟩
      · show Q .normal { tmps := (mk n σ).tmps, defers := markD D ++ (mk n σ).defers } _
        rw [mk_defers, List.append_nil]
        refine hdone D vis x _ hI hA ?_; have hp := (List.perm_append_comm (l₁ := FX ++ Lv x) (l₂ := [Ch.obj D (.deferred (some []))]))
        refine (H6.sub ?_).permL hp
        rw [List.append_assoc]
        exact List.Sublist.append_left (List.Sublist.append_left (.cons_cons _ (.cons _ (.refl _))) _) _
end
end Go.Proofs.Ytomjbabllcmodaa
namespace Go.Proofs.Ytomjbabllcmodaa
open Go
section
variable {P : Program} {Q : Exit → Act → World → Prop} {n : Nat} {σ : Nat → Value} {w w0 : World} {K : Act → World → Prop}
  {ty : TypeId} {pos : String} {aft : Array Edge} {g : Option (Nat × Bool)} {d : Nat} {t : TypeId} {x y : Operand} {S : List Nat} {L : List Ch}
end
theorem row_set (off : Nat) (rest : List Value) : ∀ (vs zs dn : List Value) (k : Nat), zs.length = vs.length → dn.length = off + k →
    (vs.zipIdx k).foldl (fun (cs : Array Value) (p : Value × Nat) => cs.setIfInBounds (off + p.2) p.1) (dn ++ (zs ++ rest)).toArray = (dn ++ (vs ++ rest)).toArray
  | [], zs, dn, k, h, _ => by
    have : zs = [] := List.eq_nil_of_length_eq_zero (by simpa using h)
    subst this; rfl
  | v :: vs, [], dn, k, h, _ => by simp at h
  | v :: vs, z :: zs, dn, k, h, hd => by
    rw [List.zipIdx_cons, List.foldl_cons]
    have e : ((dn ++ (z :: zs ++ rest)).toArray).setIfInBounds (off + k) v = ((dn ++ [v]) ++ (zs ++ rest)).toArray := by
      rw [← hd]
      simp []
    rw [e, row_set off rest vs zs (dn ++ [v]) (k + 1) (by simpa using h) (by rw [List.length_append, hd]; simp; omega)]
    simp
theorem fillG_aux (sz : Nat) : ∀ (rows : List (List Value)) (A B : List Value) (i : Nat), (∀ r ∈ rows, r.length = sz) → A.length = i * sz → B.length = rows.length * sz →
    Instr.fill (fun i => some (i * sz, sz)) (A ++ B).toArray (en i (rows.map fun r => .agg r.toArray)) = some (A ++ rows.flatten).toArray
  | [], A, B, i, _, _, hB => by
    have : B = [] := List.eq_nil_of_length_eq_zero (by simpa using hB)
    subst this; simp [en, Instr.fill]
  | r :: rows, A, B, i, hr, hA, hB => by
    have hrl := hr r (List.mem_cons_self ..)
    rw [List.length_cons, Nat.add_mul, Nat.one_mul] at hB
    have hsplit : B = B.take sz ++ B.drop sz := (List.take_append_drop _ _).symm
    rw [List.map_cons, en, Instr.fill]
    simp only [Value.cells, List.size_toArray]
    rw [if_neg (by simp only [Bool.or_eq_true, decide_eq_true_eq, List.length_append]; omega)]
    have hz : (r.toArray.zipIdx.foldl (fun (cs : Array Value) (p : Value × Nat) => cs.setIfInBounds (i * sz + p.2) p.1) (A ++ B).toArray) = ((A ++ r) ++ B.drop sz).toArray := by
      simp only [Array.zipIdx_toArray, List.foldl_toArray]
      rw [hsplit]
      have := row_set (i * sz) (B.drop sz) r (B.take sz) A 0 (by rw [List.length_take, hrl]; omega) (by omega)
      rw [this, List.append_assoc, ← hsplit]
    rw [hz, fillG_aux sz rows (A ++ r) (B.drop sz) (i + 1) (fun x hx => hr x (List.mem_cons_of_mem _ hx)) (by rw [List.length_append, hA, hrl, Nat.add_mul, Nat.one_mul]) (by rw [List.length_drop]; omega)]
    simp
section
variable {P : Program} {Q : Exit → Act → World → Prop} {n : Nat} {σ : Nat → Value} {w w0 : World} {K : Act → World → Prop}
  {ty : TypeId} {pos : String} {aft : Array Edge} {g : Option (Nat × Bool)} {d : Nat} {t : TypeId} {S : List Nat} {L : List Ch}
/-- a list of structs, written down. -/
theorem o_bslGn {α : Type} {enc : α → List Value} {e : TypeId} {sz bytes m : Nat} {parts : Array (Nat × Operand)} {zs : List Value} (l : List α) (H : Hp w0 w S L) (hT : SlTy P t e sz bytes) (hz : zeroCells P e = some zs) (h0 : 0 < sz) (hm : l.length = m) (hsm : m * sz ≤ 16777216)
    (hp : pvs n σ parts.toList = en 0 (l.map fun c => .agg (enc c).toArray)) (hc : ∀ c ∈ l, (enc c).length = sz)
    (h : ∀ b w', Hp w0 w' S (L ++ [.own (some b) m m (l.flatMap enc) e sz]) → w0.heap.size ≤ b → K (mk n (up σ d (.slice (hd (some b)) m m))) w') :
    Oper.wp P ⟨some d, .buildSlice t m parts, ty, pos, aft, g⟩ (mk n σ) w K Q := by
  have hfl : (l.flatMap enc).length = m * sz := by rw [← hm]; exact flat_len hc
  refine o_bsl (cells := (l.flatMap enc).toArray) H hT hz h0 hp hsm ?_ fun b w' H' hb => h b w' ?_ hb
  · have hzl : ((Array.range (m * sz)).map (zs.toArray[· % zs.toArray.size]!)).toList.length = m * sz := by simp
    have := fillG_aux sz (l.map enc) [] ((Array.range (m * sz)).map (zs.toArray[· % zs.toArray.size]!)).toList 0 (fun r hr => by
      obtain ⟨c, hcm, rfl⟩ := List.mem_map.1 hr; exact hc c hcm) (by simp) (by rw [hzl, List.length_map, hm])
    rw [List.nil_append, Array.toArray_toList, List.map_map] at this
    rw [List.nil_append, ← List.flatMap_def] at this
    exact this
  · have := H'.toOwn (i := L.length) (len := m) (cap := m) (sz := sz) (b := b) (C := l.flatMap enc) (T := e) (by simp) (Nat.le_refl _) (by
      have : m ≤ m * sz := Nat.le_mul_of_pos_right m h0
      exact Nat.le_trans this (Nat.le_trans hsm (by decide))) hfl
    rw [List.set_append_right _ _ (Nat.le_refl _), Nat.sub_self, List.take_of_length_le (by omega)] at this
    simpa using this
end
end Go.Proofs.Ytomjbabllcmodaa
namespace Go.Proofs.Ytomjbabllcmodaa
open Go
set_option maxRecDepth 100000
def obE (x : Ob) : List Value := (x.of.1).map V8 ++ (([x.data.v] : List Value))
theorem obE_len (x : Ob) : (obE x).length = 33 := by
  show ((x.of.1).map V8 ++ (([x.data.v] : List Value))).length = 33
  exact (by simp only [List.length_append, List.length_map, List.length_cons, List.length_nil, (show (x.of.1).length = 32 from x.of.2)])
theorem obE_all (x : Ob) : (obE x).all (·.oneCell') = true := by
  show ((x.of.1).map V8 ++ (([x.data.v] : List Value))).all (·.oneCell') = true
  exact (by first | (simp [Value.oneCell', Sl.v, List.all_append, List.all_map]; done) | (simp only [List.all_append, List.all_cons, List.all_nil, List.all_map]; simp [Value.oneCell', Function.comp_def]))
theorem take_snocG {α : Type} {l : List α} {i : Nat} {x : α} (h : l[i]? = some x) : l.take (i + 1) = l.take i ++ [x] := by
  rw [List.take_add_one, h]; rfl
end Go.Proofs.Ytomjbabllcmodaa
namespace Go.Proofs.Ytomjbabllcmodaa
open Go
set_option maxRecDepth 100000
section
variable {P : Program} {n : Nat} {σ : Nat → Value} {w : World} {ty : TypeId} {pos : String} {aft : Array Edge} {g : Option (Nat × Bool)} {d : Nat} {t : TypeId} {x : Operand}
theorem r_mkfn {f : FuncId} {xs : Array Operand} {vs : List Value} (hx : evs n σ xs.toList = vs) : (execOp (ev n σ) ⟨some d, .makeFunc (.func f) #[] xs, ty, pos, aft, g⟩).run P w = .ok (.value (.func (.func f) #[] vs.toArray)) w := by
  have h : xs.map (ev n σ) = vs.toArray := by apply Array.ext'; rw [← hx, evs_eq]; simp
  simp [execOp, h, Instr.makeFunc]
end
/-- a list of names that rises. -/
def RisA (l : List Id32) : Prop := l.Pairwise fun x y => x.1 < y.1
theorem sortA_ris {l : List Id32} (hn : l.Nodup) : RisA (sortA l) ∧ ∀ x, x ∈ sortA l ↔ x ∈ l := by
  have hp : (sortA l).Perm l := List.mergeSort_perm _ _
  refine ⟨?_, fun x => hp.mem_iff⟩
  have hle : ∀ x y : Id32, (!(decide (cmpA y x < 0))) = true ↔ ¬ y.1 < x.1 := fun x y => by
    rw [Bool.not_eq_true', decide_eq_false_iff_not]
    exact not_congr (cmpB_lt _ _)
  have hs : (sortA l).Pairwise fun x y => (!(decide (cmpA y x < 0))) = true := List.pairwise_mergeSort (fun x y z h1 h2 => by
      rw [hle] at *
      exact List.not_lt.2 (List.le_trans (List.not_lt.1 h1) (List.not_lt.1 h2))) (fun x y => by
      rw [Bool.or_eq_true, hle, hle]
      by_cases h : y.1 < x.1
      · right; intro h2; exact lt_irr _ (lt_tr h h2)
      · exact .inl h) l
  have hnd : (sortA l).Nodup := hp.nodup_iff.2 hn
  refine (List.pairwise_and_iff.2 ⟨hs, hnd⟩).imp fun {x y} h => ?_
  obtain ⟨h1, h2⟩ := h
  rw [hle] at h1
  exact Decidable.byContradiction fun h3 => h2 (Subtype.ext (lt_tot h3 h1))
theorem sortA_len (l : List Id32) : (sortA l).length = l.length := List.length_mergeSort _
end Go.Proofs.Ytomjbabllcmodaa
namespace Go.Proofs.Ytomjbabllcmodaa
open Go
set_option maxRecDepth 100000
theorem lookS_cons (o : Ob) (l : List Ob) (k : Id32) : lookS (o :: l) k = if o.of = k then some o.data else lookS l k := by
  rw [lookS, lookS, List.find?_cons]
  by_cases h : o.of = k
  · simp [h]
  · simp [h]
variable {l : List Ob} {roots rs : List Id32} {h d : List Bool} {pr : Nat → Ob → List It}
/-- how many are not hit. -/
def cf (h : List Bool) : Nat := h.count false
end Go.Proofs.Ytomjbabllcmodaa
namespace Go.Proofs.Ytomjbabllcmodaa
open Go
def rotl (x : UInt32) (k : Nat) : UInt32 := (x <<< UInt32.ofNat k) ||| (x >>> UInt32.ofNat (32 - k))
/-- word j of a block. -/
def wordAt (b : List UInt8) (j : Nat) : UInt32 :=
  (((b.getD (4 * j) 0).toUInt32 <<< UInt32.ofNat 24) ||| ((b.getD (4 * j + 1) 0).toUInt32 <<< UInt32.ofNat 16) ||| ((b.getD (4 * j + 2) 0).toUInt32 <<< UInt32.ofNat 8)) ||| (b.getD (4 * j + 3) 0).toUInt32
def firsts (b : List UInt8) : Nat → List UInt32
  | 0 => []
  | j + 1 => firsts b j ++ [wordAt b j]
def sg0 (x : UInt32) : UInt32 := (rotl x 25 ^^^ rotl x 14) ^^^ (x >>> UInt32.ofNat 3)
def sg1 (y : UInt32) : UInt32 := (rotl y 15 ^^^ rotl y 13) ^^^ (y >>> UInt32.ofNat 10)
def nextWord (l : List UInt32) : UInt32 :=
  (l.getD (l.length - 16) 0 + sg0 (l.getD (l.length - 15) 0) + l.getD (l.length - 7) 0) + sg1 (l.getD (l.length - 2) 0)
def sched (b : List UInt8) : Nat → List UInt32
  | 0 => firsts b 16
  | k + 1 => sched b k ++ [nextWord (sched b k)]
structure S8 where
  a : UInt32
  b : UInt32
  c : UInt32
  d : UInt32
  e : UInt32
  f : UInt32
  g : UInt32
  h : UInt32
def S8.l (s : S8) : List UInt32 := [s.a, s.b, s.c, s.d, s.e, s.f, s.g, s.h]
def primeWords : List UInt32 := [
  0x428a2f98, 0x71374491, 0xb5c0fbcf, 0xe9b5dba5, 0x3956c25b, 0x59f111f1, 0x923f82a4, 0xab1c5ed5,
  0xd807aa98, 0x12835b01, 0x243185be, 0x550c7dc3, 0x72be5d74, 0x80deb1fe, 0x9bdc06a7, 0xc19bf174,
  0xe49b69c1, 0xefbe4786, 0x0fc19dc6, 0x240ca1cc, 0x2de92c6f, 0x4a7484aa, 0x5cb0a9dc, 0x76f988da,
  0x983e5152, 0xa831c66d, 0xb00327c8, 0xbf597fc7, 0xc6e00bf3, 0xd5a79147, 0x06ca6351, 0x14292967,
  0x27b70a85, 0x2e1b2138, 0x4d2c6dfc, 0x53380d13, 0x650a7354, 0x766a0abb, 0x81c2c92e, 0x92722c85,
  0xa2bfe8a1, 0xa81a664b, 0xc24b8b70, 0xc76c51a3, 0xd192e819, 0xd6990624, 0xf40e3585, 0x106aa070,
  0x19a4c116, 0x1e376c08, 0x2748774c, 0x34b0bcb5, 0x391c0cb3, 0x4ed8aa4a, 0x5b9cca4f, 0x682e6ff3,
  0x748f82ee, 0x78a5636f, 0x84c87814, 0x8cc70208, 0x90befffa, 0xa4506ceb, 0xbef9a3f7, 0xc67178f2]
def initS : S8 := ⟨0x6a09e667, 0xbb67ae85, 0x3c6ef372, 0xa54ff53a, 0x510e527f, 0x9b05688c, 0x1f83d9ab, 0x5be0cd19⟩
def rnd (s : S8) (k w : UInt32) : S8 :=
  let up := (rotl s.e 26 ^^^ rotl s.e 21) ^^^ rotl s.e 7
  let x := (((s.h + up) + ((s.e &&& s.f) ^^^ (~~~s.e &&& s.g))) + k) + w
  let down := (rotl s.a 30 ^^^ rotl s.a 19) ^^^ rotl s.a 10
  let y := down + (((s.a &&& s.b) ^^^ (s.a &&& s.c)) ^^^ (s.b &&& s.c))
  ⟨x + y, s.a, s.b, s.c, s.d + x, s.e, s.f, s.g⟩
def rnds (ws : List UInt32) (s : S8) : Nat → S8
  | 0 => s
  | i + 1 => rnd (rnds ws s i) (primeWords.getD i 0) (ws.getD i 0)
def addS (s t : S8) : S8 := ⟨s.a + t.a, s.b + t.b, s.c + t.c, s.d + t.d, s.e + t.e, s.f + t.f, s.g + t.g, s.h + t.h⟩
def comp (s : S8) (blk : List UInt8) : S8 := addS s (rnds (sched blk 48) s 64)
theorem firsts_length (b : List UInt8) : ∀ j, (firsts b j).length = j
  | 0 => rfl
  | j + 1 => by simp [firsts, firsts_length b j]
theorem sched_length (b : List UInt8) : ∀ k, (sched b k).length = 16 + k
  | 0 => firsts_length b 16
  | k + 1 => by simp [sched, sched_length b k]; omega
end Go.Proofs.Ytomjbabllcmodaa
namespace Go.Proofs.Ytomjbabllcmodaa
open Go
structure HS where
  st : S8
  wt : List UInt8
  m : UInt64
def HS.at_ (s : HS) : Nat := s.m.toNat % 64
def step1 (s : HS) (b : UInt8) : HS :=
  if s.at_ = 63 then ⟨comp s.st (s.wt.set s.at_ b), s.wt.set s.at_ b, s.m + 1⟩ else ⟨s.st, s.wt.set s.at_ b, s.m + 1⟩
def absorb (s : HS) : List UInt8 → HS
  | [] => s
  | b :: l => absorb (step1 s b) l
def HS.init : HS := ⟨initS, List.replicate 64 0, 0⟩
theorem absorb_append (s : HS) (a b : List UInt8) : absorb s (a ++ b) = absorb (absorb s a) b := by
  induction a generalizing s with
  | nil => rfl
  | cons x a ih => simp [absorb, ih]
theorem step1_wt (s : HS) (b : UInt8) : (step1 s b).wt.length = s.wt.length := by unfold step1; split <;> simp
theorem absorb_wt (s : HS) (l : List UInt8) : (absorb s l).wt.length = s.wt.length := by
  induction l generalizing s with
  | nil => rfl
  | cons x l ih => rw [absorb, ih, step1_wt]
/-- l written into wt from place k on. -/
def spl (wt : List UInt8) (k : Nat) (l : List UInt8) : List UInt8 := wt.take k ++ l ++ wt.drop (k + l.length)
theorem spl_set (wt : List UInt8) (k : Nat) (b : UInt8) (l : List UInt8) (h : k + (l.length + 1) ≤ wt.length) : spl (wt.set k b) (k + 1) l = spl wt k (b :: l) := by
  unfold spl
  have e1 : (wt.set k b).take (k + 1) = wt.take k ++ [b] := by
    rw [List.take_set, List.take_succ_eq_append_getElem (by omega)]
    have : (wt.take k).length = k := by rw [List.length_take]; omega
    rw [List.set_append_right _ _ (by omega), this]; simp
  have e2 : (wt.set k b).drop (k + 1 + l.length) = wt.drop (k + (b :: l).length) := by
    rw [List.drop_set_of_lt (by omega)]; congr 1; simp; omega
  rw [e1, e2]; simp
theorem at_add (m : UInt64) (k : Nat) (h : m.toNat % 64 + k < 64) : (m + UInt64.ofNat k).toNat % 64 = m.toNat % 64 + k := by
  rw [UInt64.toNat_add, UInt64.toNat_ofNat']; omega
theorem add_one (m : UInt64) (k : Nat) : m + 1 + UInt64.ofNat k = m + UInt64.ofNat (k + 1) := by
  apply UInt64.toNat_inj.1
  rw [UInt64.toNat_add, UInt64.toNat_add, UInt64.toNat_add, UInt64.toNat_ofNat', UInt64.toNat_ofNat']
  have : (1 : UInt64).toNat = 1 := rfl
  omega
theorem absorb_full (l : List UInt8) : ∀ s : HS, s.wt.length = 64 → s.at_ + l.length = 64 → l ≠ [] → absorb s l = ⟨comp s.st (spl s.wt s.at_ l), spl s.wt s.at_ l, s.m + UInt64.ofNat l.length⟩ := by
  induction l with
  | nil => intro s _ _ h; exact absurd rfl h
  | cons b l ih =>
    intro s hw h _
    by_cases hl : l = []
    · subst hl
      have h63 : s.at_ = 63 := by simp at h; omega
      have e : step1 s b = ⟨comp s.st (s.wt.set s.at_ b), s.wt.set s.at_ b, s.m + 1⟩ := by unfold step1; rw [if_pos h63]
      have e2 : spl s.wt s.at_ [b] = s.wt.set s.at_ b := by
        have := spl_set s.wt s.at_ b [] (by simp; omega)
        rw [← this, spl]; simp
      rw [absorb, absorb, e, e2]; rfl
    · have hpos : 0 < l.length := List.length_pos_iff.2 hl
      have h63 : s.at_ ≠ 63 := by simp at h; omega
      have e : step1 s b = ⟨s.st, s.wt.set s.at_ b, s.m + 1⟩ := by unfold step1; rw [if_neg h63]
      have ha : (s.m + 1).toNat % 64 = s.at_ + 1 := at_add s.m 1 (by simp [HS.at_] at h ⊢; omega)
      rw [absorb, e, ih _ (by simpa using hw) (by simp only [HS.at_, List.length_cons] at h ha ⊢; omega) hl]
      simp only [HS.at_] at ha ⊢
      rw [ha]
      have := spl_set s.wt (s.m.toNat % 64) b l (by simp [HS.at_] at h; omega)
      rw [this, add_one]; rfl
end Go.Proofs.Ytomjbabllcmodaa
