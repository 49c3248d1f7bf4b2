/- Lemmas for the statement WalkWide, part 3: rules of operations, walks through functions, plain laws. -/
import Derived.Test.YtomjbabllcmodaaWalkWideG2
namespace Go.Proofs.Ytomjbabllcmodaa
open Go
def W64 (x : UInt32) : Value := V64 x.toUInt64
def turnN (x : Nat) : Nat → Nat
  | 0 => x
  | i + 1 => turnN x i / 2 + turnN x i % 2 * 2147483648
theorem turnN_eq (x : Nat) : ∀ i, i ≤ 31 → turnN x i = x / 2 ^ i + (x % 2 ^ i) * 2 ^ (32 - i)
  | 0, _ => by simp [turnN, Nat.mod_one]
  | i + 1, h => by
    have ih := turnN_eq x i (by omega)
    have e1 : 2 ^ (32 - i) = 2 * 2 ^ (31 - i) := by
      rw [show 32 - i = (31 - i) + 1 by omega, Nat.pow_succ, Nat.mul_comm]
    have e2 : 2 ^ (32 - (i + 1)) = 2 ^ (31 - i) := by rw [show 32 - (i + 1) = 31 - i by omega]
    have e3 : x % 2 ^ (i + 1) = x % 2 ^ i + (x / 2 ^ i % 2) * 2 ^ i := by
      rw [Nat.pow_succ, Nat.mod_mul]; rw [Nat.mul_comm]
    have e4 : 2 ^ i * 2 ^ (31 - i) = 2147483648 := by
      rw [← Nat.pow_add, show i + (31 - i) = 31 by omega]
    have e5 : x / 2 ^ (i + 1) = x / 2 ^ i / 2 := by rw [Nat.pow_succ, Nat.div_div_eq_div_mul]
    rw [turnN, ih, e1, e2, e3, e5]
    generalize x / 2 ^ i = q at *
    generalize x % 2 ^ i = r at *
    generalize 2 ^ (31 - i) = p at *
    have e6 : r * (2 * p) = 2 * (r * p) := by rw [Nat.mul_left_comm]
    have e7 : (r + q % 2 * 2 ^ i) * p = r * p + q % 2 * 2147483648 := by
      rw [Nat.add_mul, Nat.mul_assoc, e4]
    rw [e6, e7]
    omega
theorem turnN_lt (x : Nat) (hx : x < 4294967296) : ∀ i, turnN x i < 4294967296
  | 0 => hx
  | i + 1 => by have := turnN_lt x hx i; rw [turnN]; omega
def turn64 (x : UInt64) : Nat → UInt64
  | 0 => x
  | i + 1 => turn64 x i / 2 + turn64 x i % 2 * 2147483648
theorem turn64_nat (x : UInt32) : ∀ i, (turn64 x.toUInt64 i).toNat = turnN x.toNat i
  | 0 => by simp [turn64, turnN]
  | i + 1 => by
    have ih := turn64_nat x i
    have hl := turnN_lt x.toNat x.toNat_lt i
    rw [turn64, turnN, UInt64.toNat_add, UInt64.toNat_mul, UInt64.toNat_div, UInt64.toNat_mod, ih]
    have e2 : (2 : UInt64).toNat = 2 := rfl
    have e3 : (2147483648 : UInt64).toNat = 2147483648 := rfl
    rw [e2, e3]
    omega
theorem rotl_nat (x : UInt32) (n : Nat) (h0 : 0 < n) (h : n < 32) : (rotl x (32 - n)).toNat = turnN x.toNat n := by
  rw [turnN_eq _ n (by omega), rotl, UInt32.toNat_or, UInt32.toNat_shiftLeft, UInt32.toNat_shiftRight]
  have e1 : (UInt32.ofNat (32 - n)).toNat % 32 = 32 - n := by rw [UInt32.toNat_ofNat']; omega
  have e2 : (UInt32.ofNat (32 - (32 - n))).toNat % 32 = n := by rw [UInt32.toNat_ofNat']; omega
  rw [e1, e2, Nat.shiftRight_eq_div_pow, Nat.shiftLeft_eq]
  have hx := x.toNat_lt
  have e3 : x.toNat * 2 ^ (32 - n) % 2 ^ 32 = (x.toNat % 2 ^ n) * 2 ^ (32 - n) := by
    have : 2 ^ 32 = 2 ^ n * 2 ^ (32 - n) := by rw [← Nat.pow_add]; congr 1; omega
    rw [this, Nat.mul_mod_mul_right]
  rw [e3, Nat.add_comm, ← Nat.shiftLeft_eq]
  refine (Nat.shiftLeft_add_eq_or_of_lt ?_ _).symm; have : 2 ^ 32 = 2 ^ (32 - n) * 2 ^ n := by rw [← Nat.pow_add]; congr 1; omega
  exact Nat.div_lt_of_lt_mul (by rw [Nat.mul_comm, ← this]; exact hx)
theorem turn64_eq (x : UInt32) (n : Nat) (h0 : 0 < n) (h : n < 32) : turn64 x.toUInt64 n = (rotl x (32 - n)).toUInt64 := by
  apply UInt64.toNat_inj.1
  rw [turn64_nat, UInt32.toNat_toUInt64, rotl_nat x n h0 h]
def down64 (x : UInt64) : Nat → UInt64
  | 0 => x
  | i + 1 => down64 x i / 2
theorem down64_nat (x : UInt64) : ∀ i, (down64 x i).toNat = x.toNat / 2 ^ i
  | 0 => by simp [down64]
  | i + 1 => by
    rw [down64, UInt64.toNat_div, down64_nat x i, Nat.pow_succ, Nat.div_div_eq_div_mul]; rfl
theorem down64_eq (x : UInt32) (n : Nat) (h : n < 32) : down64 x.toUInt64 n = (x >>> UInt32.ofNat n).toUInt64 := by
  apply UInt64.toNat_inj.1
  rw [down64_nat, UInt32.toNat_toUInt64, UInt32.toNat_toUInt64, UInt32.toNat_shiftRight, Nat.shiftRight_eq_div_pow]
  have e1 : (UInt32.ofNat n).toNat % 32 = n := by rw [UInt32.toNat_ofNat']; omega
  rw [e1]
theorem and_all (x : UInt64) : x &&& 4294967295 = x.toUInt32.toUInt64 := by
  apply UInt64.toNat_inj.1
  rw [UInt64.toNat_and, UInt32.toNat_toUInt64, UInt64.toNat_toUInt32]
  have : (4294967295 : UInt64).toNat = 2 ^ 32 - 1 := rfl
  rw [this, Nat.and_two_pow_sub_one_eq_mod]
section
variable {P : Program} {t : TypeId} {w : World}
theorem b_quo_u64 {x y : UInt64} (h : y.toNat ≠ 0) : (binOp .quo t (V64 x) (V64 y)).run P w = .ok (V64 (x / y)) w := by
  have hx := u64_lt x
  have h2 : (y.toNat : Int) ≠ 0 := by omega
  have e1 : (x.toNat : Int) / (y.toNat : Int) = ((x.toNat / y.toNat : Nat) : Int) := by simp
  have h3 := Nat.div_le_self x.toNat y.toNat
  have e : IntKind.u64.wrap ((x.toNat : Int) / (y.toNat : Int)) = ((x / y).toNat : Int) := by
    rw [wrap_u64, UInt64.toNat_div, e1]
    generalize x.toNat / y.toNat = q at h3
    omega
  simp [binOp, Op.intDiv, h, e, Int.tdiv_eq_ediv_of_nonneg (show (0 : Int) ≤ (x.toNat : Int) by omega)]
theorem b_rem_u64 {x y : UInt64} (h : y.toNat ≠ 0) : (binOp .rem t (V64 x) (V64 y)).run P w = .ok (V64 (x % y)) w := by
  have e := b_rem (P := P) (t := t) (w := w) (k := .u64) (a := (x.toNat : Int)) (b := (y.toNat : Int)) (by omega) (by omega)
  rw [show V64 (x % y) = .int .u64 ((x.toNat : Int) % (y.toNat : Int)) by rw [V64, UInt64.toNat_mod]; simp]
  exact e
end
end Go.Proofs.Ytomjbabllcmodaa
namespace Go.Proofs.Ytomjbabllcmodaa
open Go
set_option maxRecDepth 100000
theorem cnt_len : ∀ (k n : Nat), n < 128 ^ (k + 1) → (cnt n).length ≤ k + 1
  | 0, n, h => by rw [cnt_one n (by omega)]; exact Nat.le_refl _
  | k + 1, n, h => by
    by_cases hn : 127 < n
    · rw [cnt_big n hn, List.length_cons]
      have := cnt_len k (n / 128) (by rw [Nat.pow_succ] at h; omega)
      omega
    · rw [cnt_one n (by omega)]; simp
theorem cnt_len10 (n : Nat) (h : n < 18446744073709551616) : (cnt n).length ≤ 10 := cnt_len 9 n (by have : (128 : Nat) ^ (9 + 1) = 1180591620717411303424 := by decide
                                                                                                    omega)
theorem len_cnt (l : List UInt8) (n : Nat) (h : n < 2 ^ 64) : (l ++ cnt n).length ≤ l.length + 10 := by
  rw [List.length_append]; have := cnt_len10 n (by simpa using h); omega
theorem len_txt (l t : List UInt8) (h : t.length ≤ 65536) : ((l ++ cnt t.length) ++ t).length ≤ l.length + 10 + t.length := by
  rw [List.length_append, List.length_append]; have := cnt_len10 t.length (by omega); omega
theorem cnt1_byte (v : UInt64) : (v % 128 + 128).toUInt8 = UInt8.ofNat v.toNat ||| 128 := by
  apply UInt8.toNat_inj.1
  have e1 : (128 : UInt64).toNat = 128 := rfl
  rw [or_nat, UInt64.toNat_toUInt8, UInt64.toNat_add, UInt64.toNat_mod, e1]
  omega
theorem div128 (v : UInt64) : (v / 128).toNat = v.toNat / 128 := by rw [UInt64.toNat_div]; rfl
theorem cnt_big64 (x : UInt64) (h : 127 < x.toNat) : cnt x.toNat = (x % 128 + 128).toUInt8 :: cnt (x / 128).toNat := by rw [cnt_big _ h, cnt1_byte, div128]
theorem cnt_one64 (x : UInt64) (h : x.toNat ≤ 127) : cnt x.toNat = [x.toUInt8] := by
  rw [cnt_one _ h]; congr 1
theorem count1_ret (w0 : World) (s : Sl) (hs : s.ok w0) (u : UInt64) (hm : s.len ≤ 1048576) :
    Ret Try.prog 55 [s.v, V64 u] w0 fun v w' => ∃ a c, v = .slice (hd a) (s.l ++ cnt u.toNat).length c ∧ Hp w0 w' [] [.own a (s.l ++ cnt u.toNat).length c ((s.l ++ cnt u.toNat).map V8) 5 1] := by
  refine ret_mk Try.func55 rfl Try.ntmps55 (by simp) ?_
  have H := Hp.refl w0 []
  have hsl := hs.ln
  have hle := hs.le
  repeat refine c_seq ?_
  refine c_region ?_; refine l_op (o_val r_as ?_); first | refine l_end ?_ | refine l_nil ?_
  repeat refine c_seq ?_
  refine c_region ?_; refine l_op (o_bslB (([] : List UInt8)) H sl32 zc5 rfl rfl (by decide) (fun b1 w H hb1 => ?_)); replace H : Hp _ w _ ([.own (some b1) 0 0 ((([] : List UInt8)).map V8) 5 1]) := H
  refine l_op (o_val r_mv ?_); refine l_op (o_appB (s := s) (l' := s.l) (len' := s.l.length) (List.nil_append _) (by omega) H (i := 0) rfl sl32 Try.underlying32 rfl rfl (hs.up H (fun _ => apart_nil _)) (by omega) (fun a2 c3 w H => ?_)); replace H : Hp _ w _ ([.own a2 s.l.length c3 ((s.l).map V8) 5 1]) := H
  refine l_op (o_val r_as ?_); first | refine l_end ?_ | refine l_nil ?_
  repeat refine c_seq ?_
  refine c_block ?_; repeat refine c_seq ?_
  refine c_loop4 (fun (x : UInt64) (l : List UInt8) (a : Option Nat) (c : Nat) => [(1, V64 x), (5, .slice (hd a) l.length c)])
    (fun (x : UInt64) (l : List UInt8) (a : Option Nat) (c : Nat) w => (l ++ cnt x.toNat = s.l ++ cnt u.toNat) ∧ Hp w0 w [] ([.own a l.length c ((l).map V8) 5 1]))
    (fun (x : UInt64) (l : List UInt8) (a : Option Nat) (c : Nat) => x.toNat) u s.l a2 c3 ⟨rfl, rfl, trivial⟩ ⟨rfl, H⟩ ?_
  clear H
  rintro x l a c τ w ⟨hl, H⟩
  have hlen := congrArg List.length hl
  rw [List.length_append, List.length_append] at hlen
  have hc10 := cnt_len10 u.toNat (by have := u.toNat_lt; omega)
  repeat refine c_seq ?_
  refine c_region ?_; refine l_op (o_val r_mv ?_); refine l_op (o_val (r_bin (a := (x.toNat : Int)) (b := 128) rfl rfl (fun _ => b_geq)) ?_); first | refine l_end ?_ | refine l_nil ?_
  by_cases hc4 : 128 ≤ (x.toNat : Int)
  ·
   repeat refine c_seq ?_
   refine c_yes (by exact congrArg Value.bool (decide_eq_true hc4)) ?_; refine c_skip ?_; repeat refine c_seq ?_
   refine c_block ?_; repeat refine c_seq ?_
   refine c_region ?_; refine l_op (o_val r_mv ?_); refine l_op (o_val r_mv ?_); refine l_op (o_val (r_bin rfl (c64 128 (by decide)) (fun _ => b_rem_u64 (by decide))) ?_); refine l_op (o_val (r_bin rfl (c64 128 (by decide)) (fun _ => b_add_u64)) ?_); refine l_op (o_val (r_conv Try.underlying91 Try.underlying5 rfl (w_u8_64 _)) ?_); refine l_op (o_bslB ([((x % (128 : UInt64)) + (128 : UInt64)).toUInt8]) H sl32 zc5 rfl rfl (by decide) (fun b5 w H hb5 => ?_)); replace H : Hp _ w _ ([_, .own (some b5) 1 1 (([((x % (128 : UInt64)) + (128 : UInt64)).toUInt8]).map V8) 5 1]) := H
   refine l_op (o_appB (s := ⟨hd (some b5), 1, 1, [((x % (128 : UInt64)) + (128 : UInt64)).toUInt8]⟩) (l' := l ++ ([((x % (128 : UInt64)) + (128 : UInt64)).toUInt8])) (len' := (l ++ ([((x % (128 : UInt64)) + (128 : UInt64)).toUInt8])).length) rfl (by rw [List.length_append]; rfl) H (i := 0) rfl sl32 Try.underlying32 rfl rfl (H.slOwn (i := 1) rfl) (by rw [List.length_append, List.length_singleton]; omega) (fun a6 c7 w H => ?_)); replace H : Hp _ w _ ([.own a6 ((l ++ ([((x % (128 : UInt64)) + (128 : UInt64)).toUInt8])).length) c7 ((l ++ ([((x % (128 : UInt64)) + (128 : UInt64)).toUInt8])).map V8) 5 1, _]) := H
   refine l_op (o_val r_as ?_); first | refine l_end ?_ | refine l_nil ?_
   repeat refine c_seq ?_
   refine c_region ?_; refine l_op (o_val r_mv ?_); refine l_op (o_val (r_bin rfl (c64 128 (by decide)) (fun _ => b_quo_u64 (by decide))) ?_); refine l_op (o_val r_as ?_); first | refine l_end ?_ | refine l_nil ?_
   refine round_end (x / (128 : UInt64), l ++ ([((x % (128 : UInt64)) + (128 : UInt64)).toUInt8]), a6, c7) ?_ ?_ ?_
   · exact ⟨show V64 (x / (128 : UInt64)) = V64 (x / (128 : UInt64) : UInt64) from congrArg V64 rfl, rfl, trivial⟩
   · refine ⟨?_, ?_⟩
     · try dsimp only
       exact (by rw [cnt_big64 x (by omega)] at hl; simpa using hl)
     · exact H.sub (.cons_cons _ (List.nil_sublist _))
   · show (x / 128).toNat < x.toNat; rw [div128]; omega
  ·
   repeat refine c_seq ?_
   refine c_no (by exact congrArg Value.bool (decide_eq_false hc4)) ?_; refine c_exit ?_; repeat refine c_seq ?_
   refine c_region ?_; refine l_op (o_val r_mv ?_); refine l_op (o_val r_mv ?_); refine l_op (o_val (r_conv Try.underlying91 Try.underlying5 rfl (w_u8_64 _)) ?_); refine l_op (o_bslB ([x.toUInt8]) H sl32 zc5 rfl rfl (by decide) (fun b8 w H hb8 => ?_)); replace H : Hp _ w _ ([_, .own (some b8) 1 1 (([x.toUInt8]).map V8) 5 1]) := H
   refine l_op (o_appB (s := ⟨hd (some b8), 1, 1, [x.toUInt8]⟩) (l' := l ++ ([x.toUInt8])) (len' := (l ++ ([x.toUInt8])).length) rfl (by rw [List.length_append]; rfl) H (i := 0) rfl sl32 Try.underlying32 rfl rfl (H.slOwn (i := 1) rfl) (by rw [List.length_append, List.length_singleton]; omega) (fun a9 c10 w H => ?_)); replace H : Hp _ w _ ([.own a9 ((l ++ ([x.toUInt8])).length) c10 ((l ++ ([x.toUInt8])).map V8) 5 1, _]) := H
   refine l_op (o_val r_as ?_); first | refine l_end ?_ | refine l_nil ?_
   refine c_ret ?_; try dsimp only [Exit.then, Exit.inBlock]
   refine e_ret1 (v := .slice (hd a9) ((l ++ ([x.toUInt8])).length) c10) Try.results55 rfl ?_
   refine ⟨_, rfl, ?_⟩
   have e : l ++ [x.toUInt8] = s.l ++ cnt u.toNat := by rw [← hl, cnt_one64 x (by omega)]
   rw [e] at H
   rw [e]
   exact ⟨_, _, rfl, H.sub (.cons_cons _ (List.nil_sublist _))⟩
theorem text1_ret (w0 : World) (s u : Sl) (hs : s.ok w0) (hu : u.ok w0) (hm : s.len ≤ 1048566) (hn : u.len ≤ 65536) :
    Ret Try.prog 56 [s.v, u.v] w0 fun v w' => ∃ a c, v = .tuple #[.slice (hd a) ((s.l ++ cnt u.l.length) ++ u.l).length c, VI 0] ∧ Hp w0 w' [] [.own a ((s.l ++ cnt u.l.length) ++ u.l).length c (((s.l ++ cnt u.l.length) ++ u.l).map V8) 5 1] := by
  refine ret_mk Try.func56 rfl Try.ntmps56 (by simp) ?_
  have H := Hp.refl w0 []
  have hsl := hs.ln
  have hul := hu.ln
  repeat refine c_seq ?_
  refine c_region ?_; refine l_op (o_val r_as ?_); refine l_op (o_val r_as ?_); first | refine l_end ?_ | refine l_nil ?_
  repeat refine c_seq ?_
  refine c_region ?_; refine l_op (o_val r_mv ?_); refine l_op (o_val (r_lens el32 rfl) ?_); refine l_op (o_val (r_bin (a := (u.len : Int)) (b := 65536) rfl rfl (fun _ => b_gtrB false (decide_eq_false (by omega)))) ?_); first | refine l_end ?_ | refine l_nil ?_
  repeat refine c_seq ?_
  refine c_no rfl ?_; refine c_skip ?_; repeat refine c_seq ?_
  refine c_region ?_; refine l_op (o_val r_mv ?_); refine l_op (o_val r_mv ?_); refine l_op (o_val (r_lens el32 rfl) ?_); refine l_op (o_val (r_conv (v := ((UInt64.ofNat u.len).toNat : Int)) Try.underlying3 Try.underlying91 rfl (w_u64_N u.len (by omega))) ?_); refine l_op (o_callR Try.func55 rfl rfl rfl (count1_ret _ s (hs.up H (fun _ => apart_nil _)) (UInt64.ofNat u.len) (by (try simp only [List.length_cons, List.length_nil]); omega)) ?_); rintro _ w ⟨a1, c2, rfl, Hc⟩
  replace H : Hp _ w _ ([.own a1 ((s.l ++ cnt (UInt64.ofNat u.len).toNat).length) c2 (((s.l ++ cnt (UInt64.ofNat u.len).toNat)).map V8) 5 1]) := H.call Hc
  clear Hc
  have a1n := len_cnt s.l (UInt64.ofNat u.len).toNat (UInt64.toNat_lt _)
  refine l_op (o_val r_mv ?_); refine l_op (o_appB (s := u) (l' := (s.l ++ cnt (UInt64.ofNat u.len).toNat) ++ u.l) (len' := (s.l ++ cnt (UInt64.ofNat u.len).toNat).length + u.len) rfl rfl H (i := 0) rfl sl32 Try.underlying32 rfl rfl (hu.up H (fun _ => apart_nil _)) (by omega) (fun a3 c4 w H => ?_)); replace H : Hp _ w _ ([.own a3 ((s.l ++ cnt (UInt64.ofNat u.len).toNat).length + u.len) c4 (((s.l ++ cnt (UInt64.ofNat u.len).toNat) ++ u.l).map V8) 5 1]) := H
  refine l_op (o_val r_as ?_); refine l_op (o_val r_as ?_); first | refine l_end ?_ | refine l_nil ?_
  refine c_ret ?_; try dsimp only [Exit.then, Exit.inBlock]
  refine e_retN (vs := [.slice (hd a3) ((s.l ++ cnt (UInt64.ofNat u.len).toNat).length + u.len) c4, VI 0]) _ Try.results56 rfl (resT (v := .slice (hd a3) ((s.l ++ cnt (UInt64.ofNat u.len).toNat).length + u.len) c4) rfl (resT (v := VI 0) rfl (resZ))) ?_
  refine ⟨_, rfl, ?_⟩
  have e : (s.l ++ cnt (UInt64.ofNat u.len).toNat) ++ u.l = (s.l ++ cnt u.l.length) ++ u.l := by rw [ofNat_nat _ (by omega), hul]
  have e2 : (s.l ++ cnt (UInt64.ofNat u.len).toNat).length + u.len = ((s.l ++ cnt u.l.length) ++ u.l).length := by rw [← e]; simp only [List.length_append]; omega
  rw [e, e2] at H
  rw [e2]
  exact ⟨_, _, rfl, H.sub (.cons_cons _ (List.nil_sublist _))⟩
theorem all_getD {s : List UInt8} (h : ∀ j, j < s.length → s.getD j 0 ≠ 47 ∧ s.getD j 0 ≠ 0) : ∀ c ∈ s, c ≠ 47 ∧ c ≠ 0 := fun c hc => by
  obtain ⟨j, hj, e⟩ := List.mem_iff_getElem.1 hc
  have := h j hj
  rw [List.getD_eq_getElem?_getD, List.getElem?_eq_getElem hj, Option.getD_some, e] at this
  exact this
theorem getD_mem {s : List UInt8} {i : Nat} (h : i < s.length) : s.getD i 0 ∈ s := by
  rw [List.getD_eq_getElem?_getD, List.getElem?_eq_getElem h]; exact List.getElem_mem h
theorem mayName15_ret (w0 : World) (s : List UInt8) (hl : s.length ≤ 1099511627776) :
    Ret Try.prog 68 [.string ⟨(s).toArray⟩] w0 fun v w' => v = .bool (decide (NameOk s)) ∧ w' = w0 := by
  refine ret_mk Try.func68 rfl Try.ntmps68 (by simp) ?_
  have H := Hp.refl w0 []
  repeat refine c_seq ?_
  refine c_region ?_; refine l_op (o_val r_as ?_); first | refine l_end ?_ | refine l_nil ?_
  repeat refine c_seq ?_
  refine c_region ?_; refine l_op (o_val r_as ?_); first | refine l_end ?_ | refine l_nil ?_
  repeat refine c_seq ?_
  refine c_block ?_; repeat refine c_seq ?_
  refine c_loop (fun (i : Nat) => [(0, .string ⟨(s).toArray⟩), (3, VI (i : Int))])
    (fun (i : Nat) w => (w = w0 ∧ i ≤ s.length ∧ ∀ j, j < i → s.getD j 0 ≠ 47 ∧ s.getD j 0 ≠ 0) ∧ Hp w0 w [] ([]))
    (fun (i : Nat) => s.length - i) 0 ⟨rfl, rfl, trivial⟩ ⟨⟨rfl, Nat.zero_le _, fun j hj => absurd hj (by omega)⟩, H⟩ ?_
  clear H
  rintro i τ w ⟨⟨hw0, hil, hinv⟩, H⟩
  repeat refine c_seq ?_
  refine c_region ?_; refine l_op (o_val r_mv ?_); refine l_op (o_val r_mv ?_); refine l_op (o_val (r_lenstr (s := ⟨(s).toArray⟩) Try.underlying9 rfl) ?_); refine l_op (o_val (r_bin (a := (i : Int)) (b := ((s).length : Int)) rfl rfl (fun _ => b_lss)) ?_); first | refine l_end ?_ | refine l_nil ?_
  by_cases hc1 : (i : Int) < ((s).length : Int)
  ·
   repeat refine c_seq ?_
   refine c_yes (by exact congrArg Value.bool (decide_eq_true hc1)) ?_; refine c_skip ?_; repeat refine c_seq ?_
   refine c_block ?_; repeat refine c_seq ?_
   refine c_region ?_; refine l_op (o_val r_mv ?_); refine l_op (o_val r_mv ?_); refine l_op (o_val (r_idxS (l := s) i Try.underlying9 rfl rfl (by omega) (by omega)) ?_); refine l_op (o_val (r_bin (a := (((s).getD i 0).toNat : Int)) (b := 47) rfl rfl (fun _ => b_eql)) ?_); refine l_op (o_val r_mv ?_)
   by_cases hc2 : (((s).getD i 0).toNat : Int) = 47
   ·
    refine l_no rfl rfl (by exact congrArg Value.bool (decide_eq_true hc2)) rfl ?_; refine l_no rfl rfl (by exact congrArg Value.bool (decide_eq_true hc2)) rfl ?_; refine l_no rfl rfl (by exact congrArg Value.bool (decide_eq_true hc2)) rfl ?_; refine l_no rfl rfl (by exact congrArg Value.bool (decide_eq_true hc2)) rfl ?_; refine l_op (o_val (r_pick (b := true) (congrArg Value.bool (decide_eq_true hc2))) ?_); first | refine l_end ?_ | refine l_nil ?_
    repeat refine c_seq ?_
    refine c_yes rfl ?_; repeat refine c_seq ?_
    refine c_region ?_; refine l_op (o_val r_as ?_); first | refine l_end ?_ | refine l_nil ?_
    refine c_ret ?_; try dsimp only [Exit.then, Exit.inBlock]
    refine e_ret1 (v := .bool false) Try.results68 rfl ?_
    refine ⟨_, rfl, ?_⟩
    exact ⟨congrArg Value.bool (decide_eq_false (fun h : NameOk s => by obtain ⟨h1, h2, h3, h4, h5⟩ := h; first | omega | contradiction | (have := h1 _ (getD_mem (i := i) (by omega)); have e1 := this.1; have e2 := this.2; first | exact e1 (UInt8.toNat_inj.1 (by show _ = 47; omega)) | exact e2 (UInt8.toNat_inj.1 (by show _ = 0; omega))))).symm, hw0⟩
   ·
    refine l_yes rfl rfl (by exact congrArg Value.bool (decide_eq_false hc2)) (o_val r_mv ?_); refine l_yes rfl rfl (by exact congrArg Value.bool (decide_eq_false hc2)) (o_val r_mv ?_); refine l_yes rfl rfl (by exact congrArg Value.bool (decide_eq_false hc2)) (o_val (r_idxS (l := s) i Try.underlying9 rfl rfl (by omega) (by omega)) ?_); refine l_yes rfl rfl (by exact congrArg Value.bool (decide_eq_false hc2)) (o_val (r_bin (a := (((s).getD i 0).toNat : Int)) (b := 0) rfl rfl (fun _ => b_eql)) ?_); refine l_op (o_val (r_pick (b := false) (congrArg Value.bool (decide_eq_false hc2))) ?_); first | refine l_end ?_ | refine l_nil ?_
    by_cases hc3 : (((s).getD i 0).toNat : Int) = 0
    ·
     repeat refine c_seq ?_
     refine c_yes (by exact congrArg Value.bool (decide_eq_true hc3)) ?_; repeat refine c_seq ?_
     refine c_region ?_; refine l_op (o_val r_as ?_); first | refine l_end ?_ | refine l_nil ?_
     refine c_ret ?_; try dsimp only [Exit.then, Exit.inBlock]
     refine e_ret1 (v := .bool false) Try.results68 rfl ?_
     refine ⟨_, rfl, ?_⟩
     exact ⟨congrArg Value.bool (decide_eq_false (fun h : NameOk s => by obtain ⟨h1, h2, h3, h4, h5⟩ := h; first | omega | contradiction | (have := h1 _ (getD_mem (i := i) (by omega)); have e1 := this.1; have e2 := this.2; first | exact e1 (UInt8.toNat_inj.1 (by show _ = 47; omega)) | exact e2 (UInt8.toNat_inj.1 (by show _ = 0; omega))))).symm, hw0⟩
    ·
     repeat refine c_seq ?_
     refine c_no (by exact congrArg Value.bool (decide_eq_false hc3)) ?_; refine c_skip ?_; repeat refine c_seq ?_
     refine c_region ?_; refine l_op (o_val r_mv ?_); refine l_op (o_val (r_bin (a := (i : Int)) (b := 1) rfl rfl (fun _ => b_add (by omega) (by omega))) ?_); refine l_op (o_val r_as ?_); first | refine l_end ?_ | refine l_nil ?_
     have hat : s.getD i 0 ≠ 47 ∧ s.getD i 0 ≠ 0 := ⟨fun h => (by have := congrArg UInt8.toNat h; rw [show (47 : UInt8).toNat = 47 from rfl] at this; omega), fun h => (by have := congrArg UInt8.toNat h; rw [show (0 : UInt8).toNat = 0 from rfl] at this; omega)⟩
     refine round_end (i + 1) ?_ ?_ ?_
     · exact ⟨rfl, show VI ((i : Int) + 1) = VI ((i + 1 : Nat) : Int) from congrArg VI (by omega), trivial⟩
     · refine ⟨?_, ?_⟩
       · try dsimp only
         exact ⟨hw0, by omega, fun j hj => (Nat.lt_or_ge j i).elim (hinv j) (fun h => (show i = j by omega) ▸ hat)⟩
       · exact H
     · show s.length - (i + 1 : Nat) < s.length - i; omega
  ·
   repeat refine c_seq ?_
   refine c_no (by exact congrArg Value.bool (decide_eq_false hc1)) ?_; refine c_exit ?_; repeat refine c_seq ?_
   refine c_region ?_; refine l_op (o_val r_mv ?_); refine l_op (o_val (r_lenstr (s := ⟨(s).toArray⟩) Try.underlying9 rfl) ?_); refine l_op (o_val (r_bin (a := ((s).length : Int)) (b := 1) rfl rfl (fun _ => b_geq)) ?_); refine l_op (o_val r_mv ?_)
   by_cases hc4 : 1 ≤ ((s).length : Int)
   ·
    refine l_yes rfl rfl (by exact congrArg Value.bool (decide_eq_true hc4)) (o_val r_mv ?_); refine l_yes rfl rfl (by exact congrArg Value.bool (decide_eq_true hc4)) (o_val (r_lenstr (s := ⟨(s).toArray⟩) Try.underlying9 rfl) ?_); refine l_yes rfl rfl (by exact congrArg Value.bool (decide_eq_true hc4)) (o_val (r_bin (a := ((s).length : Int)) (b := 64) rfl rfl (fun _ => b_leq)) ?_); refine l_op (o_val (r_pick (b := true) (congrArg Value.bool (decide_eq_true hc4))) ?_); refine l_op (o_val r_mv ?_)
    by_cases hc5 : ((s).length : Int) ≤ 64
    ·
     refine l_yes rfl rfl (by exact congrArg Value.bool (decide_eq_true hc5)) (o_val r_mv ?_); refine l_yes rfl rfl (by exact congrArg Value.bool (decide_eq_true hc5)) (o_val (r_strne (a := s) (b := ([46] : List UInt8)) rfl rfl) ?_); refine l_op (o_val (r_pick (b := true) (congrArg Value.bool (decide_eq_true hc5))) ?_); refine l_op (o_val r_mv ?_)
     by_cases hc6 : s = ([46] : List UInt8)
     ·
      refine l_no rfl rfl (by exact congrArg Value.bool (congrArg not (decide_eq_true hc6))) rfl ?_; refine l_no rfl rfl (by exact congrArg Value.bool (congrArg not (decide_eq_true hc6))) rfl ?_; refine l_op (o_val (r_pick (b := false) (congrArg Value.bool (congrArg not (decide_eq_true hc6)))) ?_); refine l_op (o_val r_as ?_); first | refine l_end ?_ | refine l_nil ?_
      refine c_ret ?_; try dsimp only [Exit.then, Exit.inBlock]
      refine e_ret1 (v := .bool false) Try.results68 rfl ?_
      refine ⟨_, rfl, ?_⟩
      exact ⟨congrArg Value.bool (decide_eq_false (fun h : NameOk s => by obtain ⟨h1, h2, h3, h4, h5⟩ := h; first | omega | contradiction | (have := h1 _ (getD_mem (i := i) (by omega)); have e1 := this.1; have e2 := this.2; first | exact e1 (UInt8.toNat_inj.1 (by show _ = 47; omega)) | exact e2 (UInt8.toNat_inj.1 (by show _ = 0; omega))))).symm, hw0⟩
     ·
      refine l_yes rfl rfl (by exact congrArg Value.bool (congrArg not (decide_eq_false hc6))) (o_val r_mv ?_); refine l_yes rfl rfl (by exact congrArg Value.bool (congrArg not (decide_eq_false hc6))) (o_val (r_strne (a := s) (b := ([46,46] : List UInt8)) rfl rfl) ?_); refine l_op (o_val (r_pick (b := true) (congrArg Value.bool (congrArg not (decide_eq_false hc6)))) ?_); refine l_op (o_val r_as ?_); first | refine l_end ?_ | refine l_nil ?_
      refine c_ret ?_; try dsimp only [Exit.then, Exit.inBlock]
      refine e_ret1 (v := .bool (!(decide (s = ([46,46] : List UInt8))))) Try.results68 rfl ?_
      refine ⟨_, rfl, ?_⟩
      have e : (!(decide (s = ([46,46] : List UInt8)))) = decide (NameOk s) := by
        rw [Bool.eq_iff_iff]; simp only [Bool.not_eq_true', decide_eq_false_iff_not, decide_eq_true_eq]
        exact ⟨fun h0 => ⟨all_getD (fun j hj => hinv j (by omega)), by omega, by omega, by assumption, h0⟩, fun h => h.2.2.2.2⟩
      exact ⟨congrArg Value.bool e, hw0⟩
    ·
     refine l_no rfl rfl (by exact congrArg Value.bool (decide_eq_false hc5)) rfl ?_; refine l_no rfl rfl (by exact congrArg Value.bool (decide_eq_false hc5)) rfl ?_; refine l_op (o_val (r_pick (b := false) (congrArg Value.bool (decide_eq_false hc5))) ?_); refine l_op (o_val r_mv ?_); refine l_no rfl rfl rfl rfl ?_; refine l_no rfl rfl rfl rfl ?_; refine l_op (o_val (r_pick rfl) ?_); refine l_op (o_val r_as ?_); first | refine l_end ?_ | refine l_nil ?_
     refine c_ret ?_; try dsimp only [Exit.then, Exit.inBlock]
     refine e_ret1 (v := .bool false) Try.results68 rfl ?_
     refine ⟨_, rfl, ?_⟩
     exact ⟨congrArg Value.bool (decide_eq_false (fun h : NameOk s => by obtain ⟨h1, h2, h3, h4, h5⟩ := h; first | omega | contradiction | (have := h1 _ (getD_mem (i := i) (by omega)); have e1 := this.1; have e2 := this.2; first | exact e1 (UInt8.toNat_inj.1 (by show _ = 47; omega)) | exact e2 (UInt8.toNat_inj.1 (by show _ = 0; omega))))).symm, hw0⟩
   ·
    refine l_no rfl rfl (by exact congrArg Value.bool (decide_eq_false hc4)) rfl ?_; refine l_no rfl rfl (by exact congrArg Value.bool (decide_eq_false hc4)) rfl ?_; refine l_no rfl rfl (by exact congrArg Value.bool (decide_eq_false hc4)) rfl ?_; refine l_op (o_val (r_pick (b := false) (congrArg Value.bool (decide_eq_false hc4))) ?_); refine l_op (o_val r_mv ?_); refine l_no rfl rfl rfl rfl ?_; refine l_no rfl rfl rfl rfl ?_; refine l_op (o_val (r_pick rfl) ?_); refine l_op (o_val r_mv ?_); refine l_no rfl rfl rfl rfl ?_; refine l_no rfl rfl rfl rfl ?_; refine l_op (o_val (r_pick rfl) ?_); refine l_op (o_val r_as ?_); first | refine l_end ?_ | refine l_nil ?_
    refine c_ret ?_; try dsimp only [Exit.then, Exit.inBlock]
    refine e_ret1 (v := .bool false) Try.results68 rfl ?_
    refine ⟨_, rfl, ?_⟩
    exact ⟨congrArg Value.bool (decide_eq_false (fun h : NameOk s => by obtain ⟨h1, h2, h3, h4, h5⟩ := h; first | omega | contradiction | (have := h1 _ (getD_mem (i := i) (by omega)); have e1 := this.1; have e2 := this.2; first | exact e1 (UInt8.toNat_inj.1 (by show _ = 47; omega)) | exact e2 (UInt8.toNat_inj.1 (by show _ = 0; omega))))).symm, hw0⟩
theorem fmay15_ret (w0 : World) (g : Gl It) (hg : g.ok itE 35 w0) (hnm : ∀ x ∈ g.l, x.name.length ≤ 65536) :
    Ret Try.prog 54 [g.v] w0 fun v w' => ∃ b, v = .bool b ∧ (b = true ↔ MayB g.l) ∧ Hp w0 w' [] [] := by
  refine ret_mk Try.func54 rfl Try.ntmps54 (by simp) ?_
  have H := Hp.refl w0 []
  have hgl := hg.ln
  repeat refine c_seq ?_
  refine c_region ?_; refine l_op (o_val r_as ?_); first | refine l_end ?_ | refine l_nil ?_
  repeat refine c_seq ?_
  refine c_region ?_; refine l_op (o_val r_mv ?_); refine l_op (o_val (r_lens el52 rfl) ?_); refine l_op (o_val (r_bin (a := (g.len : Int)) (b := 64) rfl rfl (fun _ => b_gtr)) ?_); first | refine l_end ?_ | refine l_nil ?_
  by_cases hc1 : 64 < (g.len : Int)
  ·
   repeat refine c_seq ?_
   refine c_yes (by exact congrArg Value.bool (decide_eq_true hc1)) ?_; repeat refine c_seq ?_
   refine c_region ?_; refine l_op (o_val r_as ?_); first | refine l_end ?_ | refine l_nil ?_
   refine c_ret ?_; try dsimp only [Exit.then, Exit.inBlock]
   refine e_ret1 (v := .bool false) Try.results54 rfl ?_
   refine ⟨_, rfl, ?_⟩
   exact ⟨false, rfl, ⟨fun h => (by cases h), fun h => absurd h.1 (by omega)⟩, H⟩
  ·
   repeat refine c_seq ?_
   refine c_no (by exact congrArg Value.bool (decide_eq_false hc1)) ?_; refine c_skip ?_; repeat refine c_seq ?_
   refine c_region ?_; refine l_op (o_val r_as ?_); first | refine l_end ?_ | refine l_nil ?_
   repeat refine c_seq ?_
   refine c_block ?_; repeat refine c_seq ?_
   refine c_loop (fun (i : Nat) => [(0, g.v), (3, VI (i : Int))])
     (fun (i : Nat) w => (i ≤ g.len ∧ ∀ j, j < i → mayAt g.l j) ∧ Hp w0 w [] ([]))
     (fun (i : Nat) => g.len - i) 0 ⟨rfl, rfl, trivial⟩ ⟨⟨by omega, fun j hj => absurd hj (by omega)⟩, H⟩ ?_
   clear H
   rintro i τ w ⟨⟨hil, hinv⟩, H⟩
   repeat refine c_seq ?_
   refine c_region ?_; refine l_op (o_val r_mv ?_); refine l_op (o_val r_mv ?_); refine l_op (o_val (r_lens el52 rfl) ?_); refine l_op (o_val (r_bin (a := (i : Int)) (b := (g.len : Int)) rfl rfl (fun _ => b_lss)) ?_); first | refine l_end ?_ | refine l_nil ?_
   by_cases hc2 : (i : Int) < (g.len : Int)
   ·
    repeat refine c_seq ?_
    refine c_yes (by exact congrArg Value.bool (decide_eq_true hc2)) ?_; refine c_skip ?_; repeat refine c_seq ?_
    refine c_block ?_; repeat refine c_seq ?_
    refine c_region ?_; refine l_op (o_val r_mv ?_); refine l_op (o_val r_mv ?_); have ah5 := ((hg.up H)).addr (by decide) (by first | omega | (dsimp only; omega))
    obtain ⟨ab3, ao4, ah5⟩ := ah5
    refine l_op (o_val (r_isN i rfl rfl el52 ah5 (by omega) (by (try simp only [Sl.cut]); omega)) ?_); have he7 : ∃ c, g.l[i]? = some c := ⟨_, List.getElem?_eq_getElem (by have := ((hg.up H)).ln; (try dsimp only at this ⊢); omega)⟩
    obtain ⟨e6, he7⟩ := he7
    have hez8 := ((hg.up H)).sz e6 (List.mem_of_getElem? he7)
    have he7n := hnm e6 (List.mem_of_getElem? he7)
    refine l_op (o_val (r_ldRow (s := g) (k := i) (hg.up H) ah5 rfl rt54 (by decide) he7) ?_); refine l_op (o_alloc H zc54 (fun b9 w H hb9 => ?_)); replace H : Hp _ w _ ([.blk b9 (([.string ⟨(([] : List UInt8)).toArray⟩, VI 0] : List Value) ++ ((List.replicate 32 (0 : UInt8)).map V8 ++ (([VI 0] : List Value)))) 54]) := H
    refine l_op (o_stW (C' := ([.string ⟨(e6.name).toArray⟩, VI e6.kind] : List Value) ++ ((e6.of.1).map V8 ++ (([VI e6.size] : List Value)))) H (i := 0) rfl rfl rfl cs54 (by first | (simp [Value.oneCell', List.all_append, List.all_map]; done) | (simp only [List.all_append, List.all_cons, List.all_nil, List.all_map]; simp [Value.oneCell', Function.comp_def])) (by simp only [List.length_append, List.length_map, List.length_cons, List.length_nil, (show (List.replicate 32 (0 : UInt8)).length = 32 from (List.length_replicate ..))]) (by simp only [List.length_append, List.length_map, List.length_cons, List.length_nil, (show (e6.of.1).length = 32 from e6.of.2)]) (fun w H => ?_)); replace H : Hp _ w _ ([.blk b9 (([.string ⟨(e6.name).toArray⟩, VI e6.kind] : List Value) ++ ((e6.of.1).map V8 ++ (([VI e6.size] : List Value)))) 54]) := H
    first | refine l_end ?_ | refine l_nil ?_
    repeat refine c_seq ?_
    refine c_still mixed (by kernel_rfl) ?_; replace H := H.drew
    refine s_op (r_fa rfl fo54_0) ?_; refine s_op (r_l1 (v := .string ⟨(e6.name).toArray⟩) H (i := 0) rfl rfl ct9 (show Cut3 (([.string ⟨(e6.name).toArray⟩, VI e6.kind] : List Value) ++ ((e6.of.1).map V8 ++ (([VI e6.size] : List Value)))) (([] : List Value)) (([.string ⟨(e6.name).toArray⟩] : List Value)) (([VI e6.kind] : List Value) ++ ((e6.of.1).map V8 ++ (([VI e6.size] : List Value)))) 0 1 from ⟨(show ([.string ⟨(e6.name).toArray⟩, VI e6.kind] : List Value) ++ ((e6.of.1).map V8 ++ (([VI e6.size] : List Value))) = ([] : List Value) ++ ((([.string ⟨(e6.name).toArray⟩] : List Value)) ++ (([VI e6.kind] : List Value) ++ ((e6.of.1).map V8 ++ (([VI e6.size] : List Value))))) from by simp only [List.cons_append, List.nil_append]), (by rfl), (by rfl)⟩)) ?_; refine s_call Try.func68 rfl rfl rfl (mayName15_ret _ (e6.name) (by omega)) ?_
    refine s_op (r_not rfl) ?_; refine s_op (r_mv) ?_
    by_cases hc10 : NameOk (e6.name)
    ·
     refine s_yes rfl rfl (by exact congrArg Value.bool (congrArg not (decide_eq_true hc10))) (r_fa rfl fo54_1) ?_; refine s_yes rfl rfl (by exact congrArg Value.bool (congrArg not (decide_eq_true hc10))) (r_l1 (v := VI e6.kind) H (i := 0) rfl rfl ct3 (show Cut3 (([.string ⟨(e6.name).toArray⟩, VI e6.kind] : List Value) ++ ((e6.of.1).map V8 ++ (([VI e6.size] : List Value)))) (([.string ⟨(e6.name).toArray⟩] : List Value)) (([VI e6.kind] : List Value)) ((e6.of.1).map V8 ++ (([VI e6.size] : List Value))) 1 1 from ⟨(show ([.string ⟨(e6.name).toArray⟩, VI e6.kind] : List Value) ++ ((e6.of.1).map V8 ++ (([VI e6.size] : List Value))) = ([.string ⟨(e6.name).toArray⟩] : List Value) ++ ((([VI e6.kind] : List Value)) ++ ((e6.of.1).map V8 ++ (([VI e6.size] : List Value)))) from by simp only [List.cons_append, List.nil_append]), (by rfl), (by rfl)⟩)) ?_; refine s_yes rfl rfl (by exact congrArg Value.bool (congrArg not (decide_eq_true hc10))) (r_bin (a := e6.kind) (b := 1) rfl rfl (fun _ => b_lss)) ?_; refine s_op (r_pick (b := false) (congrArg Value.bool (congrArg not (decide_eq_true hc10)))) ?_; refine s_op (r_mv) ?_
     by_cases hc11 : e6.kind < 1
     ·
      refine s_no rfl rfl (by exact congrArg Value.bool (decide_eq_true hc11)) rfl ?_; refine s_no rfl rfl (by exact congrArg Value.bool (decide_eq_true hc11)) rfl ?_; refine s_no rfl rfl (by exact congrArg Value.bool (decide_eq_true hc11)) rfl ?_; refine s_op (r_pick (b := true) (congrArg Value.bool (decide_eq_true hc11))) ?_; refine s_op (r_mv) ?_; refine s_no rfl rfl rfl rfl ?_; refine s_no rfl rfl rfl rfl ?_; refine s_no rfl rfl rfl rfl ?_; refine s_op (r_pick rfl) ?_; refine s_op (r_mv) ?_; refine s_no rfl rfl rfl rfl ?_; refine s_no rfl rfl rfl rfl ?_; refine s_no rfl rfl rfl rfl ?_; refine s_no rfl rfl rfl rfl ?_; refine s_non rfl rfl rfl ?_; refine s_non rfl rfl rfl ?_; refine s_non rfl rfl rfl ?_; refine s_no rfl rfl rfl rfl ?_; refine s_op (r_pick rfl) ?_; refine s_op (r_mv) ?_; refine s_no rfl rfl rfl rfl ?_; refine s_no rfl rfl rfl rfl ?_; refine s_no rfl rfl rfl rfl ?_; refine s_non rfl rfl rfl ?_; refine s_non rfl rfl rfl ?_; refine s_non rfl rfl rfl ?_; refine s_non rfl rfl rfl ?_; refine s_non rfl rfl rfl ?_; refine s_non rfl rfl rfl ?_; refine s_non rfl rfl rfl ?_; refine s_non rfl rfl rfl ?_; refine s_non rfl rfl rfl ?_; refine s_no rfl rfl rfl rfl ?_; refine s_op (r_pick rfl) ?_; refine s_nil ?_; repeat refine c_seq ?_
      refine c_yes rfl ?_; repeat refine c_seq ?_
      refine c_region ?_; refine l_op (o_val r_as ?_); first | refine l_end ?_ | refine l_nil ?_
      refine c_ret ?_; try dsimp only [Exit.then, Exit.inBlock]
      refine e_ret1 (v := .bool false) Try.results54 rfl ?_
      refine ⟨_, rfl, ?_⟩
      refine ⟨false, rfl, ⟨fun h => (by cases h), fun h => ?_⟩, H.sub (List.nil_sublist _)⟩
      have hm := h.2 i (by omega) e6 he7
      obtain ⟨⟨h1, h2, h3⟩, h4⟩ := hm
      first
        | omega
        | contradiction
        | skip
     ·
      refine s_yes rfl rfl (by exact congrArg Value.bool (decide_eq_false hc11)) (r_fa rfl fo54_1) ?_; refine s_yes rfl rfl (by exact congrArg Value.bool (decide_eq_false hc11)) (r_l1 (v := VI e6.kind) H (i := 0) rfl rfl ct3 (show Cut3 (([.string ⟨(e6.name).toArray⟩, VI e6.kind] : List Value) ++ ((e6.of.1).map V8 ++ (([VI e6.size] : List Value)))) (([.string ⟨(e6.name).toArray⟩] : List Value)) (([VI e6.kind] : List Value)) ((e6.of.1).map V8 ++ (([VI e6.size] : List Value))) 1 1 from ⟨(show ([.string ⟨(e6.name).toArray⟩, VI e6.kind] : List Value) ++ ((e6.of.1).map V8 ++ (([VI e6.size] : List Value))) = ([.string ⟨(e6.name).toArray⟩] : List Value) ++ ((([VI e6.kind] : List Value)) ++ ((e6.of.1).map V8 ++ (([VI e6.size] : List Value)))) from by simp only [List.cons_append, List.nil_append]), (by rfl), (by rfl)⟩)) ?_; refine s_yes rfl rfl (by exact congrArg Value.bool (decide_eq_false hc11)) (r_bin (a := e6.kind) (b := 2) rfl rfl (fun _ => b_gtr)) ?_; refine s_op (r_pick (b := false) (congrArg Value.bool (decide_eq_false hc11))) ?_; refine s_op (r_mv) ?_
      by_cases hc12 : 2 < e6.kind
      ·
       refine s_no rfl rfl (by exact congrArg Value.bool (decide_eq_true hc12)) rfl ?_; refine s_no rfl rfl (by exact congrArg Value.bool (decide_eq_true hc12)) rfl ?_; refine s_no rfl rfl (by exact congrArg Value.bool (decide_eq_true hc12)) rfl ?_; refine s_op (r_pick (b := true) (congrArg Value.bool (decide_eq_true hc12))) ?_; refine s_op (r_mv) ?_; refine s_no rfl rfl rfl rfl ?_; refine s_no rfl rfl rfl rfl ?_; refine s_no rfl rfl rfl rfl ?_; refine s_no rfl rfl rfl rfl ?_; refine s_non rfl rfl rfl ?_; refine s_non rfl rfl rfl ?_; refine s_non rfl rfl rfl ?_; refine s_no rfl rfl rfl rfl ?_; refine s_op (r_pick rfl) ?_; refine s_op (r_mv) ?_; refine s_no rfl rfl rfl rfl ?_; refine s_no rfl rfl rfl rfl ?_; refine s_no rfl rfl rfl rfl ?_; refine s_non rfl rfl rfl ?_; refine s_non rfl rfl rfl ?_; refine s_non rfl rfl rfl ?_; refine s_non rfl rfl rfl ?_; refine s_non rfl rfl rfl ?_; refine s_non rfl rfl rfl ?_; refine s_non rfl rfl rfl ?_; refine s_non rfl rfl rfl ?_; refine s_non rfl rfl rfl ?_; refine s_no rfl rfl rfl rfl ?_; refine s_op (r_pick rfl) ?_; refine s_nil ?_; repeat refine c_seq ?_
       refine c_yes rfl ?_; repeat refine c_seq ?_
       refine c_region ?_; refine l_op (o_val r_as ?_); first | refine l_end ?_ | refine l_nil ?_
       refine c_ret ?_; try dsimp only [Exit.then, Exit.inBlock]
       refine e_ret1 (v := .bool false) Try.results54 rfl ?_
       refine ⟨_, rfl, ?_⟩
       refine ⟨false, rfl, ⟨fun h => (by cases h), fun h => ?_⟩, H.sub (List.nil_sublist _)⟩
       have hm := h.2 i (by omega) e6 he7
       obtain ⟨⟨h1, h2, h3⟩, h4⟩ := hm
       first
         | omega
         | contradiction
         | skip
      ·
       refine s_yes rfl rfl (by exact congrArg Value.bool (decide_eq_false hc12)) (r_fa rfl fo54_3) ?_; refine s_yes rfl rfl (by exact congrArg Value.bool (decide_eq_false hc12)) (r_l1 (v := VI e6.size) H (i := 0) rfl rfl ct2 (show Cut3 (([.string ⟨(e6.name).toArray⟩, VI e6.kind] : List Value) ++ ((e6.of.1).map V8 ++ (([VI e6.size] : List Value)))) (([.string ⟨(e6.name).toArray⟩, VI e6.kind] : List Value) ++ ((e6.of.1).map V8)) (([VI e6.size] : List Value)) (([] : List Value)) 34 1 from ⟨(show ([.string ⟨(e6.name).toArray⟩, VI e6.kind] : List Value) ++ ((e6.of.1).map V8 ++ (([VI e6.size] : List Value))) = (([.string ⟨(e6.name).toArray⟩, VI e6.kind] : List Value) ++ ((e6.of.1).map V8)) ++ ((([VI e6.size] : List Value)) ++ (([] : List Value))) from by simp only [List.cons_append, List.nil_append]), (by simp only [List.length_append, List.length_map, List.length_cons, List.length_nil, (show (e6.of.1).length = 32 from e6.of.2)]), (by rfl)⟩)) ?_; refine s_yes rfl rfl (by exact congrArg Value.bool (decide_eq_false hc12)) (r_bin (a := e6.size) (b := 0) rfl rfl (fun _ => b_lss)) ?_; refine s_op (r_pick (b := false) (congrArg Value.bool (decide_eq_false hc12))) ?_; refine s_op (r_mv) ?_
       by_cases hc13 : e6.size < 0
       ·
        refine s_no rfl rfl (by exact congrArg Value.bool (decide_eq_true hc13)) rfl ?_; refine s_no rfl rfl (by exact congrArg Value.bool (decide_eq_true hc13)) rfl ?_; refine s_no rfl rfl (by exact congrArg Value.bool (decide_eq_true hc13)) rfl ?_; refine s_no rfl rfl (by exact congrArg Value.bool (decide_eq_true hc13)) rfl ?_; refine s_non rfl rfl rfl ?_; refine s_non rfl rfl rfl ?_; refine s_non rfl rfl rfl ?_; refine s_no rfl rfl (by exact congrArg Value.bool (decide_eq_true hc13)) rfl ?_; refine s_op (r_pick (b := true) (congrArg Value.bool (decide_eq_true hc13))) ?_; refine s_op (r_mv) ?_; refine s_no rfl rfl rfl rfl ?_; refine s_no rfl rfl rfl rfl ?_; refine s_no rfl rfl rfl rfl ?_; refine s_non rfl rfl rfl ?_; refine s_non rfl rfl rfl ?_; refine s_non rfl rfl rfl ?_; refine s_non rfl rfl rfl ?_; refine s_non rfl rfl rfl ?_; refine s_non rfl rfl rfl ?_; refine s_non rfl rfl rfl ?_; refine s_non rfl rfl rfl ?_; refine s_non rfl rfl rfl ?_; refine s_no rfl rfl rfl rfl ?_; refine s_op (r_pick rfl) ?_; refine s_nil ?_; repeat refine c_seq ?_
        refine c_yes rfl ?_; repeat refine c_seq ?_
        refine c_region ?_; refine l_op (o_val r_as ?_); first | refine l_end ?_ | refine l_nil ?_
        refine c_ret ?_; try dsimp only [Exit.then, Exit.inBlock]
        refine e_ret1 (v := .bool false) Try.results54 rfl ?_
        refine ⟨_, rfl, ?_⟩
        refine ⟨false, rfl, ⟨fun h => (by cases h), fun h => ?_⟩, H.sub (List.nil_sublist _)⟩
        have hm := h.2 i (by omega) e6 he7
        obtain ⟨⟨h1, h2, h3⟩, h4⟩ := hm
        first
          | omega
          | contradiction
          | skip
       ·
        refine s_yes rfl rfl (by exact congrArg Value.bool (decide_eq_false hc13)) (r_fa rfl fo54_1) ?_; refine s_yes rfl rfl (by exact congrArg Value.bool (decide_eq_false hc13)) (r_l1 (v := VI e6.kind) H (i := 0) rfl rfl ct3 (show Cut3 (([.string ⟨(e6.name).toArray⟩, VI e6.kind] : List Value) ++ ((e6.of.1).map V8 ++ (([VI e6.size] : List Value)))) (([.string ⟨(e6.name).toArray⟩] : List Value)) (([VI e6.kind] : List Value)) ((e6.of.1).map V8 ++ (([VI e6.size] : List Value))) 1 1 from ⟨(show ([.string ⟨(e6.name).toArray⟩, VI e6.kind] : List Value) ++ ((e6.of.1).map V8 ++ (([VI e6.size] : List Value))) = ([.string ⟨(e6.name).toArray⟩] : List Value) ++ ((([VI e6.kind] : List Value)) ++ ((e6.of.1).map V8 ++ (([VI e6.size] : List Value)))) from by simp only [List.cons_append, List.nil_append]), (by rfl), (by rfl)⟩)) ?_; refine s_yes rfl rfl (by exact congrArg Value.bool (decide_eq_false hc13)) (r_bin (a := e6.kind) (b := 2) rfl rfl (fun _ => b_eql)) ?_; refine s_yes rfl rfl (by exact congrArg Value.bool (decide_eq_false hc13)) (r_mv) ?_
        by_cases hc14 : e6.kind = 2
        ·
         refine s_yes rfl rfl (by exact congrArg Value.bool (decide_eq_true hc14)) (r_fa rfl fo54_3) ?_; refine s_yes rfl rfl (by exact congrArg Value.bool (decide_eq_true hc14)) (r_l1 (v := VI e6.size) H (i := 0) rfl rfl ct2 (show Cut3 (([.string ⟨(e6.name).toArray⟩, VI e6.kind] : List Value) ++ ((e6.of.1).map V8 ++ (([VI e6.size] : List Value)))) (([.string ⟨(e6.name).toArray⟩, VI e6.kind] : List Value) ++ ((e6.of.1).map V8)) (([VI e6.size] : List Value)) (([] : List Value)) 34 1 from ⟨(show ([.string ⟨(e6.name).toArray⟩, VI e6.kind] : List Value) ++ ((e6.of.1).map V8 ++ (([VI e6.size] : List Value))) = (([.string ⟨(e6.name).toArray⟩, VI e6.kind] : List Value) ++ ((e6.of.1).map V8)) ++ ((([VI e6.size] : List Value)) ++ (([] : List Value))) from by simp only [List.cons_append, List.nil_append]), (by simp only [List.length_append, List.length_map, List.length_cons, List.length_nil, (show (e6.of.1).length = 32 from e6.of.2)]), (by rfl)⟩)) ?_; refine s_yes rfl rfl (by exact congrArg Value.bool (decide_eq_true hc14)) (r_bin (a := e6.size) (b := 0) rfl rfl (fun _ => b_neq)) ?_; refine s_yes rfl rfl (by exact congrArg Value.bool (decide_eq_false hc13)) (r_pick (b := true) (congrArg Value.bool (decide_eq_true hc14))) ?_; refine s_op (r_pick (b := false) (congrArg Value.bool (decide_eq_false hc13))) ?_; refine s_op (r_mv) ?_
         by_cases hc15 : e6.size ≠ 0
         ·
          refine s_no rfl rfl (by exact congrArg Value.bool (decide_eq_true hc15)) rfl ?_; refine s_no rfl rfl (by exact congrArg Value.bool (decide_eq_true hc15)) rfl ?_; refine s_no rfl rfl (by exact congrArg Value.bool (decide_eq_true hc15)) rfl ?_; refine s_non rfl rfl rfl ?_; refine s_non rfl rfl rfl ?_; refine s_non rfl rfl rfl ?_; refine s_non rfl rfl rfl ?_; refine s_non rfl rfl rfl ?_; refine s_non rfl rfl rfl ?_; refine s_non rfl rfl rfl ?_; refine s_non rfl rfl rfl ?_; refine s_non rfl rfl rfl ?_; refine s_no rfl rfl (by exact congrArg Value.bool (decide_eq_true hc15)) rfl ?_; refine s_op (r_pick (b := true) (congrArg Value.bool (decide_eq_true hc15))) ?_; refine s_nil ?_; repeat refine c_seq ?_
          refine c_yes rfl ?_; repeat refine c_seq ?_
          refine c_region ?_; refine l_op (o_val r_as ?_); first | refine l_end ?_ | refine l_nil ?_
          refine c_ret ?_; try dsimp only [Exit.then, Exit.inBlock]
          refine e_ret1 (v := .bool false) Try.results54 rfl ?_
          refine ⟨_, rfl, ?_⟩
          refine ⟨false, rfl, ⟨fun h => (by cases h), fun h => ?_⟩, H.sub (List.nil_sublist _)⟩
          have hm := h.2 i (by omega) e6 he7
          obtain ⟨⟨h1, h2, h3⟩, h4⟩ := hm
          first
            | omega
            | contradiction
            | skip
         ·
          refine s_yes rfl rfl (by exact congrArg Value.bool (decide_eq_false hc15)) (r_mv) ?_; refine s_yes rfl rfl (by exact congrArg Value.bool (decide_eq_false hc15)) (r_bin (a := (i : Int)) (b := 0) rfl rfl (fun _ => b_gtr)) ?_; refine s_yes rfl rfl (by exact congrArg Value.bool (decide_eq_false hc15)) (r_mv) ?_
          by_cases hc16 : 0 < (i : Int)
          ·
           refine s_yes rfl rfl (by exact congrArg Value.bool (decide_eq_true hc16)) (r_mv) ?_; refine s_yes rfl rfl (by exact congrArg Value.bool (decide_eq_true hc16)) (r_mv) ?_; refine s_yes rfl rfl (by exact congrArg Value.bool (decide_eq_true hc16)) (r_bin (a := (i : Int)) (b := 1) rfl rfl (fun _ => b_sub (by omega) (by omega))) ?_; refine s_yes rfl rfl (by exact congrArg Value.bool (decide_eq_true hc16)) (r_isN (((i : Int) - 1).toNat) rfl rfl el52 ah5 (by omega) (by (try simp only [Sl.cut]); omega)) ?_; refine s_yes rfl rfl (by exact congrArg Value.bool (decide_eq_true hc16)) (r_fa rfl fo54_0) ?_; have he18 : ∃ c, g.l[((i : Int) - 1).toNat]? = some c := ⟨_, List.getElem?_eq_getElem (by have := ((hg.up H)).ln; (try dsimp only at this ⊢); omega)⟩
           obtain ⟨e17, he18⟩ := he18
           have hez19 := ((hg.up H)).sz e17 (List.mem_of_getElem? he18)
           have he18n := hnm e17 (List.mem_of_getElem? he18)
           refine s_yes rfl rfl (by exact congrArg Value.bool (decide_eq_true hc16)) (r_g1 (v := .string ⟨(e17.name).toArray⟩) (s := g) (j := ((i : Int) - 1).toNat) (hg.up H) ah5 rfl ct9 he18 (by decide) (show Cut3 (itE e17) (([] : List Value)) (([.string ⟨(e17.name).toArray⟩] : List Value)) (([VI e17.kind] : List Value) ++ ((e17.of.1).map V8 ++ (([VI e17.size] : List Value)))) 0 1 from ⟨(show ([.string ⟨(e17.name).toArray⟩, VI e17.kind] : List Value) ++ ((e17.of.1).map V8 ++ (([VI e17.size] : List Value))) = ([] : List Value) ++ ((([.string ⟨(e17.name).toArray⟩] : List Value)) ++ (([VI e17.kind] : List Value) ++ ((e17.of.1).map V8 ++ (([VI e17.size] : List Value))))) from by simp only [List.cons_append, List.nil_append]), (by rfl), (by rfl)⟩)) ?_; refine s_yes rfl rfl (by exact congrArg Value.bool (decide_eq_true hc16)) (r_fa rfl fo54_0) ?_; refine s_yes rfl rfl (by exact congrArg Value.bool (decide_eq_true hc16)) (r_l1 (v := .string ⟨(e6.name).toArray⟩) H (i := 0) rfl rfl ct9 (show Cut3 (([.string ⟨(e6.name).toArray⟩, VI e6.kind] : List Value) ++ ((e6.of.1).map V8 ++ (([VI e6.size] : List Value)))) (([] : List Value)) (([.string ⟨(e6.name).toArray⟩] : List Value)) (([VI e6.kind] : List Value) ++ ((e6.of.1).map V8 ++ (([VI e6.size] : List Value)))) 0 1 from ⟨(show ([.string ⟨(e6.name).toArray⟩, VI e6.kind] : List Value) ++ ((e6.of.1).map V8 ++ (([VI e6.size] : List Value))) = ([] : List Value) ++ ((([.string ⟨(e6.name).toArray⟩] : List Value)) ++ (([VI e6.kind] : List Value) ++ ((e6.of.1).map V8 ++ (([VI e6.size] : List Value))))) from by simp only [List.cons_append, List.nil_append]), (by rfl), (by rfl)⟩)) ?_; refine s_yes rfl rfl (by exact congrArg Value.bool (decide_eq_true hc16)) (r_strge (a := e17.name) (b := e6.name) rfl rfl) ?_; refine s_yes rfl rfl (by exact congrArg Value.bool (decide_eq_false hc15)) (r_pick (b := true) (congrArg Value.bool (decide_eq_true hc16))) ?_; refine s_op (r_pick (b := false) (congrArg Value.bool (decide_eq_false hc15))) ?_; refine s_nil ?_
           by_cases hc20 : e6.name ≤ e17.name
           ·
            repeat refine c_seq ?_
            refine c_yes (by exact congrArg Value.bool (decide_eq_true hc20)) ?_; repeat refine c_seq ?_
            refine c_region ?_; refine l_op (o_val r_as ?_); first | refine l_end ?_ | refine l_nil ?_
            refine c_ret ?_; try dsimp only [Exit.then, Exit.inBlock]
            refine e_ret1 (v := .bool false) Try.results54 rfl ?_
            refine ⟨_, rfl, ?_⟩
            refine ⟨false, rfl, ⟨fun h => (by cases h), fun h => ?_⟩, H.sub (List.nil_sublist _)⟩
            have hm := h.2 i (by omega) e6 he7
            obtain ⟨⟨h1, h2, h3⟩, h4⟩ := hm
            first
              | omega
              | contradiction
              | exact absurd (h4 e17 (by omega) (by have e := he18; rwa [show ((i : Int) - 1).toNat = i - 1 by omega] at e)) (List.not_lt.2 (by assumption))
           ·
            repeat refine c_seq ?_
            refine c_no (by exact congrArg Value.bool (decide_eq_false hc20)) ?_; refine c_skip ?_; repeat refine c_seq ?_
            refine c_region ?_; refine l_op (o_val r_mv ?_); refine l_op (o_val (r_bin (a := (i : Int)) (b := 1) rfl rfl (fun _ => b_add (by omega) (by omega))) ?_); refine l_op (o_val r_as ?_); first | refine l_end ?_ | refine l_nil ?_
            have hat : mayAt g.l i := fun x hx => by
              have ex : x = e6 := Option.some.inj (hx.symm.trans he7)
              subst ex
              refine ⟨⟨by assumption, by omega, by omega⟩, fun y hp hy => ?_⟩
              have ey : y = e17 := Option.some.inj (hy.symm.trans (by have e := he18; rwa [show ((i : Int) - 1).toNat = i - 1 by omega] at e))
              subst ey
              exact List.not_le.1 (by assumption)
            refine round_end (i + 1) ?_ ?_ ?_
            · exact ⟨rfl, show VI ((i : Int) + 1) = VI ((i + 1 : Nat) : Int) from congrArg VI (by omega), trivial⟩
            · refine ⟨?_, ?_⟩
              · try dsimp only
                exact ⟨by omega, fun j hj => (Nat.lt_or_ge j i).elim (hinv j) (fun h => (show i = j by omega) ▸ hat)⟩
              · exact H.sub (List.nil_sublist _)
            · show g.len - (i + 1 : Nat) < g.len - i; omega
          ·
           refine s_no rfl rfl (by exact congrArg Value.bool (decide_eq_false hc16)) rfl ?_; refine s_no rfl rfl (by exact congrArg Value.bool (decide_eq_false hc16)) rfl ?_; refine s_no rfl rfl (by exact congrArg Value.bool (decide_eq_false hc16)) rfl ?_; refine s_no rfl rfl (by exact congrArg Value.bool (decide_eq_false hc16)) rfl ?_; refine s_no rfl rfl (by exact congrArg Value.bool (decide_eq_false hc16)) rfl ?_; refine s_no rfl rfl (by exact congrArg Value.bool (decide_eq_false hc16)) rfl ?_; refine s_no rfl rfl (by exact congrArg Value.bool (decide_eq_false hc16)) rfl ?_; refine s_no rfl rfl (by exact congrArg Value.bool (decide_eq_false hc16)) rfl ?_; refine s_no rfl rfl (by exact congrArg Value.bool (decide_eq_false hc16)) rfl ?_; refine s_yes rfl rfl (by exact congrArg Value.bool (decide_eq_false hc15)) (r_pick (b := false) (congrArg Value.bool (decide_eq_false hc16))) ?_; refine s_op (r_pick (b := false) (congrArg Value.bool (decide_eq_false hc15))) ?_; refine s_nil ?_; repeat refine c_seq ?_
           refine c_no rfl ?_; refine c_skip ?_; repeat refine c_seq ?_
           refine c_region ?_; refine l_op (o_val r_mv ?_); refine l_op (o_val (r_bin (a := (i : Int)) (b := 1) rfl rfl (fun _ => b_add (by omega) (by omega))) ?_); refine l_op (o_val r_as ?_); first | refine l_end ?_ | refine l_nil ?_
           have hat : mayAt g.l i := fun x hx => by
             have ex : x = e6 := Option.some.inj (hx.symm.trans he7)
             subst ex
             refine ⟨⟨by assumption, by omega, by omega⟩, fun y hp hy => ?_⟩
             omega
           refine round_end (i + 1) ?_ ?_ ?_
           · exact ⟨rfl, show VI ((i : Int) + 1) = VI ((i + 1 : Nat) : Int) from congrArg VI (by omega), trivial⟩
           · refine ⟨?_, ?_⟩
             · try dsimp only
               exact ⟨by omega, fun j hj => (Nat.lt_or_ge j i).elim (hinv j) (fun h => (show i = j by omega) ▸ hat)⟩
             · exact H.sub (List.nil_sublist _)
           · show g.len - (i + 1 : Nat) < g.len - i; omega
        ·
         refine s_no rfl rfl (by exact congrArg Value.bool (decide_eq_false hc14)) rfl ?_; refine s_no rfl rfl (by exact congrArg Value.bool (decide_eq_false hc14)) rfl ?_; refine s_no rfl rfl (by exact congrArg Value.bool (decide_eq_false hc14)) rfl ?_; refine s_yes rfl rfl (by exact congrArg Value.bool (decide_eq_false hc13)) (r_pick (b := false) (congrArg Value.bool (decide_eq_false hc14))) ?_; refine s_op (r_pick (b := false) (congrArg Value.bool (decide_eq_false hc13))) ?_; refine s_op (r_mv) ?_; refine s_yes rfl rfl rfl (r_mv) ?_; refine s_yes rfl rfl rfl (r_bin (a := (i : Int)) (b := 0) rfl rfl (fun _ => b_gtr)) ?_; refine s_yes rfl rfl rfl (r_mv) ?_
         by_cases hc21 : 0 < (i : Int)
         ·
          refine s_yes rfl rfl (by exact congrArg Value.bool (decide_eq_true hc21)) (r_mv) ?_; refine s_yes rfl rfl (by exact congrArg Value.bool (decide_eq_true hc21)) (r_mv) ?_; refine s_yes rfl rfl (by exact congrArg Value.bool (decide_eq_true hc21)) (r_bin (a := (i : Int)) (b := 1) rfl rfl (fun _ => b_sub (by omega) (by omega))) ?_; refine s_yes rfl rfl (by exact congrArg Value.bool (decide_eq_true hc21)) (r_isN (((i : Int) - 1).toNat) rfl rfl el52 ah5 (by omega) (by (try simp only [Sl.cut]); omega)) ?_; refine s_yes rfl rfl (by exact congrArg Value.bool (decide_eq_true hc21)) (r_fa rfl fo54_0) ?_; have he23 : ∃ c, g.l[((i : Int) - 1).toNat]? = some c := ⟨_, List.getElem?_eq_getElem (by have := ((hg.up H)).ln; (try dsimp only at this ⊢); omega)⟩
          obtain ⟨e22, he23⟩ := he23
          have hez24 := ((hg.up H)).sz e22 (List.mem_of_getElem? he23)
          have he23n := hnm e22 (List.mem_of_getElem? he23)
          refine s_yes rfl rfl (by exact congrArg Value.bool (decide_eq_true hc21)) (r_g1 (v := .string ⟨(e22.name).toArray⟩) (s := g) (j := ((i : Int) - 1).toNat) (hg.up H) ah5 rfl ct9 he23 (by decide) (show Cut3 (itE e22) (([] : List Value)) (([.string ⟨(e22.name).toArray⟩] : List Value)) (([VI e22.kind] : List Value) ++ ((e22.of.1).map V8 ++ (([VI e22.size] : List Value)))) 0 1 from ⟨(show ([.string ⟨(e22.name).toArray⟩, VI e22.kind] : List Value) ++ ((e22.of.1).map V8 ++ (([VI e22.size] : List Value))) = ([] : List Value) ++ ((([.string ⟨(e22.name).toArray⟩] : List Value)) ++ (([VI e22.kind] : List Value) ++ ((e22.of.1).map V8 ++ (([VI e22.size] : List Value))))) from by simp only [List.cons_append, List.nil_append]), (by rfl), (by rfl)⟩)) ?_; refine s_yes rfl rfl (by exact congrArg Value.bool (decide_eq_true hc21)) (r_fa rfl fo54_0) ?_; refine s_yes rfl rfl (by exact congrArg Value.bool (decide_eq_true hc21)) (r_l1 (v := .string ⟨(e6.name).toArray⟩) H (i := 0) rfl rfl ct9 (show Cut3 (([.string ⟨(e6.name).toArray⟩, VI e6.kind] : List Value) ++ ((e6.of.1).map V8 ++ (([VI e6.size] : List Value)))) (([] : List Value)) (([.string ⟨(e6.name).toArray⟩] : List Value)) (([VI e6.kind] : List Value) ++ ((e6.of.1).map V8 ++ (([VI e6.size] : List Value)))) 0 1 from ⟨(show ([.string ⟨(e6.name).toArray⟩, VI e6.kind] : List Value) ++ ((e6.of.1).map V8 ++ (([VI e6.size] : List Value))) = ([] : List Value) ++ ((([.string ⟨(e6.name).toArray⟩] : List Value)) ++ (([VI e6.kind] : List Value) ++ ((e6.of.1).map V8 ++ (([VI e6.size] : List Value))))) from by simp only [List.cons_append, List.nil_append]), (by rfl), (by rfl)⟩)) ?_; refine s_yes rfl rfl (by exact congrArg Value.bool (decide_eq_true hc21)) (r_strge (a := e22.name) (b := e6.name) rfl rfl) ?_; refine s_yes rfl rfl rfl (r_pick (b := true) (congrArg Value.bool (decide_eq_true hc21))) ?_; refine s_op (r_pick rfl) ?_; refine s_nil ?_
          by_cases hc25 : e6.name ≤ e22.name
          ·
           repeat refine c_seq ?_
           refine c_yes (by exact congrArg Value.bool (decide_eq_true hc25)) ?_; repeat refine c_seq ?_
           refine c_region ?_; refine l_op (o_val r_as ?_); first | refine l_end ?_ | refine l_nil ?_
           refine c_ret ?_; try dsimp only [Exit.then, Exit.inBlock]
           refine e_ret1 (v := .bool false) Try.results54 rfl ?_
           refine ⟨_, rfl, ?_⟩
           refine ⟨false, rfl, ⟨fun h => (by cases h), fun h => ?_⟩, H.sub (List.nil_sublist _)⟩
           have hm := h.2 i (by omega) e6 he7
           obtain ⟨⟨h1, h2, h3⟩, h4⟩ := hm
           first
             | omega
             | contradiction
             | exact absurd (h4 e22 (by omega) (by have e := he23; rwa [show ((i : Int) - 1).toNat = i - 1 by omega] at e)) (List.not_lt.2 (by assumption))
          ·
           repeat refine c_seq ?_
           refine c_no (by exact congrArg Value.bool (decide_eq_false hc25)) ?_; refine c_skip ?_; repeat refine c_seq ?_
           refine c_region ?_; refine l_op (o_val r_mv ?_); refine l_op (o_val (r_bin (a := (i : Int)) (b := 1) rfl rfl (fun _ => b_add (by omega) (by omega))) ?_); refine l_op (o_val r_as ?_); first | refine l_end ?_ | refine l_nil ?_
           have hat : mayAt g.l i := fun x hx => by
             have ex : x = e6 := Option.some.inj (hx.symm.trans he7)
             subst ex
             refine ⟨⟨by assumption, by omega, by omega⟩, fun y hp hy => ?_⟩
             have ey : y = e22 := Option.some.inj (hy.symm.trans (by have e := he23; rwa [show ((i : Int) - 1).toNat = i - 1 by omega] at e))
             subst ey
             exact List.not_le.1 (by assumption)
           refine round_end (i + 1) ?_ ?_ ?_
           · exact ⟨rfl, show VI ((i : Int) + 1) = VI ((i + 1 : Nat) : Int) from congrArg VI (by omega), trivial⟩
           · refine ⟨?_, ?_⟩
             · try dsimp only
               exact ⟨by omega, fun j hj => (Nat.lt_or_ge j i).elim (hinv j) (fun h => (show i = j by omega) ▸ hat)⟩
             · exact H.sub (List.nil_sublist _)
           · show g.len - (i + 1 : Nat) < g.len - i; omega
         ·
          refine s_no rfl rfl (by exact congrArg Value.bool (decide_eq_false hc21)) rfl ?_; refine s_no rfl rfl (by exact congrArg Value.bool (decide_eq_false hc21)) rfl ?_; refine s_no rfl rfl (by exact congrArg Value.bool (decide_eq_false hc21)) rfl ?_; refine s_no rfl rfl (by exact congrArg Value.bool (decide_eq_false hc21)) rfl ?_; refine s_no rfl rfl (by exact congrArg Value.bool (decide_eq_false hc21)) rfl ?_; refine s_no rfl rfl (by exact congrArg Value.bool (decide_eq_false hc21)) rfl ?_; refine s_no rfl rfl (by exact congrArg Value.bool (decide_eq_false hc21)) rfl ?_; refine s_no rfl rfl (by exact congrArg Value.bool (decide_eq_false hc21)) rfl ?_; refine s_no rfl rfl (by exact congrArg Value.bool (decide_eq_false hc21)) rfl ?_; refine s_yes rfl rfl rfl (r_pick (b := false) (congrArg Value.bool (decide_eq_false hc21))) ?_; refine s_op (r_pick rfl) ?_; refine s_nil ?_; repeat refine c_seq ?_
          refine c_no rfl ?_; refine c_skip ?_; repeat refine c_seq ?_
          refine c_region ?_; refine l_op (o_val r_mv ?_); refine l_op (o_val (r_bin (a := (i : Int)) (b := 1) rfl rfl (fun _ => b_add (by omega) (by omega))) ?_); refine l_op (o_val r_as ?_); first | refine l_end ?_ | refine l_nil ?_
          have hat : mayAt g.l i := fun x hx => by
            have ex : x = e6 := Option.some.inj (hx.symm.trans he7)
            subst ex
            refine ⟨⟨by assumption, by omega, by omega⟩, fun y hp hy => ?_⟩
            omega
          refine round_end (i + 1) ?_ ?_ ?_
          · exact ⟨rfl, show VI ((i : Int) + 1) = VI ((i + 1 : Nat) : Int) from congrArg VI (by omega), trivial⟩
          · refine ⟨?_, ?_⟩
            · try dsimp only
              exact ⟨by omega, fun j hj => (Nat.lt_or_ge j i).elim (hinv j) (fun h => (show i = j by omega) ▸ hat)⟩
            · exact H.sub (List.nil_sublist _)
          · show g.len - (i + 1 : Nat) < g.len - i; omega
    ·
     refine s_no rfl rfl (by exact congrArg Value.bool (congrArg not (decide_eq_false hc10))) rfl ?_; refine s_no rfl rfl (by exact congrArg Value.bool (congrArg not (decide_eq_false hc10))) rfl ?_; refine s_no rfl rfl (by exact congrArg Value.bool (congrArg not (decide_eq_false hc10))) rfl ?_; refine s_op (r_pick (b := true) (congrArg Value.bool (congrArg not (decide_eq_false hc10)))) ?_; refine s_op (r_mv) ?_; refine s_no rfl rfl rfl rfl ?_; refine s_no rfl rfl rfl rfl ?_; refine s_no rfl rfl rfl rfl ?_; refine s_op (r_pick rfl) ?_; refine s_op (r_mv) ?_; refine s_no rfl rfl rfl rfl ?_; refine s_no rfl rfl rfl rfl ?_; refine s_no rfl rfl rfl rfl ?_; refine s_op (r_pick rfl) ?_; refine s_op (r_mv) ?_; refine s_no rfl rfl rfl rfl ?_; refine s_no rfl rfl rfl rfl ?_; refine s_no rfl rfl rfl rfl ?_; refine s_no rfl rfl rfl rfl ?_; refine s_non rfl rfl rfl ?_; refine s_non rfl rfl rfl ?_; refine s_non rfl rfl rfl ?_; refine s_no rfl rfl rfl rfl ?_; refine s_op (r_pick rfl) ?_; refine s_op (r_mv) ?_; refine s_no rfl rfl rfl rfl ?_; refine s_no rfl rfl rfl rfl ?_; refine s_no rfl rfl rfl rfl ?_; refine s_non rfl rfl rfl ?_; refine s_non rfl rfl rfl ?_; refine s_non rfl rfl rfl ?_; refine s_non rfl rfl rfl ?_; refine s_non rfl rfl rfl ?_; refine s_non rfl rfl rfl ?_; refine s_non rfl rfl rfl ?_; refine s_non rfl rfl rfl ?_; refine s_non rfl rfl rfl ?_; refine s_no rfl rfl rfl rfl ?_; refine s_op (r_pick rfl) ?_; refine s_nil ?_; repeat refine c_seq ?_
     refine c_yes rfl ?_; repeat refine c_seq ?_
     refine c_region ?_; refine l_op (o_val r_as ?_); first | refine l_end ?_ | refine l_nil ?_
     refine c_ret ?_; try dsimp only [Exit.then, Exit.inBlock]
     refine e_ret1 (v := .bool false) Try.results54 rfl ?_
     refine ⟨_, rfl, ?_⟩
     refine ⟨false, rfl, ⟨fun h => (by cases h), fun h => ?_⟩, H.sub (List.nil_sublist _)⟩
     have hm := h.2 i (by omega) e6 he7
     obtain ⟨⟨h1, h2, h3⟩, h4⟩ := hm
     first
       | omega
       | contradiction
       | skip
   ·
    repeat refine c_seq ?_
    refine c_no (by exact congrArg Value.bool (decide_eq_false hc2)) ?_; refine c_exit ?_; repeat refine c_seq ?_
    refine c_region ?_; refine l_op (o_val r_as ?_); first | refine l_end ?_ | refine l_nil ?_
    refine c_ret ?_; try dsimp only [Exit.then, Exit.inBlock]
    refine e_ret1 (v := .bool true) Try.results54 rfl ?_
    refine ⟨_, rfl, ?_⟩
    exact ⟨true, rfl, ⟨fun _ => ⟨by omega, fun j hj => hinv j (by omega)⟩, fun _ => rfl⟩, H⟩
end Go.Proofs.Ytomjbabllcmodaa
namespace Go.Proofs.Ytomjbabllcmodaa
open Go
set_option maxRecDepth 100000
def BytesRes (g : List It) (l : List UInt8) (e : Int) : Prop := (e = 0 ∧ MayB g ∧ l = fldB g ∧ l.length ≤ 4000) ∨ (¬ e = 0 ∧ l = [] ∧ ¬ (MayB g ∧ (fldB g).length ≤ 4000))
theorem ofInt_toNat {v : Int} (h0 : 0 ≤ v) (h1 : v ≤ 9223372036854775807) : (UInt64.ofInt v).toNat = v.toNat := by
  simp only [UInt64.ofInt, UInt64.toNat_ofNat']; omega
theorem itB_step {l : List UInt8} {x : It} (h0 : 0 ≤ x.size) (h1 : x.size ≤ 9223372036854775807) : ((((l ++ [UInt8.ofNat x.kind.toNat]) ++ cnt x.name.length) ++ x.name) ++ x.of.1) ++ cnt (UInt64.ofInt x.size).toNat = l ++ itB x := by
  rw [ofInt_toNat h0 h1]; simp [itB]
theorem itB_len {x : It} (h0 : x.name.length ≤ 64) (h1 : x.size ≤ 9223372036854775807) : (itB x).length ≤ 117 := by
  simp only [itB, List.length_cons, List.length_append]
  have := cnt_len10 x.name.length (by omega)
  have := cnt_len10 x.size.toNat (by omega)
  have := x.of.2
  omega
theorem take_flat {g : List It} {i : Nat} {x : It} (h : g[i]? = some x) : (g.take (i + 1)).flatMap itB = (g.take i).flatMap itB ++ itB x := by
  rw [List.take_add_one, h, List.flatMap_append]; simp
theorem fbytes15_ret (w0 : World) (g : Gl It) (hg : g.ok itE 35 w0) (hfit : ∀ x ∈ g.l, x.name.length ≤ 65536 ∧ x.size ≤ 9223372036854775807) :
    Ret Try.prog 37 [g.v] w0 fun v w' => ∃ (a : Option Nat) (c : Nat) (l : List UInt8) (e : Int), v = .tuple #[.slice (hd a) l.length c, VI e] ∧ BytesRes g.l l e ∧ Hp w0 w' [] [.own a l.length c (l.map V8) 5 1] := by
  refine ret_mk Try.func37 rfl Try.ntmps37 (by simp) ?_
  have H := Hp.refl w0 []
  have hgl := hg.ln
  have hnm : ∀ x ∈ g.l, x.name.length ≤ 65536 := fun x hx => (hfit x hx).1
  repeat refine c_seq ?_
  refine c_region ?_; refine l_op (o_val r_as ?_); refine l_op (o_val r_as ?_); first | refine l_end ?_ | refine l_nil ?_
  repeat refine c_seq ?_
  refine c_region ?_; refine l_op (o_val r_mv ?_); refine l_op (o_callR Try.func54 rfl rfl rfl (fmay15_ret _ g (hg.up H) hnm) ?_); rintro _ w ⟨b1, rfl, hmay2, Hc⟩
  replace H : Hp _ w _ ([]) := H.call Hc
  clear Hc
  refine l_op (o_val (r_not rfl) ?_); first | refine l_end ?_ | refine l_nil ?_
  have hc30 := Bool.eq_false_or_eq_true (b1)
  rcases hc30 with hc3 | hc3
  ·
   repeat refine c_seq ?_
   refine c_no (by exact congrArg Value.bool (congrArg not hc3)) ?_; refine c_skip ?_; have hmb := hmay2.1 hc3
   have hg64 := hmb.1
   repeat refine c_seq ?_
   refine c_region ?_; refine l_op (o_bslB ([(68 : UInt8), (49 : UInt8)]) H sl32 zc5 rfl rfl (by decide) (fun b4 w H hb4 => ?_)); replace H : Hp _ w _ ([.own (some b4) 2 2 (([(68 : UInt8), (49 : UInt8)]).map V8) 5 1]) := H
   replace H := H.toBlkB (i := 0) rfl
   refine l_op (o_lit H (i := 0) rfl Try.underlying32 Try.underlying5 rfl (fun w H => ?_)); replace H : Hp _ w _ ([.obj b4 (litO (([(68 : UInt8), (49 : UInt8)]).map V8) 5)]) := H
   refine l_op (o_val r_mv ?_); refine l_op (o_val (r_lens el52 rfl) ?_); refine l_op (o_val (r_conv (v := ((UInt64.ofNat g.len).toNat : Int)) Try.underlying3 Try.underlying91 rfl (w_u64_N g.len (by omega))) ?_); refine l_op (o_callR Try.func55 rfl rfl rfl (count1_ret _ (⟨some ⟨b4, 0, none⟩, 2, 2, [(68 : UInt8), (49 : UInt8)]⟩ : Sl) (ok_lit H (i := 0) rfl rfl rfl (by decide) (by decide)) (UInt64.ofNat g.len) (by (try simp only []); omega)) ?_); rintro _ w ⟨a5, c6, rfl, Hc⟩
   replace H : Hp _ w _ ([_, .own a5 (([(68 : UInt8), (49 : UInt8)] ++ cnt (UInt64.ofNat g.len).toNat).length) c6 ((([(68 : UInt8), (49 : UInt8)] ++ cnt (UInt64.ofNat g.len).toNat)).map V8) 5 1]) := H.call Hc
   clear Hc
   have a5n := len_cnt ([(68 : UInt8), (49 : UInt8)]) (UInt64.ofNat g.len).toNat (UInt64.toNat_lt _)
   refine l_op (o_val r_as ?_); first | refine l_end ?_ | refine l_nil ?_
   repeat refine c_seq ?_
   refine c_region ?_; refine l_op (o_val r_as ?_); first | refine l_end ?_ | refine l_nil ?_
   repeat refine c_seq ?_
   refine c_block ?_; repeat refine c_seq ?_
   refine c_loop4 (fun (i : Nat) (l : List UInt8) (a : Option Nat) (c : Nat) => [(0, g.v), (4, .slice (hd a) l.length c), (5, VI (i : Int))])
     (fun (i : Nat) (l : List UInt8) (a : Option Nat) (c : Nat) w => (i ≤ g.len ∧ l = ([68, 49] ++ cnt g.l.length) ++ (g.l.take i).flatMap itB ∧ l.length ≤ 12 + i * 117) ∧ Hp w0 w [] ([.own a l.length c ((l).map V8) 5 1]))
     (fun (i : Nat) (l : List UInt8) (a : Option Nat) (c : Nat) => g.len - i) 0 ([(68 : UInt8), (49 : UInt8)] ++ cnt (UInt64.ofNat g.len).toNat) a5 c6 ⟨rfl, rfl, rfl, trivial⟩ ⟨⟨Nat.zero_le _, by rw [ofNat_nat _ (by omega), List.take_zero, List.flatMap_nil, List.append_nil, hgl], (by have h2 : ([68, 49] : List UInt8).length = 2 := rfl; omega)⟩, (H.sub (.cons _ (.cons_cons _ (List.nil_sublist _))))⟩ ?_
   clear H
   rintro i l a c τ w ⟨⟨hil, hl, hlen⟩, H⟩
   have hil2 : i * 117 ≤ 7488 := by omega
   repeat refine c_seq ?_
   refine c_region ?_; refine l_op (o_val r_mv ?_); refine l_op (o_val r_mv ?_); refine l_op (o_val (r_lens el52 rfl) ?_); refine l_op (o_val (r_bin (a := (i : Int)) (b := (g.len : Int)) rfl rfl (fun _ => b_lss)) ?_); first | refine l_end ?_ | refine l_nil ?_
   by_cases hc7 : (i : Int) < (g.len : Int)
   ·
    repeat refine c_seq ?_
    refine c_yes (by exact congrArg Value.bool (decide_eq_true hc7)) ?_; refine c_skip ?_; repeat refine c_seq ?_
    refine c_block ?_; repeat refine c_seq ?_
    refine c_region ?_; refine l_op (o_val r_mv ?_); refine l_op (o_val r_mv ?_); have ah10 := ((hg.up H)).addr (by decide) (by first | omega | (dsimp only; omega))
    obtain ⟨ab8, ao9, ah10⟩ := ah10
    refine l_op (o_val (r_isN i rfl rfl el52 ah10 (by omega) (by (try simp only [Sl.cut]); omega)) ?_); have he12 : ∃ c, g.l[i]? = some c := ⟨_, List.getElem?_eq_getElem (by have := ((hg.up H)).ln; (try dsimp only at this ⊢); omega)⟩
    obtain ⟨e11, he12⟩ := he12
    have hez13 := ((hg.up H)).sz e11 (List.mem_of_getElem? he12)
    have he12m := (hmb.2 i (by omega) e11 he12).1
    have he12k := he12m.2.1
    have he12s := he12m.2.2
    have he12n := he12m.1.2.2.1
    have he12t := (hfit e11 (List.mem_of_getElem? he12)).2
    clear he12m
    refine l_op (o_val (r_ldRow (s := g) (k := i) (hg.up H) ah10 rfl rt54 (by decide) he12) ?_); refine l_op (o_alloc H zc54 (fun b14 w H hb14 => ?_)); replace H : Hp _ w _ ([_, .blk b14 (([.string ⟨(([] : List UInt8)).toArray⟩, VI 0] : List Value) ++ ((List.replicate 32 (0 : UInt8)).map V8 ++ (([VI 0] : List Value)))) 54]) := H
    refine l_op (o_stW (C' := ([.string ⟨(e11.name).toArray⟩, VI e11.kind] : List Value) ++ ((e11.of.1).map V8 ++ (([VI e11.size] : List Value)))) H (i := 1) rfl rfl rfl cs54 (by first | (simp [Value.oneCell', List.all_append, List.all_map]; done) | (simp only [List.all_append, List.all_cons, List.all_nil, List.all_map]; simp [Value.oneCell', Function.comp_def])) (by simp only [List.length_append, List.length_map, List.length_cons, List.length_nil, (show (List.replicate 32 (0 : UInt8)).length = 32 from (List.length_replicate ..))]) (by simp only [List.length_append, List.length_map, List.length_cons, List.length_nil, (show (e11.of.1).length = 32 from e11.of.2)]) (fun w H => ?_)); replace H : Hp _ w _ ([_, .blk b14 (([.string ⟨(e11.name).toArray⟩, VI e11.kind] : List Value) ++ ((e11.of.1).map V8 ++ (([VI e11.size] : List Value)))) 54]) := H
    first | refine l_end ?_ | refine l_nil ?_
    have hla : (l ++ [UInt8.ofNat e11.kind.toNat]).length = l.length + 1 := by rw [List.length_append]; rfl
    repeat refine c_seq ?_
    refine wp_held (fun w => Hp w0 w [] [.blk b14 (([.string ⟨(e11.name).toArray⟩, VI e11.kind] : List Value) ++ ((e11.of.1).map V8 ++ (([VI e11.size] : List Value)))) 54]) mixed ?_; replace H := H.drew
    have HS := H.sub (.cons _ (.cons_cons _ (List.nil_sublist _)))
    refine t_take 0 rfl (by kernel_rfl) (by kernel_rfl) (by kernel_rfl) (fun _ _ _ h => h) (fun w HS => r_mv) HS ?_; refine t_take 1 rfl (by kernel_rfl) (by kernel_rfl) (by kernel_rfl) (fun _ _ _ h => h) (fun w HS => r_fa rfl fo54_1) HS ?_; refine t_take 2 rfl (by kernel_rfl) (by kernel_rfl) (by kernel_rfl) (fun _ _ _ h => h) (fun w HS => r_l1 (v := VI e11.kind) HS (i := 0) rfl rfl ct3 (show Cut3 (([.string ⟨(e11.name).toArray⟩, VI e11.kind] : List Value) ++ ((e11.of.1).map V8 ++ (([VI e11.size] : List Value)))) (([.string ⟨(e11.name).toArray⟩] : List Value)) (([VI e11.kind] : List Value)) ((e11.of.1).map V8 ++ (([VI e11.size] : List Value))) 1 1 from ⟨(show ([.string ⟨(e11.name).toArray⟩, VI e11.kind] : List Value) ++ ((e11.of.1).map V8 ++ (([VI e11.size] : List Value))) = ([.string ⟨(e11.name).toArray⟩] : List Value) ++ ((([VI e11.kind] : List Value)) ++ ((e11.of.1).map V8 ++ (([VI e11.size] : List Value)))) from by simp only [List.cons_append, List.nil_append]), (by rfl), (by rfl)⟩)) HS ?_; refine t_take 3 rfl (by kernel_rfl) (by kernel_rfl) (by kernel_rfl) (fun _ _ _ h => h) (fun w HS => r_conv (a := e11.kind) (v := ((UInt8.ofNat ((e11.kind).toNat)).toNat : Int)) Try.underlying3 Try.underlying5 rfl (w_u8_N ((e11.kind).toNat) (by omega))) HS ?_; refine t_take 6 rfl (by kernel_rfl) (by kernel_rfl) (by kernel_rfl) (fun _ _ _ h => h) (fun w HS => r_fa rfl fo54_0) HS ?_; refine t_take 7 rfl (by kernel_rfl) (by kernel_rfl) (by kernel_rfl) (fun _ _ _ h => h) (fun w HS => r_l1 (v := .string ⟨(e11.name).toArray⟩) HS (i := 0) rfl rfl ct9 (show Cut3 (([.string ⟨(e11.name).toArray⟩, VI e11.kind] : List Value) ++ ((e11.of.1).map V8 ++ (([VI e11.size] : List Value)))) (([] : List Value)) (([.string ⟨(e11.name).toArray⟩] : List Value)) (([VI e11.kind] : List Value) ++ ((e11.of.1).map V8 ++ (([VI e11.size] : List Value)))) 0 1 from ⟨(show ([.string ⟨(e11.name).toArray⟩, VI e11.kind] : List Value) ++ ((e11.of.1).map V8 ++ (([VI e11.size] : List Value))) = ([] : List Value) ++ ((([.string ⟨(e11.name).toArray⟩] : List Value)) ++ (([VI e11.kind] : List Value) ++ ((e11.of.1).map V8 ++ (([VI e11.size] : List Value))))) from by simp only [List.cons_append, List.nil_append]), (by rfl), (by rfl)⟩)) HS ?_; refine t_all [4, 8] (by kernel_rfl) (by simp) (all_cons (w_op 4 rfl ?_) (all_cons (w_op 8 rfl ?_) (all_nil)))
    ·
     refine (o_bslB ([UInt8.ofNat ((e11.kind).toNat)]) H sl32 zc5 rfl rfl (by decide) (fun b15 w H hb15 => ?_))
     replace H : Hp _ w _ ([_, _, .own (some b15) 1 1 (([UInt8.ofNat ((e11.kind).toNat)]).map V8) 5 1]) := H
     refine ⟨H.sub (.cons _ (.cons_cons _ (List.nil_sublist _))), ?_⟩
     replace HS := H.sub (.cons _ (.cons_cons _ (List.nil_sublist _)))
     refine t_all [5, 8] (by kernel_rfl) (by simp) (all_cons (w_op 5 rfl ?_) (all_cons (w_op 8 rfl ?_) (all_nil)))
     ·
      refine (o_appB (s := ⟨hd (some b15), 1, 1, [UInt8.ofNat ((e11.kind).toNat)]⟩) (l' := l ++ ([UInt8.ofNat ((e11.kind).toNat)])) (len' := (l ++ ([UInt8.ofNat ((e11.kind).toNat)])).length) rfl (by have := (e11).of.2; simp only [List.length_append, List.length_singleton]; (try omega)) H (i := 0) rfl sl32 Try.underlying32 rfl rfl (H.slOwn (i := 2) rfl) (by omega) (fun a16 c17 w H => ?_))
      replace H : Hp _ w _ ([.own a16 ((l ++ ([UInt8.ofNat ((e11.kind).toNat)])).length) c17 ((l ++ ([UInt8.ofNat ((e11.kind).toNat)])).map V8) 5 1, _, _]) := H
      refine ⟨H.sub (.cons _ (.cons_cons _ (List.nil_sublist _))), ?_⟩
      replace HS := H.sub (.cons _ (.cons_cons _ (List.nil_sublist _)))
      refine t_step 8 rfl (by kernel_rfl) (o_s2B (l := e11.name) H Try.underlying9 Try.underlying32 Try.underlying5 rfl (by omega) (fun b18 c19 ob20 w H hb18 hr21 => ?_)); replace H : Hp _ w _ ([_, _, _, .obj b18 ob20]) := H
      refine ⟨H.sub (.cons _ (.cons_cons _ (List.nil_sublist _))), ?_⟩
      replace HS := H.sub (.cons _ (.cons_cons _ (List.nil_sublist _)))
      refine t_step 9 rfl (by kernel_rfl) (o_callR Try.func56 rfl rfl rfl (text1_ret _ ⟨hd a16, (l ++ ([UInt8.ofNat ((e11.kind).toNat)])).length, c17, l ++ ([UInt8.ofNat ((e11.kind).toNat)])⟩ (⟨some ⟨b18, 0, none⟩, (e11.name).length, c19, e11.name⟩ : Sl) (H.slOwn (i := 0) rfl) (hr21 _ (H.has (.obj b18 ob20) (by simp))) (by (try simp only []); omega) (by (try simp only []); omega)) ?_); rintro _ w ⟨a22, c23, rfl, Hc⟩
      replace H : Hp _ w _ ([_, _, _, _, .own a22 (((l ++ ([UInt8.ofNat ((e11.kind).toNat)]) ++ cnt (e11.name).length) ++ e11.name).length) c23 ((((l ++ ([UInt8.ofNat ((e11.kind).toNat)]) ++ cnt (e11.name).length) ++ e11.name)).map V8) 5 1]) := H.call Hc
      clear Hc
      have a22n := len_txt (l ++ ([UInt8.ofNat ((e11.kind).toNat)])) e11.name (by omega)
      refine ⟨H.sub (.cons _ (.cons_cons _ (List.nil_sublist _))), ?_⟩
      replace HS := H.sub (.cons _ (.cons_cons _ (List.nil_sublist _)))
      refine t_take 10 rfl (by kernel_rfl) (by kernel_rfl) (by kernel_rfl) (fun _ _ _ h => h) (fun w HS => r_mv) HS ?_; refine t_take 11 rfl (by kernel_rfl) (by kernel_rfl) (by kernel_rfl) (fun _ _ _ h => h) (fun w HS => r_ext rfl rfl) HS ?_; refine t_take 12 rfl (by kernel_rfl) (by kernel_rfl) (by kernel_rfl) (fun _ _ _ h => h) (fun w HS => r_ext rfl rfl) HS ?_; refine t_take 13 rfl (by kernel_rfl) (by kernel_rfl) (by kernel_rfl) (fun _ _ _ h => h) (fun w HS => r_as) HS ?_; refine t_done (by kernel_rfl) ?_
      clear HS
      have hlb : (((l ++ ([UInt8.ofNat ((e11.kind).toNat)]) ++ cnt (e11.name).length) ++ e11.name) ++ e11.of.1).length = (((l ++ ([UInt8.ofNat ((e11.kind).toNat)]) ++ cnt (e11.name).length) ++ e11.name)).length + 32 := by rw [List.length_append, e11.of.2]
      repeat refine c_seq ?_
      refine wp_held (fun w => Hp w0 w [] [.own a16 ((l ++ ([UInt8.ofNat ((e11.kind).toNat)])).length) c17 ((l ++ ([UInt8.ofNat ((e11.kind).toNat)])).map V8) 5 1, .blk b14 (([.string ⟨(e11.name).toArray⟩, VI e11.kind] : List Value) ++ ((e11.of.1).map V8 ++ (([VI e11.size] : List Value)))) 54, .own (some b15) 1 1 (([UInt8.ofNat ((e11.kind).toNat)]).map V8) 5 1, .obj b18 ob20]) mixed ?_; replace H := H.drew
      have HS := H.sub (.cons_cons _ (.cons_cons _ (.cons_cons _ (.cons_cons _ (List.nil_sublist _)))))
      refine t_take 0 rfl (by kernel_rfl) (by kernel_rfl) (by kernel_rfl) (fun _ _ _ h => h) (fun w HS => r_mv) HS ?_; refine t_take 1 rfl (by kernel_rfl) (by kernel_rfl) (by kernel_rfl) (fun _ _ _ h => h) (fun w HS => r_fa rfl fo54_2) HS ?_; refine t_take 2 rfl (by kernel_rfl) (by kernel_rfl) (by kernel_rfl) (fun _ _ _ h => h) (fun w HS => r_slAo (o := 2) (h := 32) (m := 32) (lv := none) (hv := none) (mv := none) rfl ar29 rfl rfl rfl (fun w => sbn w)) HS ?_; refine t_take 4 rfl (by kernel_rfl) (by kernel_rfl) (by kernel_rfl) (fun _ _ _ h => h) (fun w HS => r_fa rfl fo54_3) HS ?_; refine t_take 5 rfl (by kernel_rfl) (by kernel_rfl) (by kernel_rfl) (fun _ _ _ h => h) (fun w HS => r_l1 (v := VI e11.size) HS (i := 1) rfl rfl ct2 (show Cut3 (([.string ⟨(e11.name).toArray⟩, VI e11.kind] : List Value) ++ ((e11.of.1).map V8 ++ (([VI e11.size] : List Value)))) (([.string ⟨(e11.name).toArray⟩, VI e11.kind] : List Value) ++ ((e11.of.1).map V8)) (([VI e11.size] : List Value)) (([] : List Value)) 34 1 from ⟨(show ([.string ⟨(e11.name).toArray⟩, VI e11.kind] : List Value) ++ ((e11.of.1).map V8 ++ (([VI e11.size] : List Value))) = (([.string ⟨(e11.name).toArray⟩, VI e11.kind] : List Value) ++ ((e11.of.1).map V8)) ++ ((([VI e11.size] : List Value)) ++ (([] : List Value))) from by simp only [List.cons_append, List.nil_append]), (by simp only [List.length_append, List.length_map, List.length_cons, List.length_nil, (show (e11.of.1).length = 32 from e11.of.2)]), (by rfl)⟩)) HS ?_; refine t_take 6 rfl (by kernel_rfl) (by kernel_rfl) (by kernel_rfl) (fun _ _ _ h => h) (fun w HS => r_conv Try.underlying2 Try.underlying91 rfl (w_u64_I _)) HS ?_; refine t_step 3 rfl (by kernel_rfl) (o_appB (s := (⟨some ⟨b14, 2, none⟩, 32, 32, e11.of.1⟩ : Sl)) (l' := ((l ++ ([UInt8.ofNat ((e11.kind).toNat)]) ++ cnt (e11.name).length) ++ e11.name) ++ e11.of.1) (len' := (((l ++ ([UInt8.ofNat ((e11.kind).toNat)]) ++ cnt (e11.name).length) ++ e11.name) ++ e11.of.1).length) rfl (by have := (e11).of.2; simp only [List.length_append, List.length_singleton]; (try omega)) H (i := 4) rfl sl32 Try.underlying32 rfl rfl (H.slMid (i := 1) rfl (show Cut3 (([.string ⟨(e11.name).toArray⟩, VI e11.kind] : List Value) ++ ((e11.of.1).map V8 ++ (([VI e11.size] : List Value)))) (([.string ⟨(e11.name).toArray⟩, VI e11.kind] : List Value)) ((e11.of.1).map V8) (([VI e11.size] : List Value)) 2 32 from ⟨(show ([.string ⟨(e11.name).toArray⟩, VI e11.kind] : List Value) ++ ((e11.of.1).map V8 ++ (([VI e11.size] : List Value))) = ([.string ⟨(e11.name).toArray⟩, VI e11.kind] : List Value) ++ (((e11.of.1).map V8) ++ (([VI e11.size] : List Value))) from by simp only [List.cons_append, List.nil_append]), (by rfl), (by simp only [List.length_map, (show (e11.of.1).length = 32 from e11.of.2)])⟩) (by decide)) (by omega) (fun a24 c25 w H => ?_)); replace H : Hp _ w _ ([_, _, _, _, .own a24 ((((l ++ ([UInt8.ofNat ((e11.kind).toNat)]) ++ cnt (e11.name).length) ++ e11.name) ++ e11.of.1).length) c25 ((((l ++ ([UInt8.ofNat ((e11.kind).toNat)]) ++ cnt (e11.name).length) ++ e11.name) ++ e11.of.1).map V8) 5 1]) := H
      refine ⟨H.sub (.cons_cons _ (.cons_cons _ (.cons_cons _ (.cons_cons _ (List.nil_sublist _))))), ?_⟩
      replace HS := H.sub (.cons_cons _ (.cons_cons _ (.cons_cons _ (.cons_cons _ (List.nil_sublist _)))))
      refine t_step 7 rfl (by kernel_rfl) (o_callR Try.func55 rfl rfl rfl (count1_ret _ ⟨hd a24, (((l ++ ([UInt8.ofNat ((e11.kind).toNat)]) ++ cnt (e11.name).length) ++ e11.name) ++ e11.of.1).length, c25, ((l ++ ([UInt8.ofNat ((e11.kind).toNat)]) ++ cnt (e11.name).length) ++ e11.name) ++ e11.of.1⟩ (H.slOwn (i := 4) rfl) (UInt64.ofInt e11.size) (by (try simp only []); omega)) ?_); rintro _ w ⟨a26, c27, rfl, Hc⟩
      replace H : Hp _ w _ ([_, _, _, _, _, .own a26 ((((l ++ ([UInt8.ofNat ((e11.kind).toNat)]) ++ cnt (e11.name).length) ++ e11.name) ++ e11.of.1 ++ cnt (UInt64.ofInt e11.size).toNat).length) c27 (((((l ++ ([UInt8.ofNat ((e11.kind).toNat)]) ++ cnt (e11.name).length) ++ e11.name) ++ e11.of.1 ++ cnt (UInt64.ofInt e11.size).toNat)).map V8) 5 1]) := H.call Hc
      clear Hc
      have a26n := len_cnt (((l ++ ([UInt8.ofNat ((e11.kind).toNat)]) ++ cnt (e11.name).length) ++ e11.name) ++ e11.of.1) (UInt64.ofInt e11.size).toNat (UInt64.toNat_lt _)
      refine ⟨H.sub (.cons_cons _ (.cons_cons _ (.cons_cons _ (.cons_cons _ (List.nil_sublist _))))), ?_⟩
      replace HS := H.sub (.cons_cons _ (.cons_cons _ (.cons_cons _ (.cons_cons _ (List.nil_sublist _)))))
      refine t_take 8 rfl (by kernel_rfl) (by kernel_rfl) (by kernel_rfl) (fun _ _ _ h => h) (fun w HS => r_as) HS ?_; refine t_done (by kernel_rfl) ?_
      clear HS
      repeat refine c_seq ?_
      refine c_region ?_; refine l_op (o_val r_mv ?_); refine l_op (o_val (r_bin (a := (i : Int)) (b := 1) rfl rfl (fun _ => b_add (by omega) (by omega))) ?_); refine l_op (o_val r_as ?_); first | refine l_end ?_ | refine l_nil ?_
      have hst := itB_step (l := l) (x := e11) (by omega) (by omega)
      have hl7 := itB_len (x := e11) (by omega) (by omega)
      rw [hst] at H
      refine round_end (i + 1, l ++ itB e11, a26, c27) ?_ ?_ ?_
      · exact ⟨rfl, (show (.slice (hd a26) ((((l ++ ([UInt8.ofNat ((e11.kind).toNat)]) ++ cnt (e11.name).length) ++ e11.name) ++ e11.of.1 ++ cnt (UInt64.ofInt e11.size).toNat).length) c27 : Value) = .slice (hd (a26 : Option Nat)) (l ++ itB e11 : List UInt8).length (c27 : Nat) from (by rw [hst])), show VI ((i : Int) + 1) = VI ((i + 1 : Nat) : Int) from congrArg VI (by omega), trivial⟩
      · refine ⟨?_, ?_⟩
        · try dsimp only
          exact ⟨by omega, by rw [take_flat he12, ← List.append_assoc, ← hl], by rw [List.length_append]; omega⟩
        · exact H.sub (.cons _ (.cons _ (.cons _ (.cons _ (.cons _ (.cons_cons _ (List.nil_sublist _)))))))
      · show g.len - (i + 1 : Nat) < g.len - i; omega
     ·
      refine (o_s2B (l := e11.name) H Try.underlying9 Try.underlying32 Try.underlying5 rfl (by omega) (fun b28 c29 ob30 w H hb28 hr31 => ?_))
      replace H : Hp _ w _ ([_, _, _, .obj b28 ob30]) := H
      refine ⟨H.sub (.cons _ (.cons_cons _ (List.nil_sublist _))), ?_⟩
      replace HS := H.sub (.cons _ (.cons_cons _ (List.nil_sublist _)))
      refine t_step 5 rfl (by kernel_rfl) (o_appB (s := ⟨hd (some b15), 1, 1, [UInt8.ofNat ((e11.kind).toNat)]⟩) (l' := l ++ ([UInt8.ofNat ((e11.kind).toNat)])) (len' := (l ++ ([UInt8.ofNat ((e11.kind).toNat)])).length) rfl (by have := (e11).of.2; simp only [List.length_append, List.length_singleton]; (try omega)) H (i := 0) rfl sl32 Try.underlying32 rfl rfl (H.slOwn (i := 2) rfl) (by omega) (fun a32 c33 w H => ?_)); replace H : Hp _ w _ ([.own a32 ((l ++ ([UInt8.ofNat ((e11.kind).toNat)])).length) c33 ((l ++ ([UInt8.ofNat ((e11.kind).toNat)])).map V8) 5 1, _, _, _]) := H
      refine ⟨H.sub (.cons _ (.cons_cons _ (List.nil_sublist _))), ?_⟩
      replace HS := H.sub (.cons _ (.cons_cons _ (List.nil_sublist _)))
      refine t_step 9 rfl (by kernel_rfl) (o_callR Try.func56 rfl rfl rfl (text1_ret _ ⟨hd a32, (l ++ ([UInt8.ofNat ((e11.kind).toNat)])).length, c33, l ++ ([UInt8.ofNat ((e11.kind).toNat)])⟩ (⟨some ⟨b28, 0, none⟩, (e11.name).length, c29, e11.name⟩ : Sl) (H.slOwn (i := 0) rfl) (hr31 _ (H.has (.obj b28 ob30) (by simp))) (by (try simp only []); omega) (by (try simp only []); omega)) ?_); rintro _ w ⟨a34, c35, rfl, Hc⟩
      replace H : Hp _ w _ ([_, _, _, _, .own a34 (((l ++ ([UInt8.ofNat ((e11.kind).toNat)]) ++ cnt (e11.name).length) ++ e11.name).length) c35 ((((l ++ ([UInt8.ofNat ((e11.kind).toNat)]) ++ cnt (e11.name).length) ++ e11.name)).map V8) 5 1]) := H.call Hc
      clear Hc
      have a34n := len_txt (l ++ ([UInt8.ofNat ((e11.kind).toNat)])) e11.name (by omega)
      refine ⟨H.sub (.cons _ (.cons_cons _ (List.nil_sublist _))), ?_⟩
      replace HS := H.sub (.cons _ (.cons_cons _ (List.nil_sublist _)))
      refine t_take 10 rfl (by kernel_rfl) (by kernel_rfl) (by kernel_rfl) (fun _ _ _ h => h) (fun w HS => r_mv) HS ?_; refine t_take 11 rfl (by kernel_rfl) (by kernel_rfl) (by kernel_rfl) (fun _ _ _ h => h) (fun w HS => r_ext rfl rfl) HS ?_; refine t_take 12 rfl (by kernel_rfl) (by kernel_rfl) (by kernel_rfl) (fun _ _ _ h => h) (fun w HS => r_ext rfl rfl) HS ?_; refine t_take 13 rfl (by kernel_rfl) (by kernel_rfl) (by kernel_rfl) (fun _ _ _ h => h) (fun w HS => r_as) HS ?_; refine t_done (by kernel_rfl) ?_
      clear HS
      have hlb : (((l ++ ([UInt8.ofNat ((e11.kind).toNat)]) ++ cnt (e11.name).length) ++ e11.name) ++ e11.of.1).length = (((l ++ ([UInt8.ofNat ((e11.kind).toNat)]) ++ cnt (e11.name).length) ++ e11.name)).length + 32 := by rw [List.length_append, e11.of.2]
      repeat refine c_seq ?_
      refine wp_held (fun w => Hp w0 w [] [.own a32 ((l ++ ([UInt8.ofNat ((e11.kind).toNat)])).length) c33 ((l ++ ([UInt8.ofNat ((e11.kind).toNat)])).map V8) 5 1, .blk b14 (([.string ⟨(e11.name).toArray⟩, VI e11.kind] : List Value) ++ ((e11.of.1).map V8 ++ (([VI e11.size] : List Value)))) 54, .own (some b15) 1 1 (([UInt8.ofNat ((e11.kind).toNat)]).map V8) 5 1, .obj b28 ob30]) mixed ?_; replace H := H.drew
      have HS := H.sub (.cons_cons _ (.cons_cons _ (.cons_cons _ (.cons_cons _ (List.nil_sublist _)))))
      refine t_take 0 rfl (by kernel_rfl) (by kernel_rfl) (by kernel_rfl) (fun _ _ _ h => h) (fun w HS => r_mv) HS ?_; refine t_take 1 rfl (by kernel_rfl) (by kernel_rfl) (by kernel_rfl) (fun _ _ _ h => h) (fun w HS => r_fa rfl fo54_2) HS ?_; refine t_take 2 rfl (by kernel_rfl) (by kernel_rfl) (by kernel_rfl) (fun _ _ _ h => h) (fun w HS => r_slAo (o := 2) (h := 32) (m := 32) (lv := none) (hv := none) (mv := none) rfl ar29 rfl rfl rfl (fun w => sbn w)) HS ?_; refine t_take 4 rfl (by kernel_rfl) (by kernel_rfl) (by kernel_rfl) (fun _ _ _ h => h) (fun w HS => r_fa rfl fo54_3) HS ?_; refine t_take 5 rfl (by kernel_rfl) (by kernel_rfl) (by kernel_rfl) (fun _ _ _ h => h) (fun w HS => r_l1 (v := VI e11.size) HS (i := 1) rfl rfl ct2 (show Cut3 (([.string ⟨(e11.name).toArray⟩, VI e11.kind] : List Value) ++ ((e11.of.1).map V8 ++ (([VI e11.size] : List Value)))) (([.string ⟨(e11.name).toArray⟩, VI e11.kind] : List Value) ++ ((e11.of.1).map V8)) (([VI e11.size] : List Value)) (([] : List Value)) 34 1 from ⟨(show ([.string ⟨(e11.name).toArray⟩, VI e11.kind] : List Value) ++ ((e11.of.1).map V8 ++ (([VI e11.size] : List Value))) = (([.string ⟨(e11.name).toArray⟩, VI e11.kind] : List Value) ++ ((e11.of.1).map V8)) ++ ((([VI e11.size] : List Value)) ++ (([] : List Value))) from by simp only [List.cons_append, List.nil_append]), (by simp only [List.length_append, List.length_map, List.length_cons, List.length_nil, (show (e11.of.1).length = 32 from e11.of.2)]), (by rfl)⟩)) HS ?_; refine t_take 6 rfl (by kernel_rfl) (by kernel_rfl) (by kernel_rfl) (fun _ _ _ h => h) (fun w HS => r_conv Try.underlying2 Try.underlying91 rfl (w_u64_I _)) HS ?_; refine t_step 3 rfl (by kernel_rfl) (o_appB (s := (⟨some ⟨b14, 2, none⟩, 32, 32, e11.of.1⟩ : Sl)) (l' := ((l ++ ([UInt8.ofNat ((e11.kind).toNat)]) ++ cnt (e11.name).length) ++ e11.name) ++ e11.of.1) (len' := (((l ++ ([UInt8.ofNat ((e11.kind).toNat)]) ++ cnt (e11.name).length) ++ e11.name) ++ e11.of.1).length) rfl (by have := (e11).of.2; simp only [List.length_append, List.length_singleton]; (try omega)) H (i := 4) rfl sl32 Try.underlying32 rfl rfl (H.slMid (i := 1) rfl (show Cut3 (([.string ⟨(e11.name).toArray⟩, VI e11.kind] : List Value) ++ ((e11.of.1).map V8 ++ (([VI e11.size] : List Value)))) (([.string ⟨(e11.name).toArray⟩, VI e11.kind] : List Value)) ((e11.of.1).map V8) (([VI e11.size] : List Value)) 2 32 from ⟨(show ([.string ⟨(e11.name).toArray⟩, VI e11.kind] : List Value) ++ ((e11.of.1).map V8 ++ (([VI e11.size] : List Value))) = ([.string ⟨(e11.name).toArray⟩, VI e11.kind] : List Value) ++ (((e11.of.1).map V8) ++ (([VI e11.size] : List Value))) from by simp only [List.cons_append, List.nil_append]), (by rfl), (by simp only [List.length_map, (show (e11.of.1).length = 32 from e11.of.2)])⟩) (by decide)) (by omega) (fun a36 c37 w H => ?_)); replace H : Hp _ w _ ([_, _, _, _, .own a36 ((((l ++ ([UInt8.ofNat ((e11.kind).toNat)]) ++ cnt (e11.name).length) ++ e11.name) ++ e11.of.1).length) c37 ((((l ++ ([UInt8.ofNat ((e11.kind).toNat)]) ++ cnt (e11.name).length) ++ e11.name) ++ e11.of.1).map V8) 5 1]) := H
      refine ⟨H.sub (.cons_cons _ (.cons_cons _ (.cons_cons _ (.cons_cons _ (List.nil_sublist _))))), ?_⟩
      replace HS := H.sub (.cons_cons _ (.cons_cons _ (.cons_cons _ (.cons_cons _ (List.nil_sublist _)))))
      refine t_step 7 rfl (by kernel_rfl) (o_callR Try.func55 rfl rfl rfl (count1_ret _ ⟨hd a36, (((l ++ ([UInt8.ofNat ((e11.kind).toNat)]) ++ cnt (e11.name).length) ++ e11.name) ++ e11.of.1).length, c37, ((l ++ ([UInt8.ofNat ((e11.kind).toNat)]) ++ cnt (e11.name).length) ++ e11.name) ++ e11.of.1⟩ (H.slOwn (i := 4) rfl) (UInt64.ofInt e11.size) (by (try simp only []); omega)) ?_); rintro _ w ⟨a38, c39, rfl, Hc⟩
      replace H : Hp _ w _ ([_, _, _, _, _, .own a38 ((((l ++ ([UInt8.ofNat ((e11.kind).toNat)]) ++ cnt (e11.name).length) ++ e11.name) ++ e11.of.1 ++ cnt (UInt64.ofInt e11.size).toNat).length) c39 (((((l ++ ([UInt8.ofNat ((e11.kind).toNat)]) ++ cnt (e11.name).length) ++ e11.name) ++ e11.of.1 ++ cnt (UInt64.ofInt e11.size).toNat)).map V8) 5 1]) := H.call Hc
      clear Hc
      have a38n := len_cnt (((l ++ ([UInt8.ofNat ((e11.kind).toNat)]) ++ cnt (e11.name).length) ++ e11.name) ++ e11.of.1) (UInt64.ofInt e11.size).toNat (UInt64.toNat_lt _)
      refine ⟨H.sub (.cons_cons _ (.cons_cons _ (.cons_cons _ (.cons_cons _ (List.nil_sublist _))))), ?_⟩
      replace HS := H.sub (.cons_cons _ (.cons_cons _ (.cons_cons _ (.cons_cons _ (List.nil_sublist _)))))
      refine t_take 8 rfl (by kernel_rfl) (by kernel_rfl) (by kernel_rfl) (fun _ _ _ h => h) (fun w HS => r_as) HS ?_; refine t_done (by kernel_rfl) ?_
      clear HS
      repeat refine c_seq ?_
      refine c_region ?_; refine l_op (o_val r_mv ?_); refine l_op (o_val (r_bin (a := (i : Int)) (b := 1) rfl rfl (fun _ => b_add (by omega) (by omega))) ?_); refine l_op (o_val r_as ?_); first | refine l_end ?_ | refine l_nil ?_
      have hst := itB_step (l := l) (x := e11) (by omega) (by omega)
      have hl7 := itB_len (x := e11) (by omega) (by omega)
      rw [hst] at H
      refine round_end (i + 1, l ++ itB e11, a38, c39) ?_ ?_ ?_
      · exact ⟨rfl, (show (.slice (hd a38) ((((l ++ ([UInt8.ofNat ((e11.kind).toNat)]) ++ cnt (e11.name).length) ++ e11.name) ++ e11.of.1 ++ cnt (UInt64.ofInt e11.size).toNat).length) c39 : Value) = .slice (hd (a38 : Option Nat)) (l ++ itB e11 : List UInt8).length (c39 : Nat) from (by rw [hst])), show VI ((i : Int) + 1) = VI ((i + 1 : Nat) : Int) from congrArg VI (by omega), trivial⟩
      · refine ⟨?_, ?_⟩
        · try dsimp only
          exact ⟨by omega, by rw [take_flat he12, ← List.append_assoc, ← hl], by rw [List.length_append]; omega⟩
        · exact H.sub (.cons _ (.cons _ (.cons _ (.cons _ (.cons _ (.cons_cons _ (List.nil_sublist _)))))))
      · show g.len - (i + 1 : Nat) < g.len - i; omega
    ·
     refine (o_s2B (l := e11.name) H Try.underlying9 Try.underlying32 Try.underlying5 rfl (by omega) (fun b40 c41 ob42 w H hb40 hr43 => ?_))
     replace H : Hp _ w _ ([_, _, .obj b40 ob42]) := H
     refine ⟨H.sub (.cons _ (.cons_cons _ (List.nil_sublist _))), ?_⟩
     replace HS := H.sub (.cons _ (.cons_cons _ (List.nil_sublist _)))
     refine t_step 4 rfl (by kernel_rfl) (o_bslB ([UInt8.ofNat ((e11.kind).toNat)]) H sl32 zc5 rfl rfl (by decide) (fun b44 w H hb44 => ?_)); replace H : Hp _ w _ ([_, _, _, .own (some b44) 1 1 (([UInt8.ofNat ((e11.kind).toNat)]).map V8) 5 1]) := H
     refine ⟨H.sub (.cons _ (.cons_cons _ (List.nil_sublist _))), ?_⟩
     replace HS := H.sub (.cons _ (.cons_cons _ (List.nil_sublist _)))
     refine t_step 5 rfl (by kernel_rfl) (o_appB (s := ⟨hd (some b44), 1, 1, [UInt8.ofNat ((e11.kind).toNat)]⟩) (l' := l ++ ([UInt8.ofNat ((e11.kind).toNat)])) (len' := (l ++ ([UInt8.ofNat ((e11.kind).toNat)])).length) rfl (by have := (e11).of.2; simp only [List.length_append, List.length_singleton]; (try omega)) H (i := 0) rfl sl32 Try.underlying32 rfl rfl (H.slOwn (i := 3) rfl) (by omega) (fun a45 c46 w H => ?_)); replace H : Hp _ w _ ([.own a45 ((l ++ ([UInt8.ofNat ((e11.kind).toNat)])).length) c46 ((l ++ ([UInt8.ofNat ((e11.kind).toNat)])).map V8) 5 1, _, _, _]) := H
     refine ⟨H.sub (.cons _ (.cons_cons _ (List.nil_sublist _))), ?_⟩
     replace HS := H.sub (.cons _ (.cons_cons _ (List.nil_sublist _)))
     refine t_step 9 rfl (by kernel_rfl) (o_callR Try.func56 rfl rfl rfl (text1_ret _ ⟨hd a45, (l ++ ([UInt8.ofNat ((e11.kind).toNat)])).length, c46, l ++ ([UInt8.ofNat ((e11.kind).toNat)])⟩ (⟨some ⟨b40, 0, none⟩, (e11.name).length, c41, e11.name⟩ : Sl) (H.slOwn (i := 0) rfl) (hr43 _ (H.has (.obj b40 ob42) (by simp))) (by (try simp only []); omega) (by (try simp only []); omega)) ?_); rintro _ w ⟨a47, c48, rfl, Hc⟩
     replace H : Hp _ w _ ([_, _, _, _, .own a47 (((l ++ ([UInt8.ofNat ((e11.kind).toNat)]) ++ cnt (e11.name).length) ++ e11.name).length) c48 ((((l ++ ([UInt8.ofNat ((e11.kind).toNat)]) ++ cnt (e11.name).length) ++ e11.name)).map V8) 5 1]) := H.call Hc
     clear Hc
     have a47n := len_txt (l ++ ([UInt8.ofNat ((e11.kind).toNat)])) e11.name (by omega)
     refine ⟨H.sub (.cons _ (.cons_cons _ (List.nil_sublist _))), ?_⟩
     replace HS := H.sub (.cons _ (.cons_cons _ (List.nil_sublist _)))
     refine t_take 10 rfl (by kernel_rfl) (by kernel_rfl) (by kernel_rfl) (fun _ _ _ h => h) (fun w HS => r_mv) HS ?_; refine t_take 11 rfl (by kernel_rfl) (by kernel_rfl) (by kernel_rfl) (fun _ _ _ h => h) (fun w HS => r_ext rfl rfl) HS ?_; refine t_take 12 rfl (by kernel_rfl) (by kernel_rfl) (by kernel_rfl) (fun _ _ _ h => h) (fun w HS => r_ext rfl rfl) HS ?_; refine t_take 13 rfl (by kernel_rfl) (by kernel_rfl) (by kernel_rfl) (fun _ _ _ h => h) (fun w HS => r_as) HS ?_; refine t_done (by kernel_rfl) ?_
     clear HS
     have hlb : (((l ++ ([UInt8.ofNat ((e11.kind).toNat)]) ++ cnt (e11.name).length) ++ e11.name) ++ e11.of.1).length = (((l ++ ([UInt8.ofNat ((e11.kind).toNat)]) ++ cnt (e11.name).length) ++ e11.name)).length + 32 := by rw [List.length_append, e11.of.2]
     repeat refine c_seq ?_
     refine wp_held (fun w => Hp w0 w [] [.own a45 ((l ++ ([UInt8.ofNat ((e11.kind).toNat)])).length) c46 ((l ++ ([UInt8.ofNat ((e11.kind).toNat)])).map V8) 5 1, .blk b14 (([.string ⟨(e11.name).toArray⟩, VI e11.kind] : List Value) ++ ((e11.of.1).map V8 ++ (([VI e11.size] : List Value)))) 54, .obj b40 ob42, .own (some b44) 1 1 (([UInt8.ofNat ((e11.kind).toNat)]).map V8) 5 1]) mixed ?_; replace H := H.drew
     have HS := H.sub (.cons_cons _ (.cons_cons _ (.cons_cons _ (.cons_cons _ (List.nil_sublist _)))))
     refine t_take 0 rfl (by kernel_rfl) (by kernel_rfl) (by kernel_rfl) (fun _ _ _ h => h) (fun w HS => r_mv) HS ?_; refine t_take 1 rfl (by kernel_rfl) (by kernel_rfl) (by kernel_rfl) (fun _ _ _ h => h) (fun w HS => r_fa rfl fo54_2) HS ?_; refine t_take 2 rfl (by kernel_rfl) (by kernel_rfl) (by kernel_rfl) (fun _ _ _ h => h) (fun w HS => r_slAo (o := 2) (h := 32) (m := 32) (lv := none) (hv := none) (mv := none) rfl ar29 rfl rfl rfl (fun w => sbn w)) HS ?_; refine t_take 4 rfl (by kernel_rfl) (by kernel_rfl) (by kernel_rfl) (fun _ _ _ h => h) (fun w HS => r_fa rfl fo54_3) HS ?_; refine t_take 5 rfl (by kernel_rfl) (by kernel_rfl) (by kernel_rfl) (fun _ _ _ h => h) (fun w HS => r_l1 (v := VI e11.size) HS (i := 1) rfl rfl ct2 (show Cut3 (([.string ⟨(e11.name).toArray⟩, VI e11.kind] : List Value) ++ ((e11.of.1).map V8 ++ (([VI e11.size] : List Value)))) (([.string ⟨(e11.name).toArray⟩, VI e11.kind] : List Value) ++ ((e11.of.1).map V8)) (([VI e11.size] : List Value)) (([] : List Value)) 34 1 from ⟨(show ([.string ⟨(e11.name).toArray⟩, VI e11.kind] : List Value) ++ ((e11.of.1).map V8 ++ (([VI e11.size] : List Value))) = (([.string ⟨(e11.name).toArray⟩, VI e11.kind] : List Value) ++ ((e11.of.1).map V8)) ++ ((([VI e11.size] : List Value)) ++ (([] : List Value))) from by simp only [List.cons_append, List.nil_append]), (by simp only [List.length_append, List.length_map, List.length_cons, List.length_nil, (show (e11.of.1).length = 32 from e11.of.2)]), (by rfl)⟩)) HS ?_; refine t_take 6 rfl (by kernel_rfl) (by kernel_rfl) (by kernel_rfl) (fun _ _ _ h => h) (fun w HS => r_conv Try.underlying2 Try.underlying91 rfl (w_u64_I _)) HS ?_; refine t_step 3 rfl (by kernel_rfl) (o_appB (s := (⟨some ⟨b14, 2, none⟩, 32, 32, e11.of.1⟩ : Sl)) (l' := ((l ++ ([UInt8.ofNat ((e11.kind).toNat)]) ++ cnt (e11.name).length) ++ e11.name) ++ e11.of.1) (len' := (((l ++ ([UInt8.ofNat ((e11.kind).toNat)]) ++ cnt (e11.name).length) ++ e11.name) ++ e11.of.1).length) rfl (by have := (e11).of.2; simp only [List.length_append, List.length_singleton]; (try omega)) H (i := 4) rfl sl32 Try.underlying32 rfl rfl (H.slMid (i := 1) rfl (show Cut3 (([.string ⟨(e11.name).toArray⟩, VI e11.kind] : List Value) ++ ((e11.of.1).map V8 ++ (([VI e11.size] : List Value)))) (([.string ⟨(e11.name).toArray⟩, VI e11.kind] : List Value)) ((e11.of.1).map V8) (([VI e11.size] : List Value)) 2 32 from ⟨(show ([.string ⟨(e11.name).toArray⟩, VI e11.kind] : List Value) ++ ((e11.of.1).map V8 ++ (([VI e11.size] : List Value))) = ([.string ⟨(e11.name).toArray⟩, VI e11.kind] : List Value) ++ (((e11.of.1).map V8) ++ (([VI e11.size] : List Value))) from by simp only [List.cons_append, List.nil_append]), (by rfl), (by simp only [List.length_map, (show (e11.of.1).length = 32 from e11.of.2)])⟩) (by decide)) (by omega) (fun a49 c50 w H => ?_)); replace H : Hp _ w _ ([_, _, _, _, .own a49 ((((l ++ ([UInt8.ofNat ((e11.kind).toNat)]) ++ cnt (e11.name).length) ++ e11.name) ++ e11.of.1).length) c50 ((((l ++ ([UInt8.ofNat ((e11.kind).toNat)]) ++ cnt (e11.name).length) ++ e11.name) ++ e11.of.1).map V8) 5 1]) := H
     refine ⟨H.sub (.cons_cons _ (.cons_cons _ (.cons_cons _ (.cons_cons _ (List.nil_sublist _))))), ?_⟩
     replace HS := H.sub (.cons_cons _ (.cons_cons _ (.cons_cons _ (.cons_cons _ (List.nil_sublist _)))))
     refine t_step 7 rfl (by kernel_rfl) (o_callR Try.func55 rfl rfl rfl (count1_ret _ ⟨hd a49, (((l ++ ([UInt8.ofNat ((e11.kind).toNat)]) ++ cnt (e11.name).length) ++ e11.name) ++ e11.of.1).length, c50, ((l ++ ([UInt8.ofNat ((e11.kind).toNat)]) ++ cnt (e11.name).length) ++ e11.name) ++ e11.of.1⟩ (H.slOwn (i := 4) rfl) (UInt64.ofInt e11.size) (by (try simp only []); omega)) ?_); rintro _ w ⟨a51, c52, rfl, Hc⟩
     replace H : Hp _ w _ ([_, _, _, _, _, .own a51 ((((l ++ ([UInt8.ofNat ((e11.kind).toNat)]) ++ cnt (e11.name).length) ++ e11.name) ++ e11.of.1 ++ cnt (UInt64.ofInt e11.size).toNat).length) c52 (((((l ++ ([UInt8.ofNat ((e11.kind).toNat)]) ++ cnt (e11.name).length) ++ e11.name) ++ e11.of.1 ++ cnt (UInt64.ofInt e11.size).toNat)).map V8) 5 1]) := H.call Hc
     clear Hc
     have a51n := len_cnt (((l ++ ([UInt8.ofNat ((e11.kind).toNat)]) ++ cnt (e11.name).length) ++ e11.name) ++ e11.of.1) (UInt64.ofInt e11.size).toNat (UInt64.toNat_lt _)
     refine ⟨H.sub (.cons_cons _ (.cons_cons _ (.cons_cons _ (.cons_cons _ (List.nil_sublist _))))), ?_⟩
     replace HS := H.sub (.cons_cons _ (.cons_cons _ (.cons_cons _ (.cons_cons _ (List.nil_sublist _)))))
     refine t_take 8 rfl (by kernel_rfl) (by kernel_rfl) (by kernel_rfl) (fun _ _ _ h => h) (fun w HS => r_as) HS ?_; refine t_done (by kernel_rfl) ?_
     clear HS
     repeat refine c_seq ?_
     refine c_region ?_; refine l_op (o_val r_mv ?_); refine l_op (o_val (r_bin (a := (i : Int)) (b := 1) rfl rfl (fun _ => b_add (by omega) (by omega))) ?_); refine l_op (o_val r_as ?_); first | refine l_end ?_ | refine l_nil ?_
     have hst := itB_step (l := l) (x := e11) (by omega) (by omega)
     have hl7 := itB_len (x := e11) (by omega) (by omega)
     rw [hst] at H
     refine round_end (i + 1, l ++ itB e11, a51, c52) ?_ ?_ ?_
     · exact ⟨rfl, (show (.slice (hd a51) ((((l ++ ([UInt8.ofNat ((e11.kind).toNat)]) ++ cnt (e11.name).length) ++ e11.name) ++ e11.of.1 ++ cnt (UInt64.ofInt e11.size).toNat).length) c52 : Value) = .slice (hd (a51 : Option Nat)) (l ++ itB e11 : List UInt8).length (c52 : Nat) from (by rw [hst])), show VI ((i : Int) + 1) = VI ((i + 1 : Nat) : Int) from congrArg VI (by omega), trivial⟩
     · refine ⟨?_, ?_⟩
       · try dsimp only
         exact ⟨by omega, by rw [take_flat he12, ← List.append_assoc, ← hl], by rw [List.length_append]; omega⟩
       · exact H.sub (.cons _ (.cons _ (.cons _ (.cons _ (.cons _ (.cons_cons _ (List.nil_sublist _)))))))
     · show g.len - (i + 1 : Nat) < g.len - i; omega
   ·
    repeat refine c_seq ?_
    refine c_no (by exact congrArg Value.bool (decide_eq_false hc7)) ?_; refine c_exit ?_; repeat refine c_seq ?_
    refine c_region ?_; refine l_op (o_val r_mv ?_); refine l_op (o_val (r_lens el32 rfl) ?_); refine l_op (o_val (r_bin (a := (l.length : Int)) (b := 4000) rfl rfl (fun _ => b_gtr)) ?_); first | refine l_end ?_ | refine l_nil ?_
    by_cases hc53 : 4000 < (l.length : Int)
    ·
     repeat refine c_seq ?_
     refine c_yes (by exact congrArg Value.bool (decide_eq_true hc53)) ?_; repeat refine c_seq ?_
     refine c_region ?_; refine l_op (o_val r_as ?_); refine l_op (o_val r_as ?_); first | refine l_end ?_ | refine l_nil ?_
     refine c_ret ?_; try dsimp only [Exit.then, Exit.inBlock]
     refine e_retN (vs := [.slice none 0 0, VI 2]) _ Try.results37 rfl (resT (v := .slice none 0 0) rfl (resT (v := VI 2) rfl (resZ))) ?_
     refine ⟨_, rfl, ?_⟩
     have hf : l = fldB g.l := by rw [hl, List.take_of_length_le (by omega), fldB, List.append_assoc]
     exact ⟨none, 0, [], _, rfl, .inr ⟨by decide, rfl, fun h => absurd h.2 (by rw [← hf]; omega)⟩, (H.sub (List.nil_sublist _)).nilEnd 5 1⟩
    ·
     repeat refine c_seq ?_
     refine c_no (by exact congrArg Value.bool (decide_eq_false hc53)) ?_; refine c_skip ?_; repeat refine c_seq ?_
     refine c_region ?_; refine l_op (o_val r_mv ?_); refine l_op (o_val r_as ?_); refine l_op (o_val r_as ?_); first | refine l_end ?_ | refine l_nil ?_
     refine c_ret ?_; try dsimp only [Exit.then, Exit.inBlock]
     refine e_retN (vs := [.slice (hd a) l.length c, VI 0]) _ Try.results37 rfl (resT (v := .slice (hd a) l.length c) rfl (resT (v := VI 0) rfl (resZ))) ?_
     refine ⟨_, rfl, ?_⟩
     have hf : l = fldB g.l := by rw [hl, List.take_of_length_le (by omega), fldB, List.append_assoc]
     exact ⟨_, _, _, _, rfl, .inl ⟨rfl, hmb, hf, by omega⟩, H.sub (.cons_cons _ (List.nil_sublist _))⟩
  ·
   repeat refine c_seq ?_
   refine c_yes (by exact congrArg Value.bool (congrArg not hc3)) ?_; repeat refine c_seq ?_
   refine c_region ?_; refine l_op (o_val r_as ?_); refine l_op (o_val r_as ?_); first | refine l_end ?_ | refine l_nil ?_
   refine c_ret ?_; try dsimp only [Exit.then, Exit.inBlock]
   refine e_retN (vs := [.slice none 0 0, VI 1]) _ Try.results37 rfl (resT (v := .slice none 0 0) rfl (resT (v := VI 1) rfl (resZ))) ?_
   refine ⟨_, rfl, ?_⟩
   exact ⟨none, 0, [], _, rfl, .inr ⟨by decide, rfl, fun h => absurd ((hmay2.2 h.1).symm.trans hc3) (by decide)⟩, (H.sub (List.nil_sublist _)).nilEnd 5 1⟩
end Go.Proofs.Ytomjbabllcmodaa
namespace Go.Proofs.Ytomjbabllcmodaa
open Go
/-- the first c bytes of word j of a block, as a number. -/
def pwN (bs : List UInt8) (j : Nat) : Nat → Nat
  | 0 => 0
  | c + 1 => pwN bs j c * 256 + (bs.getD (4 * j + c) 0).toNat
theorem wordAt_nat (bs : List UInt8) (j : Nat) : (wordAt bs j).toNat = pwN bs j 4 := by
  simp only [wordAt, pwN, Nat.add_zero, Nat.zero_mul, Nat.zero_add]
  generalize bs.getD (4 * j) 0 = a
  generalize bs.getD (4 * j + 1) 0 = b
  generalize bs.getD (4 * j + 2) 0 = c
  generalize bs.getD (4 * j + 3) 0 = d
  have ha := a.toNat_lt
  have hb := b.toNat_lt
  have hc := c.toNat_lt
  have hd := d.toNat_lt
  have e24 : (UInt32.ofNat 24).toNat % 32 = 24 := rfl
  have e16 : (UInt32.ofNat 16).toNat % 32 = 16 := rfl
  have e8 : (UInt32.ofNat 8).toNat % 32 = 8 := rfl
  simp only [UInt32.toNat_or, UInt32.toNat_shiftLeft, UInt8.toNat_toUInt32, e24, e16, e8]
  have m1 : a.toNat <<< 24 % 2 ^ 32 = a.toNat <<< 24 := by rw [Nat.shiftLeft_eq]; omega
  have m2 : b.toNat <<< 16 % 2 ^ 32 = b.toNat <<< 16 := by rw [Nat.shiftLeft_eq]; omega
  have m3 : c.toNat <<< 8 % 2 ^ 32 = c.toNat <<< 8 := by rw [Nat.shiftLeft_eq]; omega
  rw [m1, m2, m3, Nat.or_assoc, Nat.or_assoc]
  have s3 : c.toNat <<< 8 ||| d.toNat = c.toNat <<< 8 + d.toNat := (Nat.shiftLeft_add_eq_or_of_lt (by omega) _).symm
  have s2 : b.toNat <<< 16 ||| (c.toNat <<< 8 + d.toNat) = b.toNat <<< 16 + (c.toNat <<< 8 + d.toNat) := (Nat.shiftLeft_add_eq_or_of_lt (by rw [Nat.shiftLeft_eq]; omega) _).symm
  have s1 : a.toNat <<< 24 ||| (b.toNat <<< 16 + (c.toNat <<< 8 + d.toNat)) = a.toNat <<< 24 + (b.toNat <<< 16 + (c.toNat <<< 8 + d.toNat)) := (Nat.shiftLeft_add_eq_or_of_lt (by rw [Nat.shiftLeft_eq, Nat.shiftLeft_eq]; omega) _).symm
  rw [s3, s2, s1, Nat.shiftLeft_eq, Nat.shiftLeft_eq, Nat.shiftLeft_eq]
  omega
end Go.Proofs.Ytomjbabllcmodaa
namespace Go.Proofs.Ytomjbabllcmodaa
open Go
set_option maxRecDepth 100000
/-- the cells of a hash whose words are l. -/
def parts (A B : List UInt32) (i : Nat) : List UInt32 := A.take i ++ B.drop i
theorem parts_length (A B : List UInt32) (i : Nat) (h : A.length = B.length) (hi : i ≤ A.length) : (parts A B i).length = B.length := by simp only [parts, List.length_append, List.length_take, List.length_drop]; omega
theorem parts_get (A B : List UInt32) (i : Nat) (h : A.length = B.length) (hi : i < A.length) : (parts A B i).getD i 0 = B.getD i 0 := by
  have : (A.take i).length = i := by rw [List.length_take]; omega
  simp only [parts, List.getD_eq_getElem?_getD]
  rw [List.getElem?_append_right (by omega), this]; simp
theorem parts_set (A B : List UInt32) (i : Nat) (h : A.length = B.length) (hi : i < A.length) : (parts A B i).set i (A.getD i 0) = parts A B (i + 1) := by
  have h1 : (A.take i).length = i := by rw [List.length_take]; omega
  apply List.ext_getElem?
  intro j
  rw [List.getElem?_set]
  have hl : (parts A B i).length = B.length := parts_length A B i h (by omega)
  by_cases h2 : i = j
  · subst h2
    rw [if_pos rfl, if_pos (by omega)]
    rw [parts, List.getElem?_append_left (by rw [List.length_take]; omega), List.getElem?_take_of_lt (by omega)]
    simp [hi]
  · rw [if_neg h2]
    have h4 : (A.take (i + 1)).length = i + 1 := by rw [List.length_take]; omega
    by_cases h3 : j < i
    · rw [parts, parts, List.getElem?_append_left (by omega), List.getElem?_append_left (by omega), List.getElem?_take_of_lt h3, List.getElem?_take_of_lt (by omega)]
    · rw [parts, parts, List.getElem?_append_right (by omega), List.getElem?_append_right (by omega), h1, h4, List.getElem?_drop, List.getElem?_drop]
      congr 1; omega
theorem add_get (s t : S8) (i : Nat) (hi : i < 8) : s.l.getD i 0 + t.l.getD i 0 = (addS s t).l.getD i 0 := by
  have e : (addS s t).l = List.zipWith (· + ·) s.l t.l := rfl
  have h1 : s.l.length = 8 := rfl
  have h2 : t.l.length = 8 := rfl
  rw [e]
  simp only [List.getD_eq_getElem?_getD, List.getElem?_zipWith]
  rw [List.getElem?_eq_getElem (by omega : i < s.l.length), List.getElem?_eq_getElem (by omega : i < t.l.length)]
  rfl
end Go.Proofs.Ytomjbabllcmodaa
namespace Go.Proofs.Ytomjbabllcmodaa
open Go
set_option maxRecDepth 100000
theorem turn_ret (w : World) (x : UInt64) (n : Nat) (hn : n ≤ 64) : Ret Try.prog 66 [V64 x, VI n] w fun v w' => v = V64 (turn64 x n) ∧ w' = w := by
  refine ret_mk Try.func66 rfl Try.ntmps66 (by simp) ?_
  repeat refine c_seq ?_
  refine c_region ?_; refine l_op (o_as ?_); first | refine l_end ?_ | refine l_nil ?_
  repeat refine c_seq ?_
  refine c_region ?_; refine l_op (o_as ?_); first | refine l_end ?_ | refine l_nil ?_
  repeat refine c_seq ?_
  refine c_block ?_; refine c_loop (ι := Nat) (fun i => [(5, VI i), (0, V64 (turn64 x i)), (1, VI n)]) (fun i w' => i ≤ n ∧ w' = w) (fun i => n - i) 0 ⟨rfl, rfl, rfl, trivial⟩ ⟨by omega, rfl⟩ ?_; rintro i τ w' ⟨hi, hw⟩
  rw [hw]; clear hw w'
  repeat refine c_seq ?_
  refine c_region ?_; refine l_op (o_mv ?_); refine l_op (o_mv ?_); refine l_op (o_bin rfl rfl (fun _ => b_lss) ?_); first | refine l_end ?_ | refine l_nil ?_
  repeat refine c_seq ?_
  refine c_ifD rfl (fun hlt => ?_) (fun hlt => ?_)
  · have hlt' : i < n := by omega
    refine c_skip ?_; repeat refine c_seq ?_
    refine c_block ?_; repeat refine c_seq ?_
    refine c_region ?_; refine l_op (o_mv ?_); refine l_op (o_bin rfl (c64 2 (by decide)) (fun _ => b_quo_u64 (by decide)) ?_); refine l_op (o_mv ?_); refine l_op (o_bin rfl (c64 2 (by decide)) (fun _ => b_rem_u64 (by decide)) ?_); refine l_op (o_bin rfl (c64 2147483648 (by decide)) (fun _ => b_mul_u64) ?_); refine l_op (o_bin rfl rfl (fun _ => b_add_u64) ?_); refine l_op (o_as ?_); first | refine l_end ?_ | refine l_nil ?_
    repeat refine c_seq ?_
    refine c_region ?_; refine l_op (o_mv ?_); refine l_op (o_bin rfl rfl (fun _ => b_add (by omega) (by omega)) ?_); refine l_op (o_as ?_); first | refine l_end ?_ | refine l_nil ?_
    refine round_end (i + 1) ?_ ?_ ?_
    · exact ⟨rfl, rfl, rfl, trivial⟩
    · exact ⟨hlt', rfl⟩
    · show n - (i + 1) < n - i; omega
  · have hi' : i = n := by omega
    subst hi'
    refine c_exit ?_; repeat refine c_seq ?_
    refine c_region ?_; refine l_op (o_mv ?_); refine l_op (o_as ?_); first | refine l_end ?_ | refine l_nil ?_
    exact c_ret (e_ret1 Try.results66 rfl ⟨_, rfl, rfl, rfl⟩)
theorem down_ret (w : World) (x : UInt64) (n : Nat) (hn : n ≤ 64) : Ret Try.prog 67 [V64 x, VI n] w fun v w' => v = V64 (down64 x n) ∧ w' = w := by
  refine ret_mk Try.func67 rfl Try.ntmps67 (by simp) ?_
  repeat refine c_seq ?_
  refine c_region ?_; refine l_op (o_as ?_); first | refine l_end ?_ | refine l_nil ?_
  repeat refine c_seq ?_
  refine c_region ?_; refine l_op (o_as ?_); first | refine l_end ?_ | refine l_nil ?_
  repeat refine c_seq ?_
  refine c_block ?_; refine c_loop (ι := Nat) (fun i => [(5, VI i), (0, V64 (down64 x i)), (1, VI n)]) (fun i w' => i ≤ n ∧ w' = w) (fun i => n - i) 0 ⟨rfl, rfl, rfl, trivial⟩ ⟨by omega, rfl⟩ ?_; rintro i τ w' ⟨hi, hw⟩
  rw [hw]; clear hw w'
  repeat refine c_seq ?_
  refine c_region ?_; refine l_op (o_mv ?_); refine l_op (o_mv ?_); refine l_op (o_bin rfl rfl (fun _ => b_lss) ?_); first | refine l_end ?_ | refine l_nil ?_
  repeat refine c_seq ?_
  refine c_ifD rfl (fun hlt => ?_) (fun hlt => ?_)
  · have hlt' : i < n := by omega
    refine c_skip ?_; repeat refine c_seq ?_
    refine c_block ?_; repeat refine c_seq ?_
    refine c_region ?_; refine l_op (o_mv ?_); refine l_op (o_bin rfl (c64 2 (by decide)) (fun _ => b_quo_u64 (by decide)) ?_); refine l_op (o_as ?_); first | refine l_end ?_ | refine l_nil ?_
    repeat refine c_seq ?_
    refine c_region ?_; refine l_op (o_mv ?_); refine l_op (o_bin rfl rfl (fun _ => b_add (by omega) (by omega)) ?_); refine l_op (o_as ?_); first | refine l_end ?_ | refine l_nil ?_
    refine round_end (i + 1) ?_ ?_ ?_
    · exact ⟨rfl, rfl, rfl, trivial⟩
    · exact ⟨hlt', rfl⟩
    · show n - (i + 1) < n - i; omega
  · have hi' : i = n := by omega
    subst hi'
    refine c_exit ?_; repeat refine c_seq ?_
    refine c_region ?_; refine l_op (o_mv ?_); refine l_op (o_as ?_); first | refine l_end ?_ | refine l_nil ?_
    exact c_ret (e_ret1 Try.results67 rfl ⟨_, rfl, rfl, rfl⟩)
theorem keys_ret (w0 : World) : Ret Try.prog 52 [] w0 fun v w' => v = .agg (primeWords.map W64).toArray ∧ Hp w0 w' [] [] := by
  refine ret_mk Try.func52 rfl Try.ntmps52 (by simp) ?_
  have H := Hp.refl w0 []
  repeat refine c_seq ?_
  refine c_region ?_; refine l_op (o_alloc H zc101 (fun b0 w H hb0 => ?_)); first | refine l_end ?_ | refine l_nil ?_
  repeat refine c_seq ?_
  refine c_region ?_; refine l_op (o_bld' (cells := (primeWords.map W64).toArray) bd101 rfl (by kernel_rfl) ?_); refine l_op (o_stw H (i := 0) rfl rfl rfl (by rw [cs101]; rfl) (by kernel_rfl) (by rfl) (fun w H => ?_)); first | refine l_end ?_ | refine l_nil ?_
  refine c_ret (e_retc Try.results52 H (i := 0) rfl rfl rt101 (by rfl) ⟨_, rfl, rfl, ?_⟩); exact H.sub (List.nil_sublist _)
end Go.Proofs.Ytomjbabllcmodaa
namespace Go.Proofs.Ytomjbabllcmodaa
open Go
set_option maxRecDepth 100000
def padW (l : List UInt32) : List Value := l.map W64 ++ List.replicate (64 - l.length) (W64 0)
theorem padW_length (l : List UInt32) (h : l.length ≤ 64) : (padW l).length = 64 := by simp [padW]; omega
theorem padW_get (l : List UInt32) (j : Nat) (h : j < l.length) : (padW l)[j]? = some (W64 (l.getD j 0)) := by
  rw [padW, List.getElem?_append_left (by simpa using h)]
  simp [h]
theorem padW_set (l : List UInt32) (v : UInt32) (h : l.length < 64) : (padW l).set l.length (W64 v) = padW (l ++ [v]) := by
  unfold padW
  rw [List.set_append_right _ _ (by simp)]
  have : 64 - l.length = (64 - (l ++ [v]).length) + 1 := by simp; omega
  rw [this, List.replicate_succ]
  simp
theorem turnW_ret (w : World) (x : UInt32) (n : Nat) (h0 : 0 < n) (h : n < 32) : Ret Try.prog 66 [W64 x, VI n] w fun v w' => v = W64 (rotl x (32 - n)) ∧ w' = w :=
  (turn_ret w x.toUInt64 n (by omega)).mono fun v w' ⟨hv, hw⟩ => ⟨by rw [hv, turn64_eq x n h0 h]; rfl, hw⟩
theorem downW_ret (w : World) (x : UInt32) (n : Nat) (h : n < 32) : Ret Try.prog 67 [W64 x, VI n] w fun v w' => v = W64 (x >>> UInt32.ofNat n) ∧ w' = w :=
  (down_ret w x.toUInt64 n (by omega)).mono fun v w' ⟨hv, hw⟩ => ⟨by rw [hv, down64_eq x n h]; rfl, hw⟩
section
variable {P : Program} {t : TypeId} {w : World}
theorem b_xorW {x y : UInt32} : (binOp .xor t (W64 x) (W64 y)).run P w = .ok (W64 (x ^^^ y)) w := by
  have := b_xor_u64 (P := P) (t := t) (w := w) (x := x.toUInt64) (y := y.toUInt64)
  rw [W64, W64, this, W64, UInt32.toUInt64_xor]
theorem b_andW {x y : UInt32} : (binOp .and t (W64 x) (W64 y)).run P w = .ok (W64 (x &&& y)) w := by
  have := b_and_u64 (P := P) (t := t) (w := w) (x := x.toUInt64) (y := y.toUInt64)
  rw [W64, W64, this, W64, UInt32.toUInt64_and]
theorem b_notW {x : UInt32} : (binOp .sub t (V64 4294967295) (W64 x)).run P w = .ok (W64 (~~~ x)) w := by
  have := b_sub_u64 (P := P) (t := t) (w := w) (x := 4294967295) (y := x.toUInt64)
  have e : (4294967295 : UInt64) - x.toUInt64 = (~~~ x).toUInt64 := by
    apply UInt64.toNat_inj.1
    have hx := x.toNat_lt
    rw [UInt64.toNat_sub, UInt32.toNat_toUInt64, UInt32.toNat_toUInt64, UInt32.toNat_not]
    have : (4294967295 : UInt64).toNat = 4294967295 := rfl
    rw [this]
    have : UInt32.size = 4294967296 := rfl
    omega
  rw [W64, this, W64, e]
theorem b_maskW {u : UInt64} (x : UInt32) (h : u.toUInt32 = x) : (binOp .and t (V64 u) (V64 4294967295)).run P w = .ok (W64 x) w := by
  have := b_and_u64 (P := P) (t := t) (w := w) (x := u) (y := 4294967295)
  rw [this, and_all, h, W64]
end
theorem all_W64 (l : List UInt32) : (l.map W64).toArray.all (·.oneCell') = true := by
  rw [List.all_toArray]; simp [Value.oneCell', W64]
theorem red (x : UInt32) : x.toUInt64.toUInt32 = x := UInt32.toUInt32_toUInt64 x
attribute [local irreducible] rnds
set_option maxHeartbeats 4000000 in
theorem block_ret (w0 : World) (st : S8) (bs : List UInt8) : Ret Try.prog 53 [.agg (st.l.map W64).toArray, .agg (padW (firsts bs 16)).toArray, .agg (primeWords.map W64).toArray] w0 fun v w' => v = .agg ((comp st bs).l.map W64).toArray ∧ Hp w0 w' [] [] := by
  refine ret_mk Try.func53 rfl Try.ntmps53 (by simp) ?_
  have H := Hp.refl w0 []
  repeat refine c_seq ?_
  refine c_region ?_; refine l_op (o_box H rfl (fun b3 w H hb3 => ?_)); refine l_op (o_box H rfl (fun b4 w H hb4 => ?_)); refine l_op (o_box H rfl (fun b5 w H hb5 => ?_)); refine l_op (o_alloc H zc103 (fun b6 w H hb6 => ?_)); first | refine l_end ?_ | refine l_nil ?_
  replace H : Hp w0 w [] [.blk b3 (st.l.map W64) 103, .blk b4 (padW (sched bs 0)) 101, .blk b5 (primeWords.map W64) 101, .blk b6 (List.replicate 8 (Value.int .u64 0)) 103] := H
  repeat refine c_seq ?_
  refine c_region ?_; refine l_op (o_as ?_); first | refine l_end ?_ | refine l_nil ?_
  repeat refine c_seq ?_
  refine c_block ?_; refine c_loop (ι := Nat) (fun k => [(7, VI ((16 + k : Nat) : Int)), (3, .pointer (some ⟨b3, 0, none⟩)), (4, .pointer (some ⟨b4, 0, none⟩)), (5, .pointer (some ⟨b5, 0, none⟩)), (6, .pointer (some ⟨b6, 0, none⟩))])
    (fun k w => k ≤ 48 ∧ Hp w0 w [] [.blk b3 (st.l.map W64) 103, .blk b4 (padW (sched bs k)) 101, .blk b5 (primeWords.map W64) 101, .blk b6 (List.replicate 8 (Value.int .u64 0)) 103])
    (fun k => 48 - k) 0 ⟨rfl, rfl, rfl, rfl, rfl, trivial⟩ ⟨by omega, H⟩ ?_
  clear H
  rintro k τ w ⟨hk, H⟩
  have hsl := sched_length bs k
  repeat refine c_seq ?_
  refine c_region ?_; refine l_op (o_mv ?_); refine l_op (o_bin rfl rfl (fun _ => b_lss) ?_); first | refine l_end ?_ | refine l_nil ?_
  repeat refine c_seq ?_
  refine c_ifD rfl (fun hlt => ?_) (fun hlt => ?_)
  · have hlt' : k < 48 := by omega
    have hg : ∀ j, j < 16 + k → (padW (sched bs k))[j]? = some (W64 ((sched bs k).getD j 0)) := fun j hj => padW_get _ _ (by omega)
    have x0 : 0 + (((16 + k : Nat) : Int) - 16).toNat * 1 = 16 + k - 16 := by omega
    have x1 : 0 + (((16 + k : Nat) : Int) - 15).toNat * 1 = 16 + k - 15 := by omega
    have x2 : 0 + (((16 + k : Nat) : Int) - 2).toNat * 1 = 16 + k - 2 := by omega
    have x3 : 0 + (((16 + k : Nat) : Int) - 7).toNat * 1 = 16 + k - 7 := by omega
    generalize hA : (sched bs k).getD (16 + k - 16) 0 = xa
    generalize hB : (sched bs k).getD (16 + k - 15) 0 = xb
    generalize hC : (sched bs k).getD (16 + k - 2) 0 = xc
    generalize hD : (sched bs k).getD (16 + k - 7) 0 = xd
    have hnx : nextWord (sched bs k) = ((xa + sg0 xb) + xd) + sg1 xc := by rw [nextWord, hsl, hA, hB, hC, hD]
    refine c_skip ?_; repeat refine c_seq ?_
    refine c_block ?_; repeat refine c_seq ?_
    refine c_still mixed (by kernel_rfl) ?_; replace H := H.drew
    refine s_op (r_mv) ?_; refine s_op (r_bin rfl rfl (fun _ => b_sub (by omega) (by omega))) ?_; refine s_op (r_ia rfl rfl ar101 (by omega) (by omega)) ?_; refine s_op (r_ld H (v := W64 xb) (i := 1) rfl rfl ct91 (by rw [x1, hg _ (by omega), hB])) ?_; refine s_op (r_mv) ?_; refine s_op (r_bin rfl rfl (fun _ => b_sub (by omega) (by omega))) ?_; refine s_op (r_ia rfl rfl ar101 (by omega) (by omega)) ?_; refine s_op (r_ld H (v := W64 xc) (i := 1) rfl rfl ct91 (by rw [x2, hg _ (by omega), hC])) ?_; refine s_op (r_as) ?_; refine s_op (r_as) ?_; refine s_nil ?_; repeat refine c_seq ?_
    refine c_region ?_; refine l_op (o_mv ?_); refine l_op (o_callR Try.func66 rfl rfl rfl (turnW_ret _ _ 7 (by decide) (by decide)) ?_); rintro _ w' ⟨rfl, hw⟩
    rw [hw]; clear hw w'
    refine l_op (o_mv ?_); refine l_op (o_callR Try.func66 rfl rfl rfl (turnW_ret _ _ 18 (by decide) (by decide)) ?_); rintro _ w' ⟨rfl, hw⟩
    rw [hw]; clear hw w'
    refine l_op (o_bin rfl rfl (fun _ => b_xorW) ?_); refine l_op (o_mv ?_); refine l_op (o_callR Try.func67 rfl rfl rfl (downW_ret _ _ 3 (by decide)) ?_); rintro _ w' ⟨rfl, hw⟩
    rw [hw]; clear hw w'
    refine l_op (o_bin (v := W64 (sg0 xb)) rfl rfl (fun _ => b_xorW) ?_); refine l_op (o_as ?_); first | refine l_end ?_ | refine l_nil ?_
    repeat refine c_seq ?_
    refine c_region ?_; refine l_op (o_mv ?_); refine l_op (o_callR Try.func66 rfl rfl rfl (turnW_ret _ _ 17 (by decide) (by decide)) ?_); rintro _ w' ⟨rfl, hw⟩
    rw [hw]; clear hw w'
    refine l_op (o_mv ?_); refine l_op (o_callR Try.func66 rfl rfl rfl (turnW_ret _ _ 19 (by decide) (by decide)) ?_); rintro _ w' ⟨rfl, hw⟩
    rw [hw]; clear hw w'
    refine l_op (o_bin rfl rfl (fun _ => b_xorW) ?_); refine l_op (o_mv ?_); refine l_op (o_callR Try.func67 rfl rfl rfl (downW_ret _ _ 10 (by decide)) ?_); rintro _ w' ⟨rfl, hw⟩
    rw [hw]; clear hw w'
    refine l_op (o_bin (v := W64 (sg1 xc)) rfl rfl (fun _ => b_xorW) ?_); refine l_op (o_as ?_); first | refine l_end ?_ | refine l_nil ?_
    repeat refine c_seq ?_
    refine c_tail 15 mixed (by kernel_rfl) ?_; replace H := H.drew
    refine s_op (r_mv) ?_; refine s_op (r_mv) ?_; refine s_op (r_bin rfl rfl (fun _ => b_sub (by omega) (by omega))) ?_; refine s_op (r_ia rfl rfl ar101 (by omega) (by omega)) ?_; refine s_op (r_ld H (v := W64 xa) (i := 1) rfl rfl ct91 (by rw [x0, hg _ (by omega), hA])) ?_; refine s_op (r_mv) ?_; refine s_op (r_bin rfl rfl (fun _ => b_add_u64)) ?_; refine s_op (r_mv) ?_; refine s_op (r_bin rfl rfl (fun _ => b_sub (by omega) (by omega))) ?_; refine s_op (r_ia rfl rfl ar101 (by omega) (by omega)) ?_; refine s_op (r_ld H (v := W64 xd) (i := 1) rfl rfl ct91 (by rw [x3, hg _ (by omega), hD])) ?_; refine s_op (r_bin rfl rfl (fun _ => b_add_u64)) ?_; refine s_op (r_mv) ?_; refine s_op (r_bin rfl rfl (fun _ => b_add_u64)) ?_; refine s_op (r_bin (v := W64 (nextWord (sched bs k))) rfl (c64 4294967295 (by decide)) (fun _ => b_maskW _ (by rw [hnx]; simp only [UInt64.toUInt32_add, red]))) ?_; refine s_nil ?_; refine l_op (o_ia rfl rfl ar101 (by omega) (by omega) ?_); refine l_op (o_st H (i := 1) (v := W64 (nextWord (sched bs k))) rfl rfl rfl cs91 rfl (by rw [padW_length _ (by omega)]; omega) (fun w H => ?_)); first | refine l_end ?_ | refine l_nil ?_
    have e : (padW (sched bs k)).set (0 + ((16 + k : Nat) : Int).toNat * 1) (W64 (nextWord (sched bs k))) = padW (sched bs (k + 1)) := by
      rw [sched, ← padW_set _ _ (by omega), hsl]; congr 1; omega
    rw [e] at H
    repeat refine c_seq ?_
    refine c_region ?_; refine l_op (o_mv ?_); refine l_op (o_bin rfl rfl (fun _ => b_add (by omega) (by omega)) ?_); refine l_op (o_as ?_); first | refine l_end ?_ | refine l_nil ?_
    refine round_end (k + 1) ?_ ?_ ?_
    · exact ⟨rfl, rfl, rfl, rfl, rfl, trivial⟩
    · exact ⟨by omega, H⟩
    · show 48 - (k + 1) < 48 - k; omega
  · have hk48 : k = 48 := by omega
    subst hk48
    clear hlt hk hsl
    have hcomp : comp st bs = addS st (rnds (sched bs 48) st 64) := rfl
    rw [hcomp]
    have hsl := sched_length bs 48
    obtain ⟨sc, hsc⟩ : ∃ sc, sched bs 48 = sc := ⟨_, rfl⟩
    rw [hsc] at H hsl ⊢
    clear hsc hcomp
    have hpw : primeWords.length = 64 := rfl
    have hpad : padW sc = sc.map W64 := by simp [padW, hsl]
    rw [hpad] at H
    have g1 : ∀ j, j < 64 → (primeWords.map W64)[j]? = some (W64 (primeWords.getD j 0)) := fun j hj => by simp [show j < primeWords.length by omega]
    have g2 : ∀ j, j < 64 → (sc.map W64)[j]? = some (W64 (sc.getD j 0)) := fun j hj => by simp [show j < sc.length by omega]
    refine c_exit ?_; repeat refine c_seq ?_
    refine c_region ?_; refine l_op (o_ldr H (i := 0) rfl rfl rt103 (Nat.le_refl 8) ?_); refine l_op (o_alloc H zc103 (fun b12 w H hb12 => ?_)); refine l_op (o_stw H (i := 4) rfl rfl rfl (by rw [cs103]; rfl) (all_W64 st.l) (by rfl) (fun w H => ?_)); first | refine l_end ?_ | refine l_nil ?_
    repeat refine c_seq ?_
    refine c_region ?_; refine l_op (o_as ?_); first | refine l_end ?_ | refine l_nil ?_
    repeat refine c_seq ?_
    refine c_block ?_; refine c_loop (ι := Nat) (fun i => [(13, VI i), (3, .pointer (some ⟨b3, 0, none⟩)), (4, .pointer (some ⟨b4, 0, none⟩)), (5, .pointer (some ⟨b5, 0, none⟩)), (6, .pointer (some ⟨b6, 0, none⟩)), (12, .pointer (some ⟨b12, 0, none⟩))])
      (fun i w => i ≤ 64 ∧ Hp w0 w [] [.blk b3 (st.l.map W64) 103, .blk b4 (sc.map W64) 101, .blk b5 (primeWords.map W64) 101, .blk b6 (List.replicate 8 (Value.int .u64 0)) 103, .blk b12 ((rnds sc st i).l.map W64) 103])
      (fun i => 64 - i) 0 ⟨rfl, rfl, rfl, rfl, rfl, rfl, trivial⟩ ⟨by omega, by rw [rnds]; exact H⟩ ?_
    clear H
    rintro i τ w ⟨hi, H⟩
    repeat refine c_seq ?_
    refine c_region ?_; refine l_op (o_mv ?_); refine l_op (o_bin rfl rfl (fun _ => b_lss) ?_); first | refine l_end ?_ | refine l_nil ?_
    repeat refine c_seq ?_
    refine c_ifD rfl (fun hlt => ?_) (fun hlt => ?_)
    · have hlt' : i < 64 := by omega
      have x1 : 0 + (i : Int).toNat * 1 = i := by omega
      have e9 := rnds.eq_2 sc st i
      generalize rnds sc st i = r at H e9
      generalize hkk : primeWords.getD i 0 = kk at e9
      generalize hww : sc.getD i 0 = ww at e9
      refine c_skip ?_; repeat refine c_seq ?_
      refine c_block ?_; repeat refine c_seq ?_
      refine c_still mixed (by kernel_rfl) ?_; replace H := H.drew
      refine s_op (r_ia rfl rfl ar103 (by omega) (by omega)) ?_; refine s_op (r_ld H (i := 4) rfl rfl ct91 rfl) ?_; refine s_op (r_ia rfl rfl ar103 (by omega) (by omega)) ?_; refine s_op (r_ld H (i := 4) rfl rfl ct91 rfl) ?_; refine s_op (r_as) ?_; refine s_op (r_as) ?_; refine s_nil ?_; repeat refine c_seq ?_
      refine c_region ?_; refine l_op (o_mv ?_); refine l_op (o_callR Try.func66 rfl rfl rfl (turnW_ret _ _ 6 (by decide) (by decide)) ?_); rintro _ w' ⟨rfl, hw⟩
      rw [hw]; clear hw w'
      refine l_op (o_mv ?_); refine l_op (o_callR Try.func66 rfl rfl rfl (turnW_ret _ _ 11 (by decide) (by decide)) ?_); rintro _ w' ⟨rfl, hw⟩
      rw [hw]; clear hw w'
      refine l_op (o_bin rfl rfl (fun _ => b_xorW) ?_); refine l_op (o_mv ?_); refine l_op (o_callR Try.func66 rfl rfl rfl (turnW_ret _ _ 25 (by decide) (by decide)) ?_); rintro _ w' ⟨rfl, hw⟩
      rw [hw]; clear hw w'
      refine l_op (o_bin rfl rfl (fun _ => b_xorW) ?_); refine l_op (o_as ?_); first | refine l_end ?_ | refine l_nil ?_
      repeat refine c_seq ?_
      refine c_region ?_; refine l_op (o_mv ?_); refine l_op (o_ia rfl rfl ar103 (by omega) (by omega) ?_); refine l_op (o_ld H (i := 4) rfl rfl ct91 rfl ?_); refine l_op (o_bin rfl rfl (fun _ => b_andW) ?_); refine l_op (o_mv ?_); refine l_op (o_bin (c64 4294967295 (by decide)) rfl (fun _ => b_notW) ?_); refine l_op (o_ia rfl rfl ar103 (by omega) (by omega) ?_); refine l_op (o_ld H (i := 4) rfl rfl ct91 rfl ?_); refine l_op (o_bin rfl rfl (fun _ => b_andW) ?_); refine l_op (o_bin rfl rfl (fun _ => b_xorW) ?_); refine l_op (o_as ?_); first | refine l_end ?_ | refine l_nil ?_
      repeat refine c_seq ?_
      refine c_still mixed (by kernel_rfl) ?_; replace H := H.drew
      refine s_op (r_ia rfl rfl ar103 (by omega) (by omega)) ?_; refine s_op (r_ld H (i := 4) rfl rfl ct91 rfl) ?_; refine s_op (r_mv) ?_; refine s_op (r_bin rfl rfl (fun _ => b_add_u64)) ?_; refine s_op (r_mv) ?_; refine s_op (r_bin rfl rfl (fun _ => b_add_u64)) ?_; refine s_op (r_mv) ?_; refine s_op (r_ia rfl rfl ar101 (by omega) (by omega)) ?_; refine s_op (r_ld H (v := W64 kk) (i := 2) rfl rfl ct91 (by rw [x1, g1 i hlt', hkk])) ?_; refine s_op (r_bin rfl rfl (fun _ => b_add_u64)) ?_; refine s_op (r_mv) ?_; refine s_op (r_ia rfl rfl ar101 (by omega) (by omega)) ?_; refine s_op (r_ld H (v := W64 ww) (i := 1) rfl rfl ct91 (by rw [x1, g2 i hlt', hww])) ?_; refine s_op (r_bin rfl rfl (fun _ => b_add_u64)) ?_; refine s_op (r_as) ?_; refine s_nil ?_; repeat refine c_seq ?_
      refine c_region ?_; refine l_op (o_mv ?_); refine l_op (o_callR Try.func66 rfl rfl rfl (turnW_ret _ _ 2 (by decide) (by decide)) ?_); rintro _ w' ⟨rfl, hw⟩
      rw [hw]; clear hw w'
      refine l_op (o_mv ?_); refine l_op (o_callR Try.func66 rfl rfl rfl (turnW_ret _ _ 13 (by decide) (by decide)) ?_); rintro _ w' ⟨rfl, hw⟩
      rw [hw]; clear hw w'
      refine l_op (o_bin rfl rfl (fun _ => b_xorW) ?_); refine l_op (o_mv ?_); refine l_op (o_callR Try.func66 rfl rfl rfl (turnW_ret _ _ 22 (by decide) (by decide)) ?_); rintro _ w' ⟨rfl, hw⟩
      rw [hw]; clear hw w'
      refine l_op (o_bin rfl rfl (fun _ => b_xorW) ?_); refine l_op (o_as ?_); first | refine l_end ?_ | refine l_nil ?_
      repeat refine c_seq ?_
      refine c_region ?_; refine l_op (o_mv ?_); refine l_op (o_ia rfl rfl ar103 (by omega) (by omega) ?_); refine l_op (o_ld H (i := 4) rfl rfl ct91 rfl ?_); refine l_op (o_bin rfl rfl (fun _ => b_andW) ?_); refine l_op (o_mv ?_); refine l_op (o_ia rfl rfl ar103 (by omega) (by omega) ?_); refine l_op (o_ld H (i := 4) rfl rfl ct91 rfl ?_); refine l_op (o_bin rfl rfl (fun _ => b_andW) ?_); refine l_op (o_bin rfl rfl (fun _ => b_xorW) ?_); refine l_op (o_ia rfl rfl ar103 (by omega) (by omega) ?_); refine l_op (o_ld H (i := 4) rfl rfl ct91 rfl ?_); refine l_op (o_ia rfl rfl ar103 (by omega) (by omega) ?_); refine l_op (o_ld H (i := 4) rfl rfl ct91 rfl ?_); refine l_op (o_bin rfl rfl (fun _ => b_andW) ?_); refine l_op (o_bin rfl rfl (fun _ => b_xorW) ?_); refine l_op (o_as ?_); first | refine l_end ?_ | refine l_nil ?_
      repeat refine c_seq ?_
      refine c_region ?_; refine l_op (o_mv ?_); refine l_op (o_mv ?_); refine l_op (o_bin rfl rfl (fun _ => b_add_u64) ?_); refine l_op (o_mv ?_); refine l_op (o_bin rfl rfl (fun _ => b_add_u64) ?_); refine l_op (o_bin (v := W64 (rnd r kk ww).a) rfl (c64 4294967295 (by decide)) (fun _ => b_maskW _ (by simp only [UInt64.toUInt32_add, red]; exact UInt32.add_assoc _ _ _)) ?_); refine l_op (o_ia rfl rfl ar103 (by omega) (by omega) ?_); refine l_op (o_ld H (i := 4) rfl rfl ct91 rfl ?_); refine l_op (o_ia rfl rfl ar103 (by omega) (by omega) ?_); refine l_op (o_ld H (i := 4) rfl rfl ct91 rfl ?_); refine l_op (o_ia rfl rfl ar103 (by omega) (by omega) ?_); refine l_op (o_ld H (i := 4) rfl rfl ct91 rfl ?_); refine l_op (o_ia rfl rfl ar103 (by omega) (by omega) ?_); refine l_op (o_ld H (i := 4) rfl rfl ct91 rfl ?_); refine l_op (o_mv ?_); refine l_op (o_bin rfl rfl (fun _ => b_add_u64) ?_); refine l_op (o_bin (v := W64 (rnd r kk ww).e) rfl (c64 4294967295 (by decide)) (fun _ => b_maskW _ (by simp only [UInt64.toUInt32_add, red]; rfl)) ?_); refine l_op (o_ia rfl rfl ar103 (by omega) (by omega) ?_); refine l_op (o_ld H (i := 4) rfl rfl ct91 rfl ?_); refine l_op (o_ia rfl rfl ar103 (by omega) (by omega) ?_); refine l_op (o_ld H (i := 4) rfl rfl ct91 rfl ?_); refine l_op (o_ia rfl rfl ar103 (by omega) (by omega) ?_); refine l_op (o_ld H (i := 4) rfl rfl ct91 rfl ?_); refine l_op (o_bld' (pv := en 0 ((rnd r kk ww).l.map W64)) bd103 rfl (fill_en _ (all_W64 _) rfl) ?_); refine l_op (o_stw H (i := 4) rfl rfl rfl (by rw [cs103]; rfl) (all_W64 _) (by rfl) (fun w H => ?_)); first | refine l_end ?_ | refine l_nil ?_
      repeat refine c_seq ?_
      refine c_region ?_; refine l_op (o_mv ?_); refine l_op (o_bin rfl rfl (fun _ => b_add (by omega) (by omega)) ?_); refine l_op (o_as ?_); first | refine l_end ?_ | refine l_nil ?_
      refine round_end (i + 1) ?_ ?_ ?_
      · exact ⟨rfl, rfl, rfl, rfl, rfl, rfl, trivial⟩
      · exact ⟨hlt', by rw [e9]; exact H⟩
      · show 64 - (i + 1) < 64 - i; omega
    · have hi64 : i = 64 := by omega
      subst hi64
      clear hlt hi
      obtain ⟨rr, hrr⟩ : ∃ rr, rnds sc st 64 = rr := ⟨_, rfl⟩
      rw [hrr] at H ⊢
      clear hrr
      refine c_exit ?_; repeat refine c_seq ?_
      refine c_region ?_; refine l_op (o_as ?_); first | refine l_end ?_ | refine l_nil ?_
      repeat refine c_seq ?_
      refine c_block ?_; refine c_loop (ι := Nat) (fun i => [(21, VI i), (3, .pointer (some ⟨b3, 0, none⟩)), (6, .pointer (some ⟨b6, 0, none⟩)), (12, .pointer (some ⟨b12, 0, none⟩))])
        (fun i w => i ≤ 8 ∧ Hp w0 w [] [.blk b3 ((parts (addS st rr).l st.l i).map W64) 103, .blk b4 (sc.map W64) 101, .blk b5 (primeWords.map W64) 101, .blk b6 (List.replicate 8 (Value.int .u64 0)) 103, .blk b12 (rr.l.map W64) 103])
        (fun i => 8 - i) 0 ⟨rfl, rfl, rfl, rfl, trivial⟩ ⟨by omega, H⟩ ?_
      clear H
      rintro i τ w ⟨hi, H⟩
      repeat refine c_seq ?_
      refine c_region ?_; refine l_op (o_mv ?_); refine l_op (o_bin rfl rfl (fun _ => b_lss) ?_); first | refine l_end ?_ | refine l_nil ?_
      repeat refine c_seq ?_
      refine c_ifD rfl (fun hlt => ?_) (fun hlt => ?_)
      · have hlt' : i < 8 := by omega
        have h8 : (addS st rr).l.length = 8 := rfl
        have h8' : st.l.length = 8 := rfl
        have hpl8 : (parts (addS st rr).l st.l i).length = 8 := parts_length _ _ i rfl (by omega)
        have x1 : 0 + (i : Int).toNat * 1 = i := by omega
        have g3 : ((parts (addS st rr).l st.l i).map W64)[i]? = some (W64 (st.l.getD i 0)) := by
          rw [← parts_get _ _ i (h8.trans h8'.symm) (by omega)]
          simp [show i < (parts (addS st rr).l st.l i).length by omega]
        have g4 : (rr.l.map W64)[i]? = some (W64 (rr.l.getD i 0)) := by
          have : i < rr.l.length := hlt'
          simp [this]
        refine c_skip ?_; repeat refine c_seq ?_
        refine c_block ?_; repeat refine c_seq ?_
        refine c_tail 9 mixed (by kernel_rfl) ?_; replace H := H.drew
        refine s_op (r_mv) ?_; refine s_op (r_mv) ?_; refine s_op (r_ia rfl rfl ar103 (by omega) (by omega)) ?_; refine s_op (r_ld H (i := 0) rfl rfl ct91 (by rw [x1]; exact g3)) ?_; refine s_op (r_mv) ?_; refine s_op (r_ia rfl rfl ar103 (by omega) (by omega)) ?_; refine s_op (r_ld H (i := 4) rfl rfl ct91 (by rw [x1]; exact g4)) ?_; refine s_op (r_bin rfl rfl (fun _ => b_add_u64)) ?_; refine s_op (r_bin (v := W64 ((addS st rr).l.getD i 0)) rfl (c64 4294967295 (by decide)) (fun _ => b_maskW _ (by simp only [UInt64.toUInt32_add, red]; exact add_get _ _ i hlt'))) ?_; refine s_nil ?_; refine l_op (o_ia rfl rfl ar103 (by omega) (by omega) ?_); refine l_op (o_st H (i := 0) (v := W64 ((addS st rr).l.getD i 0)) rfl rfl rfl cs91 rfl (by rw [x1, List.length_map, hpl8]; exact hlt') (fun w H => ?_)); first | refine l_end ?_ | refine l_nil ?_
        have e : ((parts (addS st rr).l st.l i).map W64).set (0 + (i : Int).toNat * 1) (W64 ((addS st rr).l.getD i 0)) = (parts (addS st rr).l st.l (i + 1)).map W64 := by
          rw [x1, ← List.map_set, parts_set _ _ i (h8.trans h8'.symm) (by omega)]
        rw [e] at H
        repeat refine c_seq ?_
        refine c_region ?_; refine l_op (o_mv ?_); refine l_op (o_bin rfl rfl (fun _ => b_add (by omega) (by omega)) ?_); refine l_op (o_as ?_); first | refine l_end ?_ | refine l_nil ?_
        refine round_end (i + 1) ?_ ?_ ?_
        · exact ⟨rfl, rfl, rfl, rfl, trivial⟩
        · exact ⟨by omega, H⟩
        · show 8 - (i + 1) < 8 - i; omega
      · have hi8 : i = 8 := by omega
        subst hi8
        refine c_exit ?_; repeat refine c_seq ?_
        refine c_region ?_; refine l_op (o_ldr H (i := 0) rfl rfl rt103 (Nat.le_refl 8) ?_); refine l_op (o_stw H (i := 3) rfl rfl rfl (by rw [cs103]; rfl) (all_W64 (addS st rr).l) (by rfl) (fun w H => ?_)); first | refine l_end ?_ | refine l_nil ?_
        refine c_ret (e_retc Try.results53 H (i := 3) rfl rfl rt103 (by rfl) ⟨_, rfl, rfl, ?_⟩); exact H.sub (List.nil_sublist _)
end Go.Proofs.Ytomjbabllcmodaa
namespace Go.Proofs.Ytomjbabllcmodaa
open Go
/-- the sixty-four words when i bytes have been read. -/
def wpart (bs : List UInt8) (i : Nat) : List Value := (List.range 64).map fun j => V64 (UInt64.ofNat (pwN bs j (min 4 (i - 4 * j))))
theorem wpart_length (bs : List UInt8) (i : Nat) : (wpart bs i).length = 64 := by simp [wpart]
theorem wpart_get (bs : List UInt8) (i : Nat) (h : i < 64) : (wpart bs i)[i / 4]? = some (V64 (UInt64.ofNat (pwN bs (i / 4) (i % 4)))) := by
  have e : min 4 (i - 4 * (i / 4)) = i % 4 := by omega
  simp [wpart, List.getElem?_range (show i / 4 < 64 by omega), e]
theorem wpart_set (bs : List UInt8) (i : Nat) (h : i < 64) : (wpart bs i).set (i / 4) (V64 (UInt64.ofNat (pwN bs (i / 4) (i % 4 + 1)))) = wpart bs (i + 1) := by
  apply List.ext_getElem?
  intro j
  rw [List.getElem?_set, wpart_length]
  by_cases hj : i / 4 = j
  · subst hj
    have e : min 4 (i + 1 - 4 * (i / 4)) = i % 4 + 1 := by omega
    rw [if_pos rfl, if_pos (by omega)]
    simp [wpart, List.getElem?_range (show i / 4 < 64 by omega), e]
  · rw [if_neg hj]
    by_cases hl : j < 64
    · have e : min 4 (i - 4 * j) = min 4 (i + 1 - 4 * j) := by omega
      simp [wpart, List.getElem?_range hl, e]
    · simp [wpart, show 64 ≤ j by omega]
theorem wpart_zero (bs : List UInt8) : wpart bs 0 = List.replicate 64 (Value.int .u64 0) := by
  apply List.ext_getElem?
  intro j
  by_cases hl : j < 64
  · rw [List.getElem?_replicate, if_pos hl]; simp [wpart, List.getElem?_range hl, pwN, V64]
  · simp [wpart, show 64 ≤ j by omega]
theorem ofNat_word (x : UInt32) : UInt64.ofNat x.toNat = x.toUInt64 := by
  apply UInt64.toNat_inj.1
  have := x.toNat_lt
  rw [UInt64.toNat_ofNat', UInt32.toNat_toUInt64]; omega
theorem firsts_get (bs : List UInt8) : ∀ (n j : Nat), j < n → (firsts bs n)[j]? = some (wordAt bs j)
  | 0, _, h => by omega
  | n + 1, j, h => by
    by_cases hj : j < n
    · rw [firsts, List.getElem?_append_left (by rw [firsts_length]; exact hj)]; exact firsts_get bs n j hj
    · have : j = n := by omega
      subst this
      rw [firsts, List.getElem?_append_right (by rw [firsts_length]; exact Nat.le_refl _), firsts_length]; simp
theorem wpart_all (bs : List UInt8) : wpart bs 64 = padW (firsts bs 16) := by
  apply List.ext_getElem?
  intro j
  have hfl := firsts_length bs 16
  by_cases h1 : j < 16
  · have e : min 4 (64 - 4 * j) = 4 := by omega
    rw [padW, List.getElem?_append_left (by rw [List.length_map, hfl]; exact h1), List.getElem?_map, firsts_get bs 16 j h1]
    simp [wpart, List.getElem?_range (show j < 64 by omega), e, ← wordAt_nat, W64]
  · by_cases hl : j < 64
    · have e : 64 - 4 * j = 0 := by omega
      rw [padW, List.getElem?_append_right (by rw [List.length_map, hfl]; omega), List.length_map, hfl, List.getElem?_replicate, if_pos (by omega)]
      simp [wpart, List.getElem?_range hl, e, pwN, W64]
    · rw [List.getElem?_eq_none (by rw [wpart_length]; omega), List.getElem?_eq_none (by rw [padW_length _ (by omega)]; omega)]
end Go.Proofs.Ytomjbabllcmodaa
namespace Go.Proofs.Ytomjbabllcmodaa
open Go
theorem step1_m (s : HS) (b : UInt8) : (step1 s b).m = s.m + 1 := by unfold step1; split <;> rfl
theorem absorb_m (l : List UInt8) : ∀ s : HS, (absorb s l).m = s.m + UInt64.ofNat l.length := by
  induction l with
  | nil => intro s; simp [absorb]
  | cons b l ih => intro s; rw [absorb, ih, step1_m, add_one]; rfl
/-- how many zeros there are behind the byte 128. -/
def zerosOf (m : UInt64) : Nat := (119 - m.toNat % 64) % 64
def lenBytes (m : UInt64) : List UInt8 := (List.range 8).map fun i => ((m <<< 3) >>> UInt64.ofNat (56 - 8 * i)).toUInt8
theorem lenBytes_length (m : UInt64) : (lenBytes m).length = 8 := by simp [lenBytes]
theorem lenBytes_succ (m : UInt64) (i : Nat) (h : i < 8) : (lenBytes m).take (i + 1) = (lenBytes m).take i ++ [((m <<< 3) >>> UInt64.ofNat (56 - 8 * i)).toUInt8] := by
  rw [List.take_succ_eq_append_getElem (by rw [lenBytes_length]; exact h)]
  simp [lenBytes]
def tailOf (m : UInt64) : List UInt8 := 128 :: (List.replicate (zerosOf m) 0 ++ lenBytes m)
def closed (s : HS) : HS := absorb s (tailOf s.m)
def wordBytes (l : List UInt32) : List UInt8 := (List.range 32).map fun j => ((l.getD (j / 4) 0) >>> UInt32.ofNat (24 - 8 * (j % 4))).toUInt8
def digest (s : HS) : List UInt8 := wordBytes (closed s).st.l
theorem wordBytes_length (l : List UInt32) : (wordBytes l).length = 32 := by simp [wordBytes]
theorem digest_length (s : HS) : (digest s).length = 32 := wordBytes_length _
end Go.Proofs.Ytomjbabllcmodaa
namespace Go.Proofs.Ytomjbabllcmodaa
open Go
def foldB (st : S8) (M : List UInt8) : Nat → S8
  | 0 => st
  | n + 1 => comp (foldB st M n) ((M.drop (64 * n)).take 64)
theorem foldB_ext (st : S8) (M M' : List UInt8) : ∀ n, M.take (64 * n) = M'.take (64 * n) → foldB st M n = foldB st M' n
  | 0, _ => rfl
  | n + 1, h => by
    have h1 : M.take (64 * n) = M'.take (64 * n) := by
      have := congrArg (List.take (64 * n)) h
      rwa [List.take_take, List.take_take, Nat.min_eq_left (by omega)] at this
    have h2 : (M.drop (64 * n)).take 64 = (M'.drop (64 * n)).take 64 := by
      have := congrArg (List.drop (64 * n)) h
      rwa [List.drop_take, List.drop_take, show 64 * (n + 1) - 64 * n = 64 by omega] at this
    rw [foldB, foldB, foldB_ext st M M' n h1, h2]
theorem absorb_blocks (s : HS) (hwt : s.wt.length = 64) (hat : s.at_ = 0) : ∀ (n : Nat) (M : List UInt8), M.length = 64 * n → (absorb s M).st = foldB s.st M n
  | 0, M, h => by
    have : M = [] := List.length_eq_zero_iff.1 (by omega)
    subst this; rfl
  | n + 1, M, h => by
    have ih := absorb_blocks s hwt hat n (M.take (64 * n)) (by rw [List.length_take]; omega)
    have e : M = M.take (64 * n) ++ M.drop (64 * n) := (List.take_append_drop _ _).symm
    have hl : (M.drop (64 * n)).length = 64 := by rw [List.length_drop]; omega
    have ha : (absorb s (M.take (64 * n))).at_ = 0 := by
      simp only [HS.at_] at hat ⊢
      rw [absorb_m, List.length_take, UInt64.toNat_add, UInt64.toNat_ofNat', Nat.min_eq_left (by omega)]
      omega
    have hw : (absorb s (M.take (64 * n))).wt.length = 64 := by rw [absorb_wt, hwt]
    have hf := absorb_full (M.drop (64 * n)) (absorb s (M.take (64 * n))) hw (by rw [ha, hl]) (fun e => by rw [e] at hl; simp at hl)
    have hsp : spl (absorb s (M.take (64 * n))).wt 0 (M.drop (64 * n)) = M.drop (64 * n) := by
      have hd : (absorb s (M.take (64 * n))).wt.drop (0 + (M.drop (64 * n)).length) = [] := List.drop_of_length_le (by rw [hl]; omega)
      unfold spl
      rw [hd, List.take_zero, List.nil_append, List.append_nil]
    rw [ha, hsp] at hf
    have e2 : absorb s M = absorb (absorb s (M.take (64 * n))) (M.drop (64 * n)) := by rw [← absorb_append, ← e]
    rw [e2, hf]
    simp only
    rw [ih, foldB, foldB_ext s.st (M.take (64 * n)) M n (by rw [List.take_take, Nat.min_self]), List.take_of_length_le (Nat.le_of_eq hl)]
/-- the text with what stands behind it. -/
def padded (l : List UInt8) : List UInt8 := l ++ tailOf (UInt64.ofNat l.length)
theorem init_at : HS.at_ HS.init = 0 := rfl
theorem digest_padded (l : List UInt8) (n : Nat) (h : (padded l).length = 64 * n) : digest (absorb HS.init l) = wordBytes (foldB initS (padded l) n).l := by
  have hm : (absorb HS.init l).m = UInt64.ofNat l.length := by
    rw [absorb_m]
    show (0 : UInt64) + _ = _
    rw [UInt64.zero_add]
  rw [digest, closed, hm, ← absorb_append]
  have := absorb_blocks HS.init rfl init_at n (padded l) h
  rw [padded] at this
  rw [this]; rfl
theorem padded_len (l : List UInt8) (h : l.length < 1152921504606846976) : 64 ∣ (padded l).length := by
  have e : (UInt64.ofNat l.length).toNat = l.length := by rw [UInt64.toNat_ofNat']; omega
  simp only [padded, tailOf, zerosOf, e, List.length_append, List.length_cons, List.length_replicate, lenBytes_length]
  omega
end Go.Proofs.Ytomjbabllcmodaa
namespace Go.Proofs.Ytomjbabllcmodaa
open Go
/-- the hash of a text. -/
def sha256 (l : List UInt8) : List UInt8 := digest (absorb HS.init l)
theorem sha256_len (l : List UInt8) : (sha256 l).length = 32 := digest_length _
theorem sha256_eq (l : List UInt8) : sha256 l = digest (absorb HS.init l) := rfl
end Go.Proofs.Ytomjbabllcmodaa
namespace Go.Proofs.Ytomjbabllcmodaa
open Go
set_option maxRecDepth 100000
/-- the text, 128 and j zeros. -/
def pz (l : List UInt8) (j : Nat) : List UInt8 := l ++ 128 :: List.replicate j 0
theorem pz_succ (l : List UInt8) (j : Nat) : pz l j ++ [0] = pz l (j + 1) := by simp [pz, List.replicate_succ']
def Zn (n : Nat) : Nat := (119 - n % 64) % 64
theorem mul8N (n : Nat) : UInt64.ofNat (n * 8) = UInt64.ofNat n <<< (3 : UInt64) := by
  rw [UInt64.ofNat_mul]
  apply UInt64.toNat_inj.1
  rw [UInt64.toNat_mul, UInt64.toNat_shiftLeft, Nat.shiftLeft_eq]
  rfl
/-- the text, what is behind it, and i bytes of its length. -/
def plen (l : List UInt8) (n i : Nat) : List UInt8 := pz l (Zn n) ++ (lenBytes (UInt64.ofNat n)).take i
theorem zeros_Zn (n : Nat) : zerosOf (UInt64.ofNat n) = Zn n := by
  rw [zerosOf, UInt64.toNat_ofNat', Zn]; congr 2; omega
theorem plen_zero (l : List UInt8) (n : Nat) : pz l (Zn n) = plen l n 0 := by simp [plen]
theorem plen_succ (l : List UInt8) (n i : Nat) (h : i < 8) (k : Nat) (hk : k = 56 - 8 * i) : plen l n i ++ [(UInt64.ofNat (n * 8) >>> UInt64.ofNat k).toUInt8] = plen l n (i + 1) := by
  rw [plen, plen, lenBytes_succ _ i h, mul8N, hk, List.append_assoc]
theorem plen_all (l : List UInt8) (n : Nat) (h : l.length = n) : plen l n 8 = padded l := by
  rw [plen, List.take_of_length_le (Nat.le_of_eq (lenBytes_length _)), padded, tailOf, pz, h, zeros_Zn]; simp
theorem padded_length (l : List UInt8) (n : Nat) (h : l.length = n) (_hn : n < 1152921504606846976) : (padded l).length = n + 1 + Zn n + 8 := by
  rw [padded, tailOf, h, zeros_Zn]; simp [lenBytes_length, h]; omega
theorem W64_word (x : UInt32) (q k : Nat) (hk : k = 24 - 8 * (q % 4)) : (x.toUInt64 >>> UInt64.ofNat k).toUInt8 = (x >>> UInt32.ofNat (24 - 8 * (q % 4))).toUInt8 := by
  apply UInt8.toNat_inj.1
  have e1 : (UInt64.ofNat k).toNat % 64 = k := by rw [UInt64.toNat_ofNat']; omega
  have e2 : (UInt32.ofNat (24 - 8 * (q % 4))).toNat % 32 = 24 - 8 * (q % 4) := by rw [UInt32.toNat_ofNat']; omega
  rw [UInt64.toNat_toUInt8, UInt64.toNat_shiftRight, e1, UInt32.toNat_toUInt8, UInt32.toNat_shiftRight, e2, UInt32.toNat_toUInt64, hk]
theorem u8_u64 (x : UInt8) : x.toUInt64 = UInt64.ofNat x.toNat := by
  apply UInt64.toNat_inj.1
  have := u8_lt x
  rw [UInt8.toNat_toUInt64, UInt64.toNat_ofNat']; omega
theorem wstep (M : List UInt8) (i q : Nat) (hq : q < 64) (x : UInt8) (hx : x = M.getD (64 * i + q) 0) :
    UInt64.ofNat (pwN ((M.drop (64 * i)).take 64) (q / 4) (q % 4) * 256) + x.toUInt64 = UInt64.ofNat (pwN ((M.drop (64 * i)).take 64) (q / 4) (q % 4 + 1)) := by
  have e : ((M.drop (64 * i)).take 64).getD (4 * (q / 4) + q % 4) 0 = x := by
    rw [show 4 * (q / 4) + q % 4 = q by omega, hx, List.getD_eq_getElem?_getD, List.getD_eq_getElem?_getD, List.getElem?_take_of_lt hq, List.getElem?_drop]
  rw [pwN, e, UInt64.ofNat_add, u8_u64]
/-- the first q bytes of a hash, zeros behind. -/
def wbp (W : List UInt32) (q : Nat) : List UInt8 := (wordBytes W).take q ++ List.replicate (32 - q) 0
theorem wbp_len (W : List UInt32) (q : Nat) (h : q ≤ 32) : (wbp W q).length = 32 := by simp [wbp, wordBytes_length]; omega
theorem wbp_set (W : List UInt32) (q : Nat) (h : q < 32) (v : UInt8) (hv : v = ((W.getD (q / 4) 0) >>> UInt32.ofNat (24 - 8 * (q % 4))).toUInt8) : (wbp W q).set q v = wbp W (q + 1) := by
  have hl : ((wordBytes W).take q).length = q := by simp [wordBytes_length]; omega
  have hg : (wordBytes W)[q]? = some v := by rw [hv, wordBytes]; simp [h]
  unfold wbp
  rw [List.set_append_right _ _ (by omega), hl, Nat.sub_self, show 32 - q = (32 - (q + 1)) + 1 by omega, List.replicate_succ, List.set_cons_zero, List.take_add_one, hg]
  simp
theorem wbp_all (W : List UInt32) : wbp W 32 = wordBytes W := by
  rw [wbp, List.take_of_length_le (Nat.le_of_eq (wordBytes_length _))]; simp
theorem W64_get (l : List UInt32) (k : Nat) (h : k < l.length) : (l.map W64)[k]? = some (V64 ((l.getD k 0).toUInt64)) := by
  simp [List.getD_eq_getElem?_getD, h, W64]
theorem foldB0 (M : List UInt8) : foldB initS M 0 = initS := rfl
attribute [local irreducible] padded wordBytes lenBytes plen
set_option maxHeartbeats 4000000 in
theorem sum2_ret (w0 : World) (s : Sl) (hs : s.ok w0) (hm : s.len ≤ 1048576) :
    Ret Try.prog 36 [s.v] w0 fun v w' => v = .agg ((sha256 s.l).map V8).toArray ∧ Hp w0 w' [] [] := by
  refine ret_mk Try.func36 rfl Try.ntmps36 (by simp) ?_
  have H := Hp.refl w0 []
  have hln := hs.ln
  have hle := hs.le
  repeat refine c_seq ?_
  refine c_region ?_; refine l_op (o_alloc H zc29 (fun b1 w H hb1 => ?_)); replace H : Hp _ w _ ([.blk b1 ((List.replicate 32 (0 : UInt8)).map V8) 29]) := H
  first | refine l_end ?_ | refine l_nil ?_
  repeat refine c_seq ?_
  refine c_region ?_; refine l_op (o_callR Try.func52 rfl rfl rfl (keys_ret _) ?_); rintro _ w ⟨rfl, Hc⟩
  replace H : Hp _ w _ ([_]) := H.call Hc
  clear Hc
  refine l_op (o_alloc H zc101 (fun b2 w H hb2 => ?_)); replace H : Hp _ w _ ([_, .blk b2 ((List.replicate 64 (Value.int .u64 0))) 101]) := H
  refine l_op (o_stw (vs := (primeWords.map W64).toArray) H (i := 1) rfl rfl rfl (by rw [cs101]; rfl) (all_W64 _) (by rfl) (fun w H => ?_)); replace H : Hp _ w _ ([_, .blk b2 (primeWords.map W64) 101]) := H
  first | refine l_end ?_ | refine l_nil ?_
  repeat refine c_seq ?_
  refine c_region ?_; refine l_op (o_bslB (([] : List UInt8)) H sl32 zc5 rfl rfl (by decide) (fun b3 w H hb3 => ?_)); replace H : Hp _ w _ ([_, _, .own (some b3) 0 0 ((([] : List UInt8)).map V8) 5 1]) := H
  refine l_op (o_val r_mv ?_); refine l_op (o_appB (s := s) (l' := s.l) (len' := s.len) rfl (Nat.zero_add _) H (i := 2) rfl sl32 Try.underlying32 rfl rfl (hs.up H (fun _ => apart_nil _)) (by omega) (fun a4 c5 w H => ?_)); replace H : Hp _ w _ ([_, _, .own a4 s.len c5 ((s.l).map V8) 5 1]) := H
  refine l_op (o_bslB ([(128 : UInt8)]) H sl32 zc5 rfl rfl (by decide) (fun b6 w H hb6 => ?_)); replace H : Hp _ w _ ([_, _, _, .own (some b6) 1 1 (([(128 : UInt8)]).map V8) 5 1]) := H
  refine l_op (o_appB (s := ⟨hd (some b6), 1, 1, [(128 : UInt8)]⟩) (l' := s.l ++ ([(128 : UInt8)])) (len' := s.len + 1) rfl rfl H (i := 2) rfl sl32 Try.underlying32 rfl rfl (H.slOwn (i := 3) rfl) (by omega) (fun a7 c8 w H => ?_)); replace H : Hp _ w _ ([_, _, .own a7 (s.len + 1) c8 ((s.l ++ ([(128 : UInt8)])).map V8) 5 1, _]) := H
  refine l_op (o_val r_as ?_); first | refine l_end ?_ | refine l_nil ?_
  repeat refine c_seq ?_
  refine c_block ?_; repeat refine c_seq ?_
  refine c_loop3 (fun (j : Nat) (a : Option Nat) (c : Nat) => [(0, s.v), (2, .pointer (some ⟨b1, 0, none⟩)), (3, .pointer (some ⟨b2, 0, none⟩)), (4, .slice (hd a) (s.len + 1 + j) c)])
    (fun (j : Nat) (a : Option Nat) (c : Nat) w => (j ≤ Zn s.len) ∧ Hp w0 w [] ([.blk b1 ((List.replicate 32 (0 : UInt8)).map V8) 29, .blk b2 (primeWords.map W64) 101, .own a (s.len + 1 + j) c ((pz s.l j).map V8) 5 1]))
    (fun (j : Nat) (a : Option Nat) (c : Nat) => Zn s.len - j) 0 a7 c8 ⟨rfl, rfl, rfl, rfl, trivial⟩ ⟨Nat.zero_le _, H.sub (.cons_cons _ (.cons_cons _ (.cons_cons _ (List.nil_sublist _))))⟩ ?_
  clear H
  rintro j a c τ w ⟨hj, H⟩
  have hZ : Zn s.len = (119 - s.len % 64) % 64 := rfl
  repeat refine c_seq ?_
  refine c_region ?_; refine l_op (o_val r_mv ?_); refine l_op (o_val (r_lens el32 rfl) ?_); refine l_op (o_val (r_bin (a := ((s.len + 1 + j : Nat) : Int)) (b := 64) rfl rfl (fun _ => b_rem (by omega) (by omega))) ?_); refine l_op (o_val (r_bin (a := ((s.len + 1 + j : Nat) : Int) % 64) (b := 56) rfl rfl (fun _ => b_neq)) ?_); first | refine l_end ?_ | refine l_nil ?_
  by_cases hc9 : ((s.len + 1 + j : Nat) : Int) % 64 ≠ 56
  ·
   repeat refine c_seq ?_
   refine c_yes (by exact congrArg Value.bool (decide_eq_true hc9)) ?_; refine c_skip ?_; repeat refine c_seq ?_
   refine c_block ?_; repeat refine c_seq ?_
   refine c_region ?_; refine l_op (o_val r_mv ?_); refine l_op (o_bslB ([(0 : UInt8)]) H sl32 zc5 rfl rfl (by decide) (fun b10 w H hb10 => ?_)); replace H : Hp _ w _ ([_, _, _, .own (some b10) 1 1 (([(0 : UInt8)]).map V8) 5 1]) := H
   refine l_op (o_appB (s := ⟨hd (some b10), 1, 1, [(0 : UInt8)]⟩) (l' := pz s.l (j + 1)) (len' := s.len + 1 + (j + 1)) (pz_succ _ _) rfl H (i := 2) rfl sl32 Try.underlying32 rfl rfl (H.slOwn (i := 3) rfl) (by omega) (fun a11 c12 w H => ?_)); replace H : Hp _ w _ ([_, _, .own a11 (s.len + 1 + (j + 1)) c12 ((pz s.l (j + 1)).map V8) 5 1, _]) := H
   refine l_op (o_val r_as ?_); first | refine l_end ?_ | refine l_nil ?_
   refine round_end (j + 1, a11, c12) ?_ ?_ ?_
   · exact ⟨rfl, rfl, rfl, rfl, trivial⟩
   · refine ⟨?_, ?_⟩
     · try dsimp only
       exact by omega
     · exact H.sub (.cons_cons _ (.cons_cons _ (.cons_cons _ (List.nil_sublist _))))
   · show Zn s.len - (j + 1 : Nat) < Zn s.len - j; omega
  ·
   repeat refine c_seq ?_
   refine c_no (by exact congrArg Value.bool (decide_eq_false hc9)) ?_; refine c_exit ?_; have hjz : j = Zn s.len := by omega
   subst hjz
   clear hj
   rw [plen_zero] at H
   replace H : Hp _ w _ ([_, _, .own a (s.len + 1 + Zn s.len) c ((plen s.l s.len 0).map V8) 5 1]) := H
   repeat refine c_seq ?_
   refine c_region ?_; refine l_op (o_val r_mv ?_); refine l_op (o_val (r_lens el32 rfl) ?_); refine l_op (o_val (r_conv (v := ((UInt64.ofNat s.len).toNat : Int)) Try.underlying3 Try.underlying91 rfl (w_u64_N s.len (by omega))) ?_); refine l_op (o_val (r_bin rfl (c64 8 (by decide)) (fun _ => b_mul_u64N)) ?_); refine l_op (o_val r_as ?_); first | refine l_end ?_ | refine l_nil ?_
   repeat refine c_seq ?_
   refine c_region ?_; refine l_op (o_val r_as ?_); first | refine l_end ?_ | refine l_nil ?_
   repeat refine c_seq ?_
   refine c_block ?_; repeat refine c_seq ?_
   refine c_loop3 (fun (i : Nat) (a : Option Nat) (c : Nat) => [(2, .pointer (some ⟨b1, 0, none⟩)), (3, .pointer (some ⟨b2, 0, none⟩)), (4, .slice (hd a) (s.len + 1 + Zn s.len + i) c), (5, V64 (UInt64.ofNat (s.len * 8))), (6, VI (i : Int))])
     (fun (i : Nat) (a : Option Nat) (c : Nat) w => (i ≤ 8) ∧ Hp w0 w [] ([.blk b1 ((List.replicate 32 (0 : UInt8)).map V8) 29, .blk b2 (primeWords.map W64) 101, .own a (s.len + 1 + Zn s.len + i) c ((plen s.l s.len i).map V8) 5 1]))
     (fun (i : Nat) (a : Option Nat) (c : Nat) => 8 - i) 0 a c ⟨rfl, rfl, rfl, rfl, rfl, trivial⟩ ⟨Nat.zero_le _, H⟩ ?_
   clear H
   rintro i a c τ w ⟨hi, H⟩
   have hZ : Zn s.len = (119 - s.len % 64) % 64 := rfl
   repeat refine c_seq ?_
   refine c_region ?_; refine l_op (o_val r_mv ?_); refine l_op (o_val (r_bin (a := (i : Int)) (b := 8) rfl rfl (fun _ => b_lss)) ?_); first | refine l_end ?_ | refine l_nil ?_
   by_cases hc13 : (i : Int) < 8
   ·
    repeat refine c_seq ?_
    refine c_yes (by exact congrArg Value.bool (decide_eq_true hc13)) ?_; refine c_skip ?_; repeat refine c_seq ?_
    refine c_block ?_; repeat refine c_seq ?_
    refine c_region ?_; refine l_op (o_val r_mv ?_); refine l_op (o_val r_mv ?_); refine l_op (o_val r_mv ?_); refine l_op (o_val (r_bin (a := 8) (b := (i : Int)) rfl rfl (fun _ => b_mul (by omega) (by omega))) ?_); refine l_op (o_val (r_bin (a := 56) (b := 8 * (i : Int)) rfl rfl (fun _ => b_sub (by omega) (by omega))) ?_); refine l_op (o_val (r_shift rfl rfl (.inr rfl) (fun _ => b_shr_u64 (by omega) (by omega))) ?_); refine l_op (o_val (r_conv Try.underlying91 Try.underlying5 rfl (w_u8_64 _)) ?_); refine l_op (o_bslB ([((UInt64.ofNat (s.len * 8)) >>> UInt64.ofNat (56 - (8 * (i : Int))).toNat).toUInt8]) H sl32 zc5 rfl rfl (by decide) (fun b14 w H hb14 => ?_)); replace H : Hp _ w _ ([_, _, _, .own (some b14) 1 1 (([((UInt64.ofNat (s.len * 8)) >>> UInt64.ofNat (56 - (8 * (i : Int))).toNat).toUInt8]).map V8) 5 1]) := H
    refine l_op (o_appB (s := ⟨hd (some b14), 1, 1, [((UInt64.ofNat (s.len * 8)) >>> UInt64.ofNat (56 - (8 * (i : Int))).toNat).toUInt8]⟩) (l' := plen s.l s.len (i + 1)) (len' := s.len + 1 + Zn s.len + (i + 1)) (plen_succ _ _ _ (by omega) _ (by omega)) rfl H (i := 2) rfl sl32 Try.underlying32 rfl rfl (H.slOwn (i := 3) rfl) (by omega) (fun a15 c16 w H => ?_)); replace H : Hp _ w _ ([_, _, .own a15 (s.len + 1 + Zn s.len + (i + 1)) c16 ((plen s.l s.len (i + 1)).map V8) 5 1, _]) := H
    refine l_op (o_val r_as ?_); first | refine l_end ?_ | refine l_nil ?_
    repeat refine c_seq ?_
    refine c_region ?_; refine l_op (o_val r_mv ?_); refine l_op (o_val (r_bin (a := (i : Int)) (b := 1) rfl rfl (fun _ => b_add (by omega) (by omega))) ?_); refine l_op (o_val r_as ?_); first | refine l_end ?_ | refine l_nil ?_
    refine round_end (i + 1, a15, c16) ?_ ?_ ?_
    · exact ⟨rfl, rfl, rfl, rfl, show VI ((i : Int) + 1) = VI ((i + 1 : Nat) : Int) from congrArg VI (by omega), trivial⟩
    · refine ⟨?_, ?_⟩
      · try dsimp only
        exact by omega
      · exact H.sub (.cons_cons _ (.cons_cons _ (.cons_cons _ (List.nil_sublist _))))
    · show 8 - (i + 1 : Nat) < 8 - i; omega
   ·
    repeat refine c_seq ?_
    refine c_no (by exact congrArg Value.bool (decide_eq_false hc13)) ?_; refine c_exit ?_; have hi8 : i = 8 := by omega
    subst hi8
    clear hi
    have hpd := padded_length s.l s.len hln (by omega)
    rw [plen_all s.l s.len hln] at H
    obtain ⟨N, hN⟩ := padded_len s.l (by omega)
    rw [hpd] at hN
    replace H : Hp _ w _ ([_, _, .own a (s.len + 1 + Zn s.len + 8) c ((padded s.l).map V8) 5 1]) := H
    repeat refine c_seq ?_
    refine c_region ?_; refine l_op (o_val (r_bld' (pv := en 0 (initS.l.map W64)) bd103 rfl (fill_en _ (all_W64 _) rfl)) ?_); refine l_op (o_alloc H zc103 (fun b17 w H hb17 => ?_)); replace H : Hp _ w _ ([_, _, _, .blk b17 ((List.replicate 8 (Value.int .u64 0))) 103]) := H
    refine l_op (o_stw (vs := (initS.l.map W64).toArray) H (i := 3) rfl rfl rfl (by rw [cs103]; rfl) (all_W64 _) (by rfl) (fun w H => ?_)); replace H : Hp _ w _ ([_, _, _, .blk b17 (initS.l.map W64) 103]) := H
    first | refine l_end ?_ | refine l_nil ?_
    repeat refine c_seq ?_
    refine c_region ?_; refine l_op (o_val r_as ?_); first | refine l_end ?_ | refine l_nil ?_
    repeat refine c_seq ?_
    refine c_block ?_; repeat refine c_seq ?_
    refine c_loop (fun (i : Nat) => [(2, .pointer (some ⟨b1, 0, none⟩)), (3, .pointer (some ⟨b2, 0, none⟩)), (4, .slice (hd a) (s.len + 1 + Zn s.len + 8) c), (7, .pointer (some ⟨b17, 0, none⟩)), (8, VI ((64 * i : Nat) : Int))])
      (fun (i : Nat) w => (i ≤ N) ∧ Hp w0 w [] ([.blk b1 ((List.replicate 32 (0 : UInt8)).map V8) 29, .blk b2 (primeWords.map W64) 101, .own a (s.len + 1 + Zn s.len + 8) c ((padded s.l).map V8) 5 1, .blk b17 ((foldB initS (padded s.l) i).l.map W64) 103]))
      (fun (i : Nat) => N - i) 0 ⟨rfl, rfl, rfl, rfl, rfl, trivial⟩ ⟨Nat.zero_le _, (by rw [foldB0]; exact H)⟩ ?_
    clear H
    rintro i τ w ⟨hi, H⟩
    repeat refine c_seq ?_
    refine c_region ?_; refine l_op (o_val r_mv ?_); refine l_op (o_val r_mv ?_); refine l_op (o_val (r_lens el32 rfl) ?_); refine l_op (o_val (r_bin (a := ((64 * i : Nat) : Int)) (b := ((s.len + 1 + Zn s.len + 8 : Nat) : Int)) rfl rfl (fun _ => b_lss)) ?_); first | refine l_end ?_ | refine l_nil ?_
    by_cases hc18 : ((64 * i : Nat) : Int) < ((s.len + 1 + Zn s.len + 8 : Nat) : Int)
    ·
     repeat refine c_seq ?_
     refine c_yes (by exact congrArg Value.bool (decide_eq_true hc18)) ?_; refine c_skip ?_; repeat refine c_seq ?_
     refine c_block ?_; repeat refine c_seq ?_
     refine c_region ?_; refine l_op (o_alloc H zc101 (fun b19 w H hb19 => ?_)); replace H : Hp _ w _ ([_, _, _, _, .blk b19 ((List.replicate 64 (Value.int .u64 0))) 101]) := H
     first | refine l_end ?_ | refine l_nil ?_
     repeat refine c_seq ?_
     refine c_region ?_; refine l_op (o_val r_as ?_); first | refine l_end ?_ | refine l_nil ?_
     repeat refine c_seq ?_
     refine c_block ?_; repeat refine c_seq ?_
     refine c_loop (fun (q : Nat) => [(2, .pointer (some ⟨b1, 0, none⟩)), (3, .pointer (some ⟨b2, 0, none⟩)), (4, .slice (hd a) (s.len + 1 + Zn s.len + 8) c), (7, .pointer (some ⟨b17, 0, none⟩)), (8, VI ((64 * i : Nat) : Int)), (9, .pointer (some ⟨b19, 0, none⟩)), (10, VI (q : Int))])
       (fun (q : Nat) w => (q ≤ 64) ∧ Hp w0 w [] ([.blk b1 ((List.replicate 32 (0 : UInt8)).map V8) 29, .blk b2 (primeWords.map W64) 101, .own a (s.len + 1 + Zn s.len + 8) c ((padded s.l).map V8) 5 1, .blk b17 ((foldB initS (padded s.l) i).l.map W64) 103, .blk b19 (wpart (((padded s.l).drop (64 * i)).take 64) q) 101]))
       (fun (q : Nat) => 64 - q) 0 ⟨rfl, rfl, rfl, rfl, rfl, rfl, rfl, trivial⟩ ⟨Nat.zero_le _, (by rw [wpart_zero]; exact H)⟩ ?_
     clear H
     rintro q τ w ⟨hq, H⟩
     repeat refine c_seq ?_
     refine c_region ?_; refine l_op (o_val r_mv ?_); refine l_op (o_val (r_bin (a := (q : Int)) (b := 64) rfl rfl (fun _ => b_lss)) ?_); first | refine l_end ?_ | refine l_nil ?_
     by_cases hc20 : (q : Int) < 64
     ·
      repeat refine c_seq ?_
      refine c_yes (by exact congrArg Value.bool (decide_eq_true hc20)) ?_; refine c_skip ?_; repeat refine c_seq ?_
      refine c_block ?_; repeat refine c_seq ?_
      refine wp_held (fun w => Hp w0 w [] [.blk b1 ((List.replicate 32 (0 : UInt8)).map V8) 29, .blk b2 (primeWords.map W64) 101, .own a (s.len + 1 + Zn s.len + 8) c ((padded s.l).map V8) 5 1, .blk b17 ((foldB initS (padded s.l) i).l.map W64) 103]) mixed ?_; replace H := H.drew
      have HS := H.sub (.cons_cons _ (.cons_cons _ (.cons_cons _ (.cons_cons _ (List.nil_sublist _)))))
      refine t_take 0 rfl (by kernel_rfl) (by kernel_rfl) (by kernel_rfl) (fun _ _ _ h => h) (fun w HS => r_mv) HS ?_; refine t_take 1 rfl (by kernel_rfl) (by kernel_rfl) (by kernel_rfl) (fun _ _ _ h => h) (fun w HS => r_bin (a := (q : Int)) (b := 4) rfl rfl (fun _ => b_quo (by omega) (by omega) (by omega))) HS ?_; refine t_take 2 rfl (by kernel_rfl) (by kernel_rfl) (by kernel_rfl) (fun _ _ _ h => h) (fun w HS => r_mv) HS ?_; refine t_take 3 rfl (by kernel_rfl) (by kernel_rfl) (by kernel_rfl) (fun _ _ _ h => h) (fun w HS => r_bin (a := (q : Int)) (b := 4) rfl rfl (fun _ => b_quo (by omega) (by omega) (by omega))) HS ?_; refine t_take 4 rfl (by kernel_rfl) (by kernel_rfl) (by kernel_rfl) (fun _ _ _ h => h) (fun w HS => r_iaN (q / 4) rfl rfl ar101 (by omega) (by omega)) HS ?_; refine t_take 7 rfl (by kernel_rfl) (by kernel_rfl) (by kernel_rfl) (fun _ _ _ h => h) (fun w HS => r_mv) HS ?_; refine t_take 8 rfl (by kernel_rfl) (by kernel_rfl) (by kernel_rfl) (fun _ _ _ h => h) (fun w HS => r_mv) HS ?_; refine t_take 9 rfl (by kernel_rfl) (by kernel_rfl) (by kernel_rfl) (fun _ _ _ h => h) (fun w HS => r_mv) HS ?_; refine t_take 10 rfl (by kernel_rfl) (by kernel_rfl) (by kernel_rfl) (fun _ _ _ h => h) (fun w HS => r_bin (a := ((64 * i : Nat) : Int)) (b := (q : Int)) rfl rfl (fun _ => b_add (by omega) (by omega))) HS ?_; obtain ⟨ab21, ah22⟩ := HS.ownAddr (i := 2) rfl (by omega)
      refine t_take 11 rfl (by kernel_rfl) (by kernel_rfl) (by kernel_rfl) (fun _ _ _ h => h) (fun w HS => r_isN ((64 * i) + q) rfl rfl el32 ah22 (by omega) (by (try simp only [Sl.cut]); omega)) HS ?_; refine t_take 12 rfl (by kernel_rfl) (by kernel_rfl) (by kernel_rfl) (fun _ _ _ h => h) (fun w HS => r_ldB (s := ⟨hd a, s.len + 1 + Zn s.len + 8, c, padded s.l⟩) (k := (64 * i) + q) (HS.slOwn (i := 2) rfl) ah22 rfl ct5 (by (try simp only []); omega)) HS ?_; refine t_take 13 rfl (by kernel_rfl) (by kernel_rfl) (by kernel_rfl) (fun _ _ _ h => h) (fun w HS => r_conv Try.underlying5 Try.underlying91 rfl (w_u64_8 _)) HS ?_; refine t_step 5 rfl (by kernel_rfl) (o_val (r_ld H (v := V64 (UInt64.ofNat (pwN (((padded s.l).drop (64 * i)).take 64) (q / 4) (q % 4)))) (i := 4) rfl rfl ct91 (by rw [Nat.mul_one, Nat.zero_add]; exact wpart_get _ q (by omega))) ?_); refine ⟨H.sub (.cons_cons _ (.cons_cons _ (.cons_cons _ (.cons_cons _ (List.nil_sublist _))))), ?_⟩
      replace HS := H.sub (.cons_cons _ (.cons_cons _ (.cons_cons _ (.cons_cons _ (List.nil_sublist _)))))
      refine t_take 6 rfl (by kernel_rfl) (by kernel_rfl) (by kernel_rfl) (fun _ _ _ h => h) (fun w HS => r_bin rfl (c64 256 (by decide)) (fun _ => b_mul_u64N)) HS ?_; refine t_take 14 rfl (by kernel_rfl) (by kernel_rfl) (by kernel_rfl) (fun _ _ _ h => h) (fun w HS => r_bin rfl rfl (fun _ => b_add_u64)) HS ?_; refine t_take 15 rfl (by kernel_rfl) (by kernel_rfl) (by kernel_rfl) (fun _ _ _ h => h) (fun w HS => r_iaN (q / 4) rfl rfl ar101 (by omega) (by omega)) HS ?_; refine t_step 16 rfl (by kernel_rfl) (o_st (v := V64 (UInt64.ofNat (pwN (((padded s.l).drop (64 * i)).take 64) (q / 4) (q % 4 + 1)))) H (i := 4) rfl rfl (congrArg V64 (wstep (padded s.l) i q (by omega) _ rfl)) cs91 rfl (by rw [wpart_length]; omega) (fun w H => ?_))
      rw [Nat.mul_one, Nat.zero_add, wpart_set _ q (by omega)] at H
      replace H : Hp _ w _ ([_, _, _, _, .blk b19 (wpart (((padded s.l).drop (64 * i)).take 64) (q + 1)) 101]) := H
      refine ⟨H.sub (.cons_cons _ (.cons_cons _ (.cons_cons _ (.cons_cons _ (List.nil_sublist _))))), ?_⟩
      replace HS := H.sub (.cons_cons _ (.cons_cons _ (.cons_cons _ (.cons_cons _ (List.nil_sublist _)))))
      refine t_done (by kernel_rfl) ?_
      clear HS
      repeat refine c_seq ?_
      refine c_region ?_; refine l_op (o_val r_mv ?_); refine l_op (o_val (r_bin (a := (q : Int)) (b := 1) rfl rfl (fun _ => b_add (by omega) (by omega))) ?_); refine l_op (o_val r_as ?_); first | refine l_end ?_ | refine l_nil ?_
      refine round_end (q + 1) ?_ ?_ ?_
      · exact ⟨rfl, rfl, rfl, rfl, rfl, rfl, show VI ((q : Int) + 1) = VI ((q + 1 : Nat) : Int) from congrArg VI (by omega), trivial⟩
      · refine ⟨?_, ?_⟩
        · try dsimp only
          exact by omega
        · exact H
      · show 64 - (q + 1 : Nat) < 64 - q; omega
     ·
      repeat refine c_seq ?_
      refine c_no (by exact congrArg Value.bool (decide_eq_false hc20)) ?_; refine c_exit ?_; have hq64 : q = 64 := by omega
      subst hq64
      clear hq
      rw [wpart_all] at H
      replace H : Hp _ w _ ([_, _, _, _, .blk b19 (padW (firsts (((padded s.l).drop (64 * i)).take 64) 16)) 101]) := H
      repeat refine c_seq ?_
      refine c_region ?_; refine l_op (o_val (r_ldA H (i := 3) rfl rfl rt103 (by rw [List.length_map]; rfl)) ?_); refine l_op (o_val (r_ldA H (i := 4) rfl rfl rt101 (padW_length _ (by rw [firsts_length]; omega))) ?_); refine l_op (o_val (r_ldA H (i := 1) rfl rfl rt101 (by rfl)) ?_); refine l_op (o_callR Try.func53 rfl rfl rfl (block_ret _ (foldB initS (padded s.l) i) (((padded s.l).drop (64 * i)).take 64)) ?_); rintro _ w ⟨rfl, Hc⟩
      replace H : Hp _ w _ ([_, _, _, _, _]) := H.call Hc
      clear Hc
      refine l_op (o_stw (vs := ((foldB initS (padded s.l) (i + 1)).l.map W64).toArray) H (i := 3) rfl rfl rfl (by rw [cs103]; rfl) (all_W64 _) (by rw [List.length_map]; rfl) (fun w H => ?_)); replace H : Hp _ w _ ([_, _, _, .blk b17 ((foldB initS (padded s.l) (i + 1)).l.map W64) 103, _]) := H
      first | refine l_end ?_ | refine l_nil ?_
      repeat refine c_seq ?_
      refine c_region ?_; refine l_op (o_val r_mv ?_); refine l_op (o_val (r_bin (a := ((64 * i : Nat) : Int)) (b := 64) rfl rfl (fun _ => b_add (by omega) (by omega))) ?_); refine l_op (o_val r_as ?_); first | refine l_end ?_ | refine l_nil ?_
      refine round_end (i + 1) ?_ ?_ ?_
      · exact ⟨rfl, rfl, rfl, rfl, show VI (((64 * i : Nat) : Int) + 64) = VI ((64 * (i + 1 : Nat) : Nat) : Int) from congrArg VI (by omega), trivial⟩
      · refine ⟨?_, ?_⟩
        · try dsimp only
          exact by omega
        · exact H.sub (.cons_cons _ (.cons_cons _ (.cons_cons _ (.cons_cons _ (List.nil_sublist _)))))
      · show N - (i + 1 : Nat) < N - i; omega
    ·
     repeat refine c_seq ?_
     refine c_no (by exact congrArg Value.bool (decide_eq_false hc18)) ?_; refine c_exit ?_; have hiN : i = N := by omega
     subst hiN
     clear hi
     repeat refine c_seq ?_
     refine c_region ?_; refine l_op (o_alloc H zc29 (fun b23 w H hb23 => ?_)); replace H : Hp _ w _ ([_, _, _, _, .blk b23 ((List.replicate 32 (0 : UInt8)).map V8) 29]) := H
     first | refine l_end ?_ | refine l_nil ?_
     repeat refine c_seq ?_
     refine c_region ?_; refine l_op (o_val r_as ?_); first | refine l_end ?_ | refine l_nil ?_
     repeat refine c_seq ?_
     refine c_block ?_; repeat refine c_seq ?_
     refine c_loop (fun (q : Nat) => [(2, .pointer (some ⟨b1, 0, none⟩)), (7, .pointer (some ⟨b17, 0, none⟩)), (11, .pointer (some ⟨b23, 0, none⟩)), (12, VI (q : Int))])
       (fun (q : Nat) w => (q ≤ 32) ∧ Hp w0 w [] ([.blk b1 ((List.replicate 32 (0 : UInt8)).map V8) 29, .blk b2 (primeWords.map W64) 101, .own a (s.len + 1 + Zn s.len + 8) c ((padded s.l).map V8) 5 1, .blk b17 ((foldB initS (padded s.l) i).l.map W64) 103, .blk b23 ((wbp (foldB initS (padded s.l) i).l q).map V8) 29]))
       (fun (q : Nat) => 32 - q) 0 ⟨rfl, rfl, rfl, rfl, trivial⟩ ⟨Nat.zero_le _, (by rw [show wbp (foldB initS (padded s.l) i).l 0 = List.replicate 32 (0 : UInt8) by simp [wbp]]; exact H)⟩ ?_
     clear H
     rintro q τ w ⟨hq, H⟩
     repeat refine c_seq ?_
     refine c_region ?_; refine l_op (o_val r_mv ?_); refine l_op (o_val (r_bin (a := (q : Int)) (b := 32) rfl rfl (fun _ => b_lss)) ?_); first | refine l_end ?_ | refine l_nil ?_
     by_cases hc24 : (q : Int) < 32
     ·
      repeat refine c_seq ?_
      refine c_yes (by exact congrArg Value.bool (decide_eq_true hc24)) ?_; refine c_skip ?_; repeat refine c_seq ?_
      refine c_block ?_; repeat refine c_seq ?_
      refine c_region ?_; refine l_op (o_val r_mv ?_); refine l_op (o_val r_mv ?_); refine l_op (o_val (r_bin (a := (q : Int)) (b := 4) rfl rfl (fun _ => b_quo (by omega) (by omega) (by omega))) ?_); refine l_op (o_val (r_iaN (q / 4) rfl rfl ar103 (by omega) (by omega)) ?_); refine l_op (o_val (r_ld H (v := V64 (((foldB initS (padded s.l) i).l.getD (q / 4) 0).toUInt64)) (i := 3) rfl rfl ct91 (by rw [Nat.mul_one, Nat.zero_add]; exact W64_get _ _ (by show q / 4 < 8; omega))) ?_); refine l_op (o_val r_mv ?_); refine l_op (o_val (r_bin (a := (q : Int)) (b := 4) rfl rfl (fun _ => b_rem (by omega) (by omega))) ?_); refine l_op (o_val (r_bin (a := 8) (b := (q : Int) % 4) rfl rfl (fun _ => b_mul (by omega) (by omega))) ?_); refine l_op (o_val (r_bin (a := 24) (b := 8 * ((q : Int) % 4)) rfl rfl (fun _ => b_sub (by omega) (by omega))) ?_); refine l_op (o_val (r_shift rfl rfl (.inr rfl) (fun _ => b_shr_u64 (by omega) (by omega))) ?_); refine l_op (o_val (r_conv Try.underlying91 Try.underlying5 rfl (w_u8_64 _)) ?_); refine l_op (o_val (r_iaN q rfl rfl ar29 (by omega) (by omega)) ?_); refine l_op (o_stAB (u := ((((foldB initS (padded s.l) i).l.getD (q / 4) 0).toUInt64) >>> UInt64.ofNat (24 - (8 * ((q : Int) % 4))).toNat).toUInt8) (k := q) H (i := 4) rfl rfl rfl cs5 (by rw [(show (wbp (foldB initS (padded s.l) i).l q).length = 32 from wbp_len _ _ (by omega))]; omega) (fun w H => ?_))
      rw [show (wbp (foldB initS (padded s.l) i).l q).set q (((((foldB initS (padded s.l) i).l.getD (q / 4) 0).toUInt64) >>> UInt64.ofNat (24 - (8 * ((q : Int) % 4))).toNat).toUInt8) = wbp (foldB initS (padded s.l) i).l (q + 1) from wbp_set _ q (by omega) _ (W64_word _ q _ (by omega))] at H
      replace H : Hp _ w _ ([_, _, _, _, .blk b23 ((wbp (foldB initS (padded s.l) i).l (q + 1)).map V8) 29]) := H
      first | refine l_end ?_ | refine l_nil ?_
      repeat refine c_seq ?_
      refine c_region ?_; refine l_op (o_val r_mv ?_); refine l_op (o_val (r_bin (a := (q : Int)) (b := 1) rfl rfl (fun _ => b_add (by omega) (by omega))) ?_); refine l_op (o_val r_as ?_); first | refine l_end ?_ | refine l_nil ?_
      refine round_end (q + 1) ?_ ?_ ?_
      · exact ⟨rfl, rfl, rfl, show VI ((q : Int) + 1) = VI ((q + 1 : Nat) : Int) from congrArg VI (by omega), trivial⟩
      · refine ⟨?_, ?_⟩
        · try dsimp only
          exact by omega
        · exact H
      · show 32 - (q + 1 : Nat) < 32 - q; omega
     ·
      repeat refine c_seq ?_
      refine c_no (by exact congrArg Value.bool (decide_eq_false hc24)) ?_; refine c_exit ?_; repeat refine c_seq ?_
      refine c_region ?_; refine l_op (o_val (r_ldAA (l := wbp (foldB initS (padded s.l) i).l q) H (i := 4) rfl rfl rt29 (show (wbp (foldB initS (padded s.l) i).l q).length = 32 from wbp_len _ _ (by omega))) ?_); refine l_op (o_stA (l' := wbp (foldB initS (padded s.l) i).l q) H (i := 0) rfl rfl rfl cs29 (show (List.replicate 32 (0 : UInt8)).length = 32 from (List.length_replicate ..)) (show (wbp (foldB initS (padded s.l) i).l q).length = 32 from wbp_len _ _ (by omega)) (fun w H => ?_)); replace H : Hp _ w _ ([.blk b1 ((wbp (foldB initS (padded s.l) i).l q).map V8) 29, _, _, _, _]) := H
      first | refine l_end ?_ | refine l_nil ?_
      refine c_ret ?_; try dsimp only [Exit.then, Exit.inBlock]
      refine e_retA (l := wbp (foldB initS (padded s.l) i).l q) Try.results36 H (i := 0) rfl rfl rt29 (show (wbp (foldB initS (padded s.l) i).l q).length = 32 from wbp_len _ _ (by omega)) ?_
      refine ⟨_, rfl, ?_⟩
      have hq32 : q = 32 := by omega
      subst hq32
      refine ⟨?_, H.sub (List.nil_sublist _)⟩
      rw [wbp_all, sha256_eq, digest_padded s.l i (by rw [hpd]; omega)]
end Go.Proofs.Ytomjbabllcmodaa
namespace Go.Proofs.Ytomjbabllcmodaa
open Go
set_option maxRecDepth 100000
/-- the hash of a text, as a name. -/
def shaI (l : List UInt8) : Id32 := ⟨sha256 l, sha256_len l⟩
theorem bytesRes_len {g : List It} {l : List UInt8} {e : Int} (h : BytesRes g l e) : l.length ≤ 4000 := by
  rcases h with ⟨_, _, _, h⟩ | ⟨_, h, _⟩
  · exact h
  · rw [h]; simp
theorem of17_ret (w0 : World) (s : Sl) (hs : s.ok w0) (hm : s.len ≤ 1048576) :
    Ret Try.prog 24 [s.v] w0 fun v w' => ∃ a c, v = .agg (obE ⟨shaI s.l, ⟨hd a, s.l.length, c, s.l⟩⟩).toArray ∧ Hp w0 w' [] [.own a s.l.length c (s.l.map V8) 5 1] := by
  refine ret_mk Try.func24 rfl Try.ntmps24 (by simp) ?_
  have H := Hp.refl w0 []
  have hsl := hs.ln
  have hle := hs.le
  repeat refine c_seq ?_
  refine c_region ?_; refine l_op (o_alloc H zc34 (fun b1 w H hb1 => ?_)); replace H : Hp _ w _ ([.blk b1 ((List.replicate 32 (0 : UInt8)).map V8 ++ (([.slice none 0 0] : List Value))) 34]) := H
  first | refine l_end ?_ | refine l_nil ?_
  repeat refine c_seq ?_
  refine c_region ?_; refine l_op (o_val r_mv ?_); refine l_op (o_callR Try.func36 rfl rfl rfl (sum2_ret _ s (hs.up H (fun _ => apart_nil _)) (by (try dsimp only); omega)) ?_); rintro _ w ⟨rfl, Hc⟩
  replace H : Hp _ w _ ([_]) := H.call Hc
  clear Hc
  refine l_op (o_bslB (([] : List UInt8)) H sl32 zc5 rfl rfl (by decide) (fun b2 w H hb2 => ?_)); replace H : Hp _ w _ ([_, .own (some b2) 0 0 ((([] : List UInt8)).map V8) 5 1]) := H
  refine l_op (o_val r_mv ?_); refine l_op (o_appB (s := s) (l' := s.l) (len' := s.len) rfl (Nat.zero_add _) H (i := 1) rfl sl32 Try.underlying32 rfl rfl (hs.up H (fun _ => apart_nil _)) (by omega) (fun a3 c4 w H => ?_)); replace H : Hp _ w _ ([_, .own a3 s.len c4 ((s.l).map V8) 5 1]) := H
  refine l_op (o_val (r_bldG (Z := (List.replicate 32 (0 : UInt8)).map V8 ++ (([.slice none 0 0] : List Value))) (E := (sha256 (s.l)).map V8 ++ (([.slice (hd a3) s.len c4] : List Value))) (pv := [(0, .agg ((sha256 (s.l)).map V8).toArray), (1, .slice (hd a3) s.len c4)]) bd34 rfl rfl (.cons (A := ([] : List Value)) (B := (List.replicate 32 (0 : UInt8)).map V8) (D := ([.slice none 0 0] : List Value)) (V := (sha256 (s.l)).map V8) (a := 0) (b := 32) rfl (show Cut3 ((List.replicate 32 (0 : UInt8)).map V8 ++ (([.slice none 0 0] : List Value))) (([] : List Value)) ((List.replicate 32 (0 : UInt8)).map V8) (([.slice none 0 0] : List Value)) 0 32 from ⟨(show (List.replicate 32 (0 : UInt8)).map V8 ++ (([.slice none 0 0] : List Value)) = ([] : List Value) ++ (((List.replicate 32 (0 : UInt8)).map V8) ++ (([.slice none 0 0] : List Value))) from by simp only [List.nil_append]), (by rfl), (by simp only [List.length_map, (show (List.replicate 32 (0 : UInt8)).length = 32 from (List.length_replicate ..))])⟩) (by rfl) (by simp only [List.length_map, (show (sha256 (s.l)).length = 32 from (sha256_len _))]) ((show (sha256 (s.l)).map V8 ++ (([.slice none 0 0] : List Value)) = ([] : List Value) ++ (((sha256 (s.l)).map V8) ++ (([.slice none 0 0] : List Value))) from by simp only [List.nil_append]) ▸ .cons (A := (sha256 (s.l)).map V8) (B := ([.slice none 0 0] : List Value)) (D := ([] : List Value)) (V := ([.slice (hd a3) s.len c4] : List Value)) (a := 32) (b := 1) rfl (show Cut3 ((sha256 (s.l)).map V8 ++ (([.slice none 0 0] : List Value))) ((sha256 (s.l)).map V8) (([.slice none 0 0] : List Value)) (([] : List Value)) 32 1 from ⟨(show (sha256 (s.l)).map V8 ++ (([.slice none 0 0] : List Value)) = ((sha256 (s.l)).map V8) ++ ((([.slice none 0 0] : List Value)) ++ (([] : List Value))) from by simp only [List.cons_append, List.nil_append]), (by simp only [List.length_map, (show (sha256 (s.l)).length = 32 from (sha256_len _))]), (by rfl)⟩) (by rfl) (by rfl) ((show (sha256 (s.l)).map V8 ++ (([.slice (hd a3) s.len c4] : List Value)) = ((sha256 (s.l)).map V8) ++ ((([.slice (hd a3) s.len c4] : List Value)) ++ (([] : List Value))) from by simp only [List.cons_append, List.nil_append]) ▸ .nil _)))) ?_); refine l_op (o_stW (C' := (sha256 (s.l)).map V8 ++ (([.slice (hd a3) s.len c4] : List Value))) H (i := 0) rfl rfl rfl cs34 (by first | (simp [Value.oneCell', List.all_append, List.all_map]; done) | (simp only [List.all_append, List.all_cons, List.all_nil, List.all_map]; simp [Value.oneCell', Function.comp_def])) (by simp only [List.length_append, List.length_map, List.length_cons, List.length_nil, (show (List.replicate 32 (0 : UInt8)).length = 32 from (List.length_replicate ..))]) (by simp only [List.length_append, List.length_map, List.length_cons, List.length_nil, (show (sha256 (s.l)).length = 32 from (sha256_len _))]) (fun w H => ?_)); replace H : Hp _ w _ ([.blk b1 ((sha256 (s.l)).map V8 ++ (([.slice (hd a3) s.len c4] : List Value))) 34, _]) := H
  first | refine l_end ?_ | refine l_nil ?_
  refine c_ret ?_; try dsimp only [Exit.then, Exit.inBlock]
  refine e_retc Try.results24 H (i := 0) rfl rfl rt34 (by simp only [List.length_append, List.length_map, List.length_cons, List.length_nil, (show (sha256 (s.l)).length = 32 from (sha256_len _))]) ?_
  refine ⟨_, rfl, ?_⟩
  have e2 : s.len = s.l.length := by rw [hs.ln]
  have e1 : s.l = s.l := by first | rfl | rw [List.nil_append]
  rw [e1, e2] at H
  exact ⟨_, _, by rw [e2]; rfl, H.sub (.cons _ (.cons_cons _ (List.nil_sublist _)))⟩
theorem folder17_ret (w0 : World) (g : Gl It) (hg : g.ok itE 35 w0) (hfits : ∀ x ∈ g.l, x.name.length ≤ 65536 ∧ x.size ≤ 9223372036854775807) :
    Ret Try.prog 25 [g.v] w0 fun v w' => ∃ (a : Option Nat) (c : Nat) (t : List UInt8) (e : Int), BytesRes g.l t e ∧ v = .agg (obE ⟨shaI t, ⟨hd a, t.length, c, t⟩⟩).toArray ∧ Hp w0 w' [] [.own a t.length c (t.map V8) 5 1] := by
  refine ret_mk Try.func25 rfl Try.ntmps25 (by simp) ?_
  have H := Hp.refl w0 []
  repeat refine c_seq ?_
  refine c_region ?_; refine l_op (o_alloc H zc34 (fun b1 w H hb1 => ?_)); replace H : Hp _ w _ ([.blk b1 ((List.replicate 32 (0 : UInt8)).map V8 ++ (([.slice none 0 0] : List Value))) 34]) := H
  first | refine l_end ?_ | refine l_nil ?_
  repeat refine c_seq ?_
  refine c_region ?_; refine l_op (o_val r_mv ?_); refine l_op (o_callR Try.func37 rfl rfl rfl (fbytes15_ret _ g (hg.up H) hfits) ?_); rintro _ w ⟨a2, c3, t4, e5, rfl, hby6, Hc⟩
  replace H : Hp _ w _ ([_, .own a2 t4.length c3 ((t4).map V8) 5 1]) := H.call Hc
  clear Hc
  refine l_op (o_val r_mv ?_); refine l_op (o_val (r_ext rfl rfl) ?_); refine l_op (o_val (r_ext rfl rfl) ?_); refine l_op (o_val r_as ?_); refine l_op (o_val r_as ?_); first | refine l_end ?_ | refine l_nil ?_
  have hbl := bytesRes_len hby6
  repeat refine c_seq ?_
  refine c_region ?_; refine l_op (o_val r_mv ?_); refine l_op (o_callR Try.func24 rfl rfl rfl (of17_ret _ ⟨hd a2, t4.length, c3, t4⟩ (H.slOwn (i := 1) rfl) (by (try dsimp only); omega)) ?_); rintro _ w ⟨a7, c8, rfl, Hc⟩
  replace H : Hp _ w _ ([_, _, .own a7 t4.length c8 ((t4).map V8) 5 1]) := H.call Hc
  clear Hc
  refine l_op (o_stW (C' := ((shaI t4).1).map V8 ++ (([.slice (hd a7) t4.length c8] : List Value))) H (i := 0) rfl rfl rfl cs34 (by first | (simp [Value.oneCell', List.all_append, List.all_map]; done) | (simp only [List.all_append, List.all_cons, List.all_nil, List.all_map]; simp [Value.oneCell', Function.comp_def])) (by simp only [List.length_append, List.length_map, List.length_cons, List.length_nil, (show (List.replicate 32 (0 : UInt8)).length = 32 from (List.length_replicate ..))]) (by simp only [List.length_append, List.length_map, List.length_cons, List.length_nil, (show ((shaI t4).1).length = 32 from (shaI t4).2)]) (fun w H => ?_)); replace H : Hp _ w _ ([.blk b1 (((shaI t4).1).map V8 ++ (([.slice (hd a7) t4.length c8] : List Value))) 34, _, _]) := H
  first | refine l_end ?_ | refine l_nil ?_
  refine c_ret ?_; try dsimp only [Exit.then, Exit.inBlock]
  refine e_retc Try.results25 H (i := 0) rfl rfl rt34 (by simp only [List.length_append, List.length_map, List.length_cons, List.length_nil, (show ((shaI t4).1).length = 32 from (shaI t4).2)]) ?_
  refine ⟨_, rfl, ?_⟩
  exact ⟨_, _, t4, e5, hby6, rfl, H.sub (.cons _ (.cons _ (.cons_cons _ (List.nil_sublist _))))⟩
end Go.Proofs.Ytomjbabllcmodaa
namespace Go.Proofs.Ytomjbabllcmodaa
open Go
set_option maxRecDepth 100000
abbrev nilS : Sl := ⟨none, 0, 0, []⟩
theorem zv_sl (w : World) : (zeroValue 32).run Try.prog w = .ok (Sl.v nilS) w := by
  have h : (Try.prog.info? 32).map (·.zero) = some (some (Sl.v nilS)) := by kernel_rfl
  cases hi : Try.prog.info? 32 with
  | none => rw [hi] at h; cases h
  | some i =>
    rw [hi] at h
    have hz : i.zero = some (Sl.v nilS) := by simpa using h
    simp [zeroValue, typeInfo, hi, hz]
theorem zv_i (w : World) : (zeroValue 3).run Try.prog w = .ok (VI 0) w := by
  have h : (Try.prog.info? 3).map (·.zero) = some (some (VI 0)) := by kernel_rfl
  cases hi : Try.prog.info? 3 with
  | none => rw [hi] at h; cases h
  | some i =>
    rw [hi] at h
    have hz : i.zero = some (VI 0) := by simpa using h
    simp [zeroValue, typeInfo, hi, hz]
theorem lookS_put {l : List Ob} {o : Ob} (h : (lookS l o.of).isSome = false) : fput (lookS l) o.of o.data = lookS (l ++ [o]) := by
  funext k
  rw [fput, lookS_snoc]
  by_cases e : k = o.of
  · rw [if_pos e, e, h, if_neg (by decide), if_pos rfl]
  · rw [if_neg e]
    by_cases hs : (lookS l k).isSome = true
    · rw [if_pos hs]
    · rw [if_neg hs, if_neg e]
      cases hl : lookS l k with
      | none => rfl
      | some s => rw [hl] at hs; exact absurd rfl hs
theorem lookS_same {l : List Ob} {o : Ob} (h : (lookS l o.of).isSome = true) : lookS l = lookS (l ++ [o]) := by
  funext k
  rw [lookS_snoc]
  by_cases hs : (lookS l k).isSome = true
  · rw [if_pos hs]
  · rw [if_neg hs]
    have e : k ≠ o.of := fun e => hs (by rw [e]; exact h)
    rw [if_neg e]
    cases hl : lookS l k with
    | none => rfl
    | some s => rw [hl] at hs; exact absurd rfl hs
variable {L : List (Id32 × List UInt8)}
/-- all that is to be met is met. -/
noncomputable def wlkAll (L : List (Id32 × List UInt8)) (a : List Todo) (s : WS) : WS := wlkRun L 1026 a s
theorem wlkAll_nil (s : WS) : wlkAll L [] s = s := wlkRun_nil _ _
theorem wlkAll_bad {t : Todo} {ts : List Todo} {s : WS} (h : ¬ (wlkStep L s t).1.err = 0) : wlkAll L (t :: ts) s = (wlkStep L s t).1 := wlkRun_bad h
theorem wlkAll_good {t : Todo} {ts : List Todo} {s : WS} (h : (wlkStep L s t).1.err = 0) : wlkAll L (t :: ts) s = wlkAll L ((wlkStep L s t).2 ++ ts) (wlkStep L s t).1 := by
  have h1 := wlkStep_met h
  exact (wlkRun_good h).trans (wlkRun_fuel _ _ _ _ (by omega) (by omega) (by omega))
theorem wlkAll_app {a b : List Todo} {s : WS} (he : s.err = 0) (hm : s.met ≤ 1024) : wlkAll L (a ++ b) s = if (wlkAll L a s).err ≠ 0 then wlkAll L a s else wlkAll L b (wlkAll L a s) := wlkRun_app _ _ _ _ he hm (by omega)
theorem wlkAll_met {a : List Todo} {s : WS} (hm : s.met ≤ 1024) (h : (wlkAll L a s).err = 0) : s.met ≤ (wlkAll L a s).met ∧ (wlkAll L a s).met ≤ 1024 := wlkRun_met _ _ _ hm h
/-- the next of a list, when what came ahead went well. -/
theorem wlkAll_snoc {a : List Todo} {t : Todo} {s s1 : WS} (he : s.err = 0) (hm : s.met ≤ 1024) (ha : wlkAll L a s = s1) (h1 : s1.err = 0) : wlkAll L (a ++ [t]) s = wlkAll L [t] s1 := by
  rw [wlkAll_app he hm, ha, if_neg (fun e => e h1)]
theorem wlkAll_stop {a b : List Todo} {s s1 : WS} (he : s.err = 0) (hm : s.met ≤ 1024) (ha : wlkAll L a s = s1) (h1 : ¬ s1.err = 0) : wlkAll L (a ++ b) s = s1 := by
  rw [wlkAll_app he hm, ha, if_pos h1]
end Go.Proofs.Ytomjbabllcmodaa
namespace Go.Proofs.Ytomjbabllcmodaa
open Go
set_option maxRecDepth 100000
structure Fl where
  path : List UInt8
  dir : Bool
  data : Sl
def flE (x : Fl) : List Value := ([.string ⟨(x.path).toArray⟩, .bool x.dir, x.data.v] : List Value)
theorem flE_len (x : Fl) : (flE x).length = 3 := by
  show (([.string ⟨(x.path).toArray⟩, .bool x.dir, x.data.v] : List Value)).length = 3
  exact (by rfl)
theorem flE_all (x : Fl) : (flE x).all (·.oneCell') = true := by
  show (([.string ⟨(x.path).toArray⟩, .bool x.dir, x.data.v] : List Value)).all (·.oneCell') = true
  exact (by first | (simp [Value.oneCell', Sl.v]; done) | (simp only [List.all_append, List.all_cons, List.all_nil, List.all_map]; simp [Value.oneCell', Function.comp_def]))
theorem wbegin_ret (w0 : World) (g : Gl Ob) (hg : g.ok obE 33 w0) (horaw : ∀ o ∈ g.l, o.data.ok w0) (tell : Bool) :
    Ret Try.prog 30 [g.v, .bool tell] w0 fun v w' => ∃ wb mo mm Mo co, MIs Sl.v Mo (lookS g.l) ∧ MOk Mo co ∧ v = .pointer (some ⟨wb, 0, none⟩) ∧ Hp w0 w' [] [.obj mo (mobj kA Mo co), .obj mm (mobj kA [] 0), .blk wb [.map (some mo), .map (some mm), VI 0, .bool tell, .slice none 0 0, VI 0] 70] := by
  refine ret_mk Try.func30 rfl Try.ntmps30 (by simp) ?_
  have H := Hp.refl w0 []
  have hgl := hg.ln
  have hgx := hg.mx
  have hgc := hg.le
  have hmL : maxLen = 9223372036854775807 := rfl
  repeat refine c_seq ?_
  refine c_region ?_; refine l_op (o_val r_as ?_); first | refine l_end ?_ | refine l_nil ?_
  repeat refine c_seq ?_
  refine c_region ?_; refine l_op (o_val r_mv ?_); refine l_op (o_mmake kA H (fun b1 w H hb1 => ?_)); replace H : Hp _ w _ ([.obj b1 (mobj kA ([] : List (Id32 × Value × Nat)) 0)]) := H
  refine l_op (o_mmake kA H (fun b2 w H hb2 => ?_)); replace H : Hp _ w _ ([_, .obj b2 (mobj kA ([] : List (Id32 × Value × Nat)) 0)]) := H
  refine l_op (o_val (r_bld' (cells := ([.map (some b1), .map (some b2), VI 0, .bool tell, .slice none 0 0, VI 0]).toArray) (pv := [(3, .bool tell), (0, .map (some b1)), (1, .map (some b2))]) bd70 rfl rfl) ?_); refine l_op (o_box (v := .agg ([.map (some b1), .map (some b2), VI 0, .bool tell, .slice none 0 0, VI 0]).toArray) H rfl (fun b3 w H hb3 => ?_)); replace H : Hp _ w _ ([_, _, .blk b3 ([.map (some b1), .map (some b2), VI 0, .bool tell, .slice none 0 0, VI 0]) 70]) := H
  refine l_op (o_val r_as ?_); first | refine l_end ?_ | refine l_nil ?_
  repeat refine c_seq ?_
  refine c_region ?_; refine l_op (o_val r_mv ?_); refine l_op (o_val (r_lens el22 rfl) ?_); refine l_op (o_val r_mv ?_); first | refine l_end ?_ | refine l_nil ?_
  repeat refine c_seq ?_
  refine c_block ?_; repeat refine c_seq ?_
  refine c_loop4 (fun (i : Nat) (M : List (Id32 × Value × Nat)) (c : Nat) (F : Id32 → Option Sl) => [(5, .pointer (some ⟨b3, 0, none⟩)), (15, g.v), (16, VI (g.len : Int)), (17, VI (i : Int))])
    (fun (i : Nat) (M : List (Id32 × Value × Nat)) (c : Nat) (F : Id32 → Option Sl) w => (i ≤ g.len ∧ MIs Sl.v M F ∧ MOk M c ∧ F = lookS (g.l.take i)) ∧ Hp w0 w [] ([.obj b1 (mobj kA M c), .obj b2 (mobj kA ([] : List (Id32 × Value × Nat)) 0), .blk b3 ([.map (some b1), .map (some b2), VI 0, .bool tell, .slice none 0 0, VI 0]) 70]))
    (fun (i : Nat) (M : List (Id32 × Value × Nat)) (c : Nat) (F : Id32 → Option Sl) => g.len - i) 0 ([]) 0 (fun _ => none) ⟨rfl, rfl, rfl, rfl, trivial⟩ ⟨⟨Nat.zero_le _, MIs.nil, MOk.nil, rfl⟩, H⟩ ?_
  clear H
  rintro i M c F τ w ⟨⟨hil, hF, hM, hFd⟩, H⟩
  repeat refine c_seq ?_
  refine c_region ?_; refine l_op (o_val (r_bin (a := (i : Int)) (b := (g.len : Int)) rfl rfl (fun _ => b_lss)) ?_); first | refine l_end ?_ | refine l_nil ?_
  by_cases hc4 : (i : Int) < (g.len : Int)
  ·
   repeat refine c_seq ?_
   refine c_yes (by exact congrArg Value.bool (decide_eq_true hc4)) ?_; refine c_skip ?_; repeat refine c_seq ?_
   refine c_block ?_; repeat refine c_seq ?_
   refine c_region ?_; have ah7 := ((hg.up H)).addr (by decide) (by first | omega | (dsimp only; omega))
   obtain ⟨ab5, ao6, ah7⟩ := ah7
   refine l_op (o_val (r_isN i rfl rfl el22 ah7 (by omega) (by (try simp only [Sl.cut]); omega)) ?_); have he9 : ∃ c, g.l[i]? = some c := ⟨_, List.getElem?_eq_getElem (by have := ((hg.up H)).ln; (try dsimp only at this ⊢); omega)⟩
   obtain ⟨e8, he9⟩ := he9
   have hez10 := ((hg.up H)).sz e8 (List.mem_of_getElem? he9)
   have hod_e8 := horaw e8 (List.mem_of_getElem? he9)
   refine l_op (o_val (r_ldRow (s := g) (k := i) (hg.up H) ah7 rfl rt34 (by decide) he9) ?_); refine l_op (o_alloc H zc34 (fun b11 w H hb11 => ?_)); replace H : Hp _ w _ ([_, _, _, .blk b11 ((List.replicate 32 (0 : UInt8)).map V8 ++ (([.slice none 0 0] : List Value))) 34]) := H
   refine l_op (o_stW (C' := (e8.of.1).map V8 ++ (([e8.data.v] : List Value))) H (i := 3) rfl rfl rfl cs34 (by first | (simp [Value.oneCell', Sl.v, List.all_append, List.all_map]; done) | (simp only [List.all_append, List.all_cons, List.all_nil, List.all_map]; simp [Value.oneCell', Function.comp_def])) (by simp only [List.length_append, List.length_map, List.length_cons, List.length_nil, (show (List.replicate 32 (0 : UInt8)).length = 32 from (List.length_replicate ..))]) (by simp only [List.length_append, List.length_map, List.length_cons, List.length_nil, (show (e8.of.1).length = 32 from e8.of.2)]) (fun w H => ?_)); replace H : Hp _ w _ ([_, _, _, .blk b11 ((e8.of.1).map V8 ++ (([e8.data.v] : List Value))) 34]) := H
   first | refine l_end ?_ | refine l_nil ?_
   repeat refine c_seq ?_
   refine c_still mixed (by kernel_rfl) ?_; replace H := H.drew
   refine s_op (r_mv) ?_; refine s_op (r_nilc rfl) ?_; refine s_op (r_fa rfl fo70_0) ?_; refine s_op (r_ld (v := .map (some b1)) H (i := 2) rfl rfl ct67 rfl) ?_; refine s_op (r_fa rfl fo34_0) ?_; refine s_op (r_lk H (i := 3) rfl rfl rt29 (show Cut3 ((e8.of.1).map V8 ++ (([e8.data.v] : List Value))) (([] : List Value)) ((e8.of.1).map V8) (([e8.data.v] : List Value)) 0 32 from ⟨(show (e8.of.1).map V8 ++ (([e8.data.v] : List Value)) = ([] : List Value) ++ (((e8.of.1).map V8) ++ (([e8.data.v] : List Value))) from by simp only [List.nil_append]), (by rfl), (by simp only [List.length_map, (show (e8.of.1).length = 32 from e8.of.2)])⟩)) ?_; refine s_op (r_lookT (k := e8.of) nilS hF H (i := 0) rfl Try.underlying67 keyA zv_sl rfl rfl) ?_; refine s_op (r_mv) ?_; refine s_op (r_ext rfl rfl) ?_; refine s_op (r_ext rfl rfl) ?_; refine s_op (r_as) ?_; refine s_op (r_as) ?_; refine s_nil ?_; repeat refine c_seq ?_
   refine c_region ?_; refine l_op (o_val r_mv ?_); refine l_op (o_val (r_not rfl) ?_); first | refine l_end ?_ | refine l_nil ?_
   have hc120 := Bool.eq_false_or_eq_true ((F e8.of).isSome)
   rcases hc120 with hc12 | hc12
   ·
    repeat refine c_seq ?_
    refine c_no (by exact congrArg Value.bool (congrArg not hc12)) ?_; refine c_skip ?_; repeat refine c_seq ?_
    refine c_region ?_; refine l_op (o_val (r_bin (a := (i : Int)) (b := 1) rfl rfl (fun _ => b_add (by omega) (by omega))) ?_); refine l_op (o_val r_mv ?_); first | refine l_end ?_ | refine l_nil ?_
    refine round_end (i + 1, M, c, F) ?_ ?_ ?_
    · exact ⟨rfl, rfl, rfl, show VI ((i : Int) + 1) = VI ((i + 1 : Nat) : Int) from congrArg VI (by omega), trivial⟩
    · refine ⟨?_, ?_⟩
      · try dsimp only
        exact ⟨by omega, hF, hM, by rw [take_snocG he9, hFd] at *; exact lookS_same hc12⟩
      · exact H.sub (.cons_cons _ (.cons_cons _ (.cons_cons _ (List.nil_sublist _))))
    · show g.len - (i + 1 : Nat) < g.len - i; omega
   ·
    repeat refine c_seq ?_
    refine c_yes (by exact congrArg Value.bool (congrArg not hc12)) ?_; repeat refine c_seq ?_
    refine wp_held (fun w => Hp w0 w [] [.obj b2 (mobj kA ([] : List (Id32 × Value × Nat)) 0), .blk b3 ([.map (some b1), .map (some b2), VI 0, .bool tell, .slice none 0 0, VI 0]) 70, .blk b11 ((e8.of.1).map V8 ++ (([e8.data.v] : List Value))) 34]) mixed ?_; replace H := H.drew
    have HS := H.sub (.cons _ (.cons_cons _ (.cons_cons _ (.cons_cons _ (List.nil_sublist _)))))
    refine t_take 0 rfl (by kernel_rfl) (by kernel_rfl) (by kernel_rfl) (fun _ _ _ h => h) (fun w HS => r_mv) HS ?_; refine t_take 1 rfl (by kernel_rfl) (by kernel_rfl) (by kernel_rfl) (fun _ _ _ h => h) (fun w HS => r_nilc rfl) HS ?_; refine t_take 2 rfl (by kernel_rfl) (by kernel_rfl) (by kernel_rfl) (fun _ _ _ h => h) (fun w HS => r_fa rfl fo70_0) HS ?_; refine t_take 3 rfl (by kernel_rfl) (by kernel_rfl) (by kernel_rfl) (fun _ _ _ h => h) (fun w HS => r_ld (v := .map (some b1)) HS (i := 1) rfl rfl ct67 rfl) HS ?_; refine t_take 4 rfl (by kernel_rfl) (by kernel_rfl) (by kernel_rfl) (fun _ _ _ h => h) (fun w HS => r_fa rfl fo34_0) HS ?_; refine t_take 5 rfl (by kernel_rfl) (by kernel_rfl) (by kernel_rfl) (fun _ _ _ h => h) (fun w HS => r_lk HS (i := 2) rfl rfl rt29 (show Cut3 ((e8.of.1).map V8 ++ (([e8.data.v] : List Value))) (([] : List Value)) ((e8.of.1).map V8) (([e8.data.v] : List Value)) 0 32 from ⟨(show (e8.of.1).map V8 ++ (([e8.data.v] : List Value)) = ([] : List Value) ++ (((e8.of.1).map V8) ++ (([e8.data.v] : List Value))) from by simp only [List.nil_append]), (by rfl), (by simp only [List.length_map, (show (e8.of.1).length = 32 from e8.of.2)])⟩)) HS ?_; refine t_take 6 rfl (by kernel_rfl) (by kernel_rfl) (by kernel_rfl) (fun _ _ _ h => h) (fun w HS => r_fa rfl fo34_1) HS ?_; refine t_take 7 rfl (by kernel_rfl) (by kernel_rfl) (by kernel_rfl) (fun _ _ _ h => h) (fun w HS => r_l1 (v := e8.data.v) HS (i := 2) rfl rfl ct32 (show Cut3 ((e8.of.1).map V8 ++ (([e8.data.v] : List Value))) ((e8.of.1).map V8) (([e8.data.v] : List Value)) (([] : List Value)) 32 1 from ⟨(show (e8.of.1).map V8 ++ (([e8.data.v] : List Value)) = ((e8.of.1).map V8) ++ ((([e8.data.v] : List Value)) ++ (([] : List Value))) from by simp only [List.cons_append, List.nil_append]), (by simp only [List.length_map, (show (e8.of.1).length = 32 from e8.of.2)]), (by rfl)⟩)) HS ?_; refine t_step 8 rfl (by kernel_rfl) (o_mput (kv := kA) (k := e8.of) (v := Sl.v e8.data) H (i := 0) rfl Try.underlying67 keyA rfl rfl rfl (fun w H => ?_)); replace H : Hp _ w _ ([.obj b1 (mobj kA (mput e8.of (Sl.v e8.data) c M) (mclk M e8.of c)), _, _, _]) := H
    refine ⟨H.sub (.cons _ (.cons_cons _ (.cons_cons _ (.cons_cons _ (List.nil_sublist _))))), ?_⟩
    replace HS := H.sub (.cons _ (.cons_cons _ (.cons_cons _ (.cons_cons _ (List.nil_sublist _)))))
    refine t_done (by kernel_rfl) ?_
    clear HS
    repeat refine c_seq ?_
    refine c_region ?_; refine l_op (o_val (r_bin (a := (i : Int)) (b := 1) rfl rfl (fun _ => b_add (by omega) (by omega))) ?_); refine l_op (o_val r_mv ?_); first | refine l_end ?_ | refine l_nil ?_
    refine round_end (i + 1, mput e8.of (Sl.v e8.data) c M, mclk M e8.of c, fput F e8.of e8.data) ?_ ?_ ?_
    · exact ⟨rfl, rfl, rfl, show VI ((i : Int) + 1) = VI ((i + 1 : Nat) : Int) from congrArg VI (by omega), trivial⟩
    · refine ⟨?_, ?_⟩
      · try dsimp only
        exact ⟨by omega, (hF.put e8.of e8.data c), (hM.put e8.of (Sl.v e8.data)), by rw [take_snocG he9, hFd] at *; exact lookS_put hc12⟩
      · exact H.sub (.cons_cons _ (.cons_cons _ (.cons_cons _ (List.nil_sublist _))))
    · show g.len - (i + 1 : Nat) < g.len - i; omega
  ·
   repeat refine c_seq ?_
   refine c_no (by exact congrArg Value.bool (decide_eq_false hc4)) ?_; refine c_exit ?_; repeat refine c_seq ?_
   refine c_region ?_; refine l_op (o_val r_mv ?_); refine l_op (o_val r_as ?_); first | refine l_end ?_ | refine l_nil ?_
   refine c_ret ?_; try dsimp only [Exit.then, Exit.inBlock]
   refine e_ret1 (v := .pointer (some ⟨b3, 0, none⟩)) Try.results30 rfl ?_
   refine ⟨_, rfl, ?_⟩
   have hi2 : i = g.l.length := by omega
   rw [hi2, List.take_length] at hFd
   subst hFd
   exact ⟨_, _, _, _, _, hF, hM, rfl, H.sub (.cons_cons _ (.cons_cons _ (.cons_cons _ (List.nil_sublist _))))⟩
end Go.Proofs.Ytomjbabllcmodaa
namespace Go.Proofs.Ytomjbabllcmodaa
open Go Go.ChangeMaps
set_option maxRecDepth 100000
theorem Hp.callA {w0 w w' : World} {S : List Nat} {L : List Ch} (h : Hp w0 w S L) {i b : Nat} {c c' : Ch} (hi : L[i]? = some c) (hk : c.key = some b) (hk' : c'.key = some b) (hc : Hp w w' [b] [c']) : Hp w0 w' S (L.set i c') := by
  have := h.callAt hi hk hk' (L' := []) hc
  rwa [List.append_nil] at this
theorem RdS.apartK {w0 : World} {a : Option Addr} {vs : List Value} {S : List Nat} (hr : RdS w0 a vs) (hv : vs ≠ []) (hS : ∀ b ∈ S, w0.heap.size ≤ b) : Apart a S := by
  intro y hy hm
  rcases hr with h | ⟨b', o, C, T, fr, ha, hh, _⟩
  · exact hv h
  · rw [ha] at hy
    cases hy
    have h1 := (Array.getElem?_eq_some_iff.1 hh).1
    have h2 : w0.heap.size ≤ b' := hS _ hm
    omega
theorem Sl.ok.apartK {w0 : World} {x : Sl} {S : List Nat} (hx : x.ok w0) (hS : ∀ b ∈ S, w0.heap.size ≤ b) : x.l ≠ [] → Apart x.a S := fun hn => hx.rd.apartK (by simpa using hn) hS
theorem Hp.ownU {w0 w : World} {S : List Nat} {L L1 Lr T : List Ch} (h : Hp w0 w S (L ++ T)) (hp : L.Perm (L1 ++ Lr)) : Own w L1 := (h.permT hp).own1 (Lr := Lr ++ T) (List.append_assoc ..)
theorem Hp.callU {w0 w w' : World} {S : List Nat} {L L1 Lr L1' L' T : List Ch} (h : Hp w0 w S (L ++ T)) (hp : L.Perm (L1 ++ Lr)) (hc : Hp w w' (keys L1) L1') (hq : (Lr ++ L1').Perm L') : Hp w0 w' S (L' ++ T) := by
  have h1 := (h.permT hp).callG (L1 := L1) (Lr := Lr ++ T) (List.append_assoc ..) hc
  refine h1.permL (List.Perm.trans ?_ (hq.append_right T))
  rw [List.append_assoc, List.append_assoc]
  exact List.Perm.append_left _ List.perm_append_comm
section
variable {κ α : Type} [DecidableEq κ] {P : Program} {n : Nat} {σ : Nat → Value} {w w0 : World}
  {ty : TypeId} {pos : String} {aft : Array Edge} {g : Option (Nat × Bool)} {d : Nat} {t kt et : TypeId} {x y : Operand} {S : List Nat} {L : List Ch}
/-- a look-up behind the entry of the same key was made. -/
theorem r_lookE {kv : κ → Value} {enc : α → Value} {M : List (κ × Value × Nat)} {F : κ → Option α} {c c' i b : Nat} {k : κ} (z : α) (hF : MIs enc M F) (H : Hp w0 w S L) (hi : L[i]? = some (.obj b (mobj kv (mput k ((mget M k).getD (enc z)) c M) c'))) (hu : P.underlying t = some (.map kt et)) (hK : KeyOf P kt kv) (hz : ∀ w, (zeroValue et).run P w = .ok (enc z) w)
    (hx : ev n σ x = .map (some b)) (hy : ev n σ y = kv k) :
    (execOp (ev n σ) ⟨some d, .lookup t x y false, ty, pos, aft, g⟩).run P w = .ok (.value (enc ((F k).getD z))) w := by
  have := r_look (P := P) (ty := ty) (pos := pos) (aft := aft) (g := g) (d := d) H hi hu hK hz hx hy false
  rw [mget_put, if_pos rfl, hF.getD] at this
  exact this
end
end Go.Proofs.Ytomjbabllcmodaa
namespace Go.Proofs.Ytomjbabllcmodaa
open Go
set_option maxRecDepth 100000
theorem wbad_ret (w0 : World) (wb fl fc n : Nat) (fa : Option Addr) (m1 m2 : Option Nat) (tl : Bool) (hwb : (Ch.blk wb [.map m1, .map m2, VI n, .bool tl, .slice fa fl fc, VI 0] 70).ok w0) (e : Int) :
    Ret Try.prog 46 [.pointer (some ⟨wb, 0, none⟩), VI e] w0 fun v w' => v = .bool (decide (¬ e = 0)) ∧ Hp w0 w' [wb] [.blk wb [.map m1, .map m2, VI n, .bool tl, .slice fa fl fc, VI e] 70] := by
  refine ret_mk Try.func46 rfl Try.ntmps46 (by simp) ?_
  have H := Hp.start w0 (.blk wb ([.map m1, .map m2, VI (n : Int), .bool tl, .slice fa fl fc, VI 0]) 70) wb hwb rfl
  repeat refine c_seq ?_
  refine c_region ?_; refine l_op (o_val r_as ?_); first | refine l_end ?_ | refine l_nil ?_
  repeat refine c_seq ?_
  refine c_region ?_; refine l_op (o_val r_mv ?_); refine l_op (o_val (r_nilc rfl) ?_); refine l_op (o_val (r_fa rfl fo70_5) ?_); refine l_op (o_val (r_ld (v := VI 0) H (i := 0) rfl rfl ct37 rfl) ?_); refine l_op (o_val (r_bin (a := 0) (b := 0) rfl rfl (fun _ => b_eqlB true (decide_eq_true (by decide)))) ?_); first | refine l_end ?_ | refine l_nil ?_
  repeat refine c_seq ?_
  refine c_yes rfl ?_; repeat refine c_seq ?_
  refine c_region ?_; refine l_op (o_val r_mv ?_); refine l_op (o_val r_mv ?_); refine l_op (o_val (r_nilc rfl) ?_); refine l_op (o_val (r_fa rfl fo70_5) ?_); refine l_op (o_st (v := VI e) H (i := 0) rfl rfl rfl cs37 rfl (by simp only [List.length_cons, List.length_nil]; omega) (fun w H => ?_)); replace H : Hp _ w _ ([.blk wb ([.map m1, .map m2, VI (n : Int), .bool tl, .slice fa fl fc, VI e]) 70]) := H
  first | refine l_end ?_ | refine l_nil ?_
  repeat refine c_seq ?_
  refine c_region ?_; refine l_op (o_val r_mv ?_); refine l_op (o_val (r_nilc rfl) ?_); refine l_op (o_val (r_fa rfl fo70_5) ?_); refine l_op (o_val (r_ld (v := VI e) H (i := 0) rfl rfl ct37 rfl) ?_); refine l_op (o_val (r_bin (a := e) (b := 0) rfl rfl (fun _ => b_neq)) ?_); refine l_op (o_val r_as ?_); first | refine l_end ?_ | refine l_nil ?_
  refine c_ret ?_; try dsimp only [Exit.then, Exit.inBlock]
  refine e_ret1 (v := .bool (decide (e ≠ 0))) Try.results46 rfl ?_
  refine ⟨_, rfl, ?_⟩
  exact ⟨rfl, H⟩
theorem wobj_long (w0 : World) (l : List Ob) (wb mo co mm cm n fl fc : Nat) (Mo Mm : List (Id32 × Value × Nat)) (G : Id32 → Option Int) (fa : Option Addr) (tl : Bool) (_hF : MIs Sl.v Mo (lookS l)) (_hFo : MOk Mo co) (_hG : MIs VI Mm G) (_hGo : MOk Mm cm) (hn : n ≤ 1024) (k : Id32) (h : 1024 ≤ n) (hO : Own w0 [Ch.blk wb ([.map (some mo), .map (some mm), VI (n : Int), .bool tl, .slice fa fl fc, VI 0]) 70, Ch.obj mo (mobj kA Mo co), Ch.obj mm (mobj kA Mm cm)]) :
    Ret Try.prog 47 [.pointer (some ⟨wb, 0, none⟩), .agg ((k.1).map V8).toArray] w0 fun v w' => v = .tuple #[.slice none 0 0, .bool false] ∧ Hp w0 w' (keys [Ch.blk wb ([.map (some mo), .map (some mm), VI (n : Int), .bool tl, .slice fa fl fc, VI 0]) 70, Ch.obj mo (mobj kA Mo co), Ch.obj mm (mobj kA Mm cm)]) [.blk wb [.map (some mo), .map (some mm), VI (n + 1 : Nat), .bool tl, .slice fa fl fc, VI 2] 70, .obj mo (mobj kA Mo co), .obj mm (mobj kA Mm cm)] := by
  refine ret_mk Try.func47 rfl Try.ntmps47 (by simp) ?_
  have H := hO.start
  repeat refine c_seq ?_
  refine c_region ?_; refine l_op (o_box (v := .agg ((k.1).map V8).toArray) H rfl (fun b1 w H hb1 => ?_)); replace H : Hp _ w _ ([.blk wb ([.map (some mo), .map (some mm), VI (n : Int), .bool tl, .slice fa fl fc, VI 0]) 70, .obj mo (mobj kA Mo co), .obj mm (mobj kA Mm cm), .blk b1 ((k.1).map V8) 29]) := H
  refine l_op (o_val r_as ?_); refine l_op (o_val r_as ?_); first | refine l_end ?_ | refine l_nil ?_
  repeat refine c_seq ?_
  refine c_region ?_; refine l_op (o_val r_mv ?_); refine l_op (o_val (r_nilc rfl) ?_); refine l_op (o_val (r_fa rfl fo70_2) ?_); refine l_op (o_val (r_ld (v := VI (n : Int)) H (i := 0) rfl rfl ct3 rfl) ?_); refine l_op (o_val (r_bin (a := (n : Int)) (b := 1) rfl rfl (fun _ => b_add (by omega) (by omega))) ?_); refine l_op (o_val (r_nilc rfl) ?_); refine l_op (o_val (r_fa rfl fo70_2) ?_); refine l_op (o_st (v := VI ((n : Int) + 1)) H (i := 0) rfl rfl rfl cs3 rfl (by simp only [List.length_cons, List.length_nil]; omega) (fun w H => ?_)); replace H : Hp _ w _ ([.blk wb ([.map (some mo), .map (some mm), VI ((n : Int) + 1), .bool tl, .slice fa fl fc, VI 0]) 70, _, _, _]) := H
  first | refine l_end ?_ | refine l_nil ?_
  repeat refine c_seq ?_
  refine c_region ?_; refine l_op (o_val r_mv ?_); refine l_op (o_val (r_nilc rfl) ?_); refine l_op (o_val (r_fa rfl fo70_2) ?_); refine l_op (o_val (r_ld (v := VI ((n : Int) + 1)) H (i := 0) rfl rfl ct3 rfl) ?_); refine l_op (o_val (r_bin (a := (n : Int) + 1) (b := 1024) rfl rfl (fun _ => b_gtrB true (decide_eq_true (by omega)))) ?_); first | refine l_end ?_ | refine l_nil ?_
  repeat refine c_seq ?_
  refine c_yes rfl ?_; repeat refine c_seq ?_
  refine c_region ?_; refine l_op (o_val r_mv ?_); refine l_op (o_callR Try.func46 rfl rfl rfl (wbad_ret _ _ fl fc (n + 1) fa (some mo) (some mm) tl (H.has _ (List.mem_of_getElem? (i := 0) rfl)) 2) ?_); rintro _ w ⟨rfl, Hc⟩
  replace H := (H.callA (i := 0) rfl rfl rfl Hc)
  clear Hc
  replace H : Hp _ w _ ([.blk wb ([.map (some mo), .map (some mm), VI ((n : Int) + 1), .bool tl, .slice fa fl fc, VI 2]) 70, _, _, _]) := H
  first | refine l_end ?_ | refine l_nil ?_
  repeat refine c_seq ?_
  refine c_region ?_; refine l_op (o_val r_as ?_); refine l_op (o_val r_as ?_); first | refine l_end ?_ | refine l_nil ?_
  refine c_ret ?_; try dsimp only [Exit.then, Exit.inBlock]
  refine e_retN (vs := [.slice none 0 0, .bool false]) _ Try.results47 rfl (resT (v := .slice none 0 0) rfl (resT (v := .bool false) rfl (resZ))) ?_
  refine ⟨_, rfl, ?_⟩
  have en : (n : Int) + 1 = ((n + 1 : Nat) : Int) := rfl
  exact ⟨rfl, H.sub (.cons_cons _ (.cons_cons _ (.cons_cons _ (List.nil_sublist _))))⟩
theorem wobj_miss (w0 : World) (l : List Ob) (wb mo co mm cm n fl fc : Nat) (Mo Mm : List (Id32 × Value × Nat)) (G : Id32 → Option Int) (fa : Option Addr) (tl : Bool) (hF : MIs Sl.v Mo (lookS l)) (_hFo : MOk Mo co) (_hG : MIs VI Mm G) (_hGo : MOk Mm cm) (hn : n ≤ 1024) (k : Id32) (h : n < 1024) (hk : (lookS l k).isSome = false) (hO : Own w0 [Ch.blk wb ([.map (some mo), .map (some mm), VI (n : Int), .bool tl, .slice fa fl fc, VI 0]) 70, Ch.obj mo (mobj kA Mo co), Ch.obj mm (mobj kA Mm cm)]) :
    Ret Try.prog 47 [.pointer (some ⟨wb, 0, none⟩), .agg ((k.1).map V8).toArray] w0 fun v w' => v = .tuple #[.slice none 0 0, .bool false] ∧ Hp w0 w' (keys [Ch.blk wb ([.map (some mo), .map (some mm), VI (n : Int), .bool tl, .slice fa fl fc, VI 0]) 70, Ch.obj mo (mobj kA Mo co), Ch.obj mm (mobj kA Mm cm)]) [.blk wb [.map (some mo), .map (some mm), VI (n + 1 : Nat), .bool tl, .slice fa fl fc, VI 15] 70, .obj mo (mobj kA Mo co), .obj mm (mobj kA Mm cm)] := by
  refine ret_mk Try.func47 rfl Try.ntmps47 (by simp) ?_
  have H := hO.start
  repeat refine c_seq ?_
  refine c_region ?_; refine l_op (o_box (v := .agg ((k.1).map V8).toArray) H rfl (fun b1 w H hb1 => ?_)); replace H : Hp _ w _ ([.blk wb ([.map (some mo), .map (some mm), VI (n : Int), .bool tl, .slice fa fl fc, VI 0]) 70, .obj mo (mobj kA Mo co), .obj mm (mobj kA Mm cm), .blk b1 ((k.1).map V8) 29]) := H
  refine l_op (o_val r_as ?_); refine l_op (o_val r_as ?_); first | refine l_end ?_ | refine l_nil ?_
  repeat refine c_seq ?_
  refine c_region ?_; refine l_op (o_val r_mv ?_); refine l_op (o_val (r_nilc rfl) ?_); refine l_op (o_val (r_fa rfl fo70_2) ?_); refine l_op (o_val (r_ld (v := VI (n : Int)) H (i := 0) rfl rfl ct3 rfl) ?_); refine l_op (o_val (r_bin (a := (n : Int)) (b := 1) rfl rfl (fun _ => b_add (by omega) (by omega))) ?_); refine l_op (o_val (r_nilc rfl) ?_); refine l_op (o_val (r_fa rfl fo70_2) ?_); refine l_op (o_st (v := VI ((n : Int) + 1)) H (i := 0) rfl rfl rfl cs3 rfl (by simp only [List.length_cons, List.length_nil]; omega) (fun w H => ?_)); replace H : Hp _ w _ ([.blk wb ([.map (some mo), .map (some mm), VI ((n : Int) + 1), .bool tl, .slice fa fl fc, VI 0]) 70, _, _, _]) := H
  first | refine l_end ?_ | refine l_nil ?_
  repeat refine c_seq ?_
  refine c_region ?_; refine l_op (o_val r_mv ?_); refine l_op (o_val (r_nilc rfl) ?_); refine l_op (o_val (r_fa rfl fo70_2) ?_); refine l_op (o_val (r_ld (v := VI ((n : Int) + 1)) H (i := 0) rfl rfl ct3 rfl) ?_); refine l_op (o_val (r_bin (a := (n : Int) + 1) (b := 1024) rfl rfl (fun _ => b_gtrB false (decide_eq_false (by omega)))) ?_); first | refine l_end ?_ | refine l_nil ?_
  repeat refine c_seq ?_
  refine c_no rfl ?_; refine c_skip ?_; repeat refine c_seq ?_
  refine c_still mixed (by kernel_rfl) ?_; replace H := H.drew
  refine s_op (r_mv) ?_; refine s_op (r_nilc rfl) ?_; refine s_op (r_fa rfl fo70_0) ?_; refine s_op (r_ld (v := .map (some mo)) H (i := 0) rfl rfl ct67 rfl) ?_; refine s_op (r_ldAA (l := k.1) H (i := 3) rfl rfl rt29 (show (k.1).length = 32 from k.2)) ?_; refine s_op (r_lookT (k := k) nilS hF H (i := 1) rfl Try.underlying67 keyA zv_sl rfl rfl) ?_; refine s_op (r_mv) ?_; refine s_op (r_ext rfl rfl) ?_; refine s_op (r_ext rfl rfl) ?_; have hk2 : (((lookS l) k).isSome) = false := hk
  refine s_op (r_as) ?_; refine s_op (r_as) ?_; refine s_nil ?_; repeat refine c_seq ?_
  refine c_region ?_; refine l_op (o_val r_mv ?_); refine l_op (o_val (r_not rfl) ?_); first | refine l_end ?_ | refine l_nil ?_
  repeat refine c_seq ?_
  refine c_yes (by exact congrArg Value.bool (congrArg not hk2)) ?_; repeat refine c_seq ?_
  refine c_region ?_; refine l_op (o_val r_mv ?_); refine l_op (o_callR Try.func46 rfl rfl rfl (wbad_ret _ _ fl fc (n + 1) fa (some mo) (some mm) tl (H.has _ (List.mem_of_getElem? (i := 0) rfl)) 15) ?_); rintro _ w ⟨rfl, Hc⟩
  replace H := (H.callA (i := 0) rfl rfl rfl Hc)
  clear Hc
  replace H : Hp _ w _ ([.blk wb ([.map (some mo), .map (some mm), VI ((n : Int) + 1), .bool tl, .slice fa fl fc, VI 15]) 70, _, _, _]) := H
  first | refine l_end ?_ | refine l_nil ?_
  repeat refine c_seq ?_
  refine c_region ?_; refine l_op (o_val r_as ?_); refine l_op (o_val r_as ?_); first | refine l_end ?_ | refine l_nil ?_
  refine c_ret ?_; try dsimp only [Exit.then, Exit.inBlock]
  refine e_retN (vs := [.slice none 0 0, .bool false]) _ Try.results47 rfl (resT (v := .slice none 0 0) rfl (resT (v := .bool false) rfl (resZ))) ?_
  refine ⟨_, rfl, ?_⟩
  have en : (n : Int) + 1 = ((n + 1 : Nat) : Int) := rfl
  exact ⟨rfl, H.sub (.cons_cons _ (.cons_cons _ (.cons_cons _ (List.nil_sublist _))))⟩
theorem wobj_ok (w0 : World) (l : List Ob) (wb mo co mm cm n fl fc : Nat) (Mo Mm : List (Id32 × Value × Nat)) (G : Id32 → Option Int) (fa : Option Addr) (tl : Bool) (hF : MIs Sl.v Mo (lookS l)) (_hFo : MOk Mo co) (hG : MIs VI Mm G) (hGo : MOk Mm cm) (hn : n ≤ 1024) (k : Id32) (h : n < 1024) (hk : (lookS l k).isSome = true) (hgb : -1000000 ≤ (G k).getD 0 ∧ (G k).getD 0 ≤ 1000000) (hO : Own w0 [Ch.blk wb ([.map (some mo), .map (some mm), VI (n : Int), .bool tl, .slice fa fl fc, VI 0]) 70, Ch.obj mo (mobj kA Mo co), Ch.obj mm (mobj kA Mm cm)]) :
    Ret Try.prog 47 [.pointer (some ⟨wb, 0, none⟩), .agg ((k.1).map V8).toArray] w0 fun v w' => v = .tuple #[((lookS l k).getD nilS).v, .bool true] ∧ ∃ Mm' cm', MIs VI Mm' (fput G k ((G k).getD 0 + 1)) ∧ MOk Mm' cm' ∧ Hp w0 w' (keys [Ch.blk wb ([.map (some mo), .map (some mm), VI (n : Int), .bool tl, .slice fa fl fc, VI 0]) 70, Ch.obj mo (mobj kA Mo co), Ch.obj mm (mobj kA Mm cm)]) [.blk wb [.map (some mo), .map (some mm), VI (n + 1 : Nat), .bool tl, .slice fa fl fc, VI 0] 70, .obj mo (mobj kA Mo co), .obj mm (mobj kA Mm' cm')] := by
  refine ret_mk Try.func47 rfl Try.ntmps47 (by simp) ?_
  have H := hO.start
  repeat refine c_seq ?_
  refine c_region ?_; refine l_op (o_box (v := .agg ((k.1).map V8).toArray) H rfl (fun b1 w H hb1 => ?_)); replace H : Hp _ w _ ([.blk wb ([.map (some mo), .map (some mm), VI (n : Int), .bool tl, .slice fa fl fc, VI 0]) 70, .obj mo (mobj kA Mo co), .obj mm (mobj kA Mm cm), .blk b1 ((k.1).map V8) 29]) := H
  refine l_op (o_val r_as ?_); refine l_op (o_val r_as ?_); first | refine l_end ?_ | refine l_nil ?_
  repeat refine c_seq ?_
  refine c_region ?_; refine l_op (o_val r_mv ?_); refine l_op (o_val (r_nilc rfl) ?_); refine l_op (o_val (r_fa rfl fo70_2) ?_); refine l_op (o_val (r_ld (v := VI (n : Int)) H (i := 0) rfl rfl ct3 rfl) ?_); refine l_op (o_val (r_bin (a := (n : Int)) (b := 1) rfl rfl (fun _ => b_add (by omega) (by omega))) ?_); refine l_op (o_val (r_nilc rfl) ?_); refine l_op (o_val (r_fa rfl fo70_2) ?_); refine l_op (o_st (v := VI ((n : Int) + 1)) H (i := 0) rfl rfl rfl cs3 rfl (by simp only [List.length_cons, List.length_nil]; omega) (fun w H => ?_)); replace H : Hp _ w _ ([.blk wb ([.map (some mo), .map (some mm), VI ((n : Int) + 1), .bool tl, .slice fa fl fc, VI 0]) 70, _, _, _]) := H
  first | refine l_end ?_ | refine l_nil ?_
  repeat refine c_seq ?_
  refine c_region ?_; refine l_op (o_val r_mv ?_); refine l_op (o_val (r_nilc rfl) ?_); refine l_op (o_val (r_fa rfl fo70_2) ?_); refine l_op (o_val (r_ld (v := VI ((n : Int) + 1)) H (i := 0) rfl rfl ct3 rfl) ?_); refine l_op (o_val (r_bin (a := (n : Int) + 1) (b := 1024) rfl rfl (fun _ => b_gtrB false (decide_eq_false (by omega)))) ?_); first | refine l_end ?_ | refine l_nil ?_
  repeat refine c_seq ?_
  refine c_no rfl ?_; refine c_skip ?_; repeat refine c_seq ?_
  refine c_still mixed (by kernel_rfl) ?_; replace H := H.drew
  refine s_op (r_mv) ?_; refine s_op (r_nilc rfl) ?_; refine s_op (r_fa rfl fo70_0) ?_; refine s_op (r_ld (v := .map (some mo)) H (i := 0) rfl rfl ct67 rfl) ?_; refine s_op (r_ldAA (l := k.1) H (i := 3) rfl rfl rt29 (show (k.1).length = 32 from k.2)) ?_; refine s_op (r_lookT (k := k) nilS hF H (i := 1) rfl Try.underlying67 keyA zv_sl rfl rfl) ?_; refine s_op (r_mv) ?_; refine s_op (r_ext rfl rfl) ?_; refine s_op (r_ext rfl rfl) ?_; have hk2 : (((lookS l) k).isSome) = true := hk
  refine s_op (r_as) ?_; refine s_op (r_as) ?_; refine s_nil ?_; repeat refine c_seq ?_
  refine c_region ?_; refine l_op (o_val r_mv ?_); refine l_op (o_val (r_not rfl) ?_); first | refine l_end ?_ | refine l_nil ?_
  repeat refine c_seq ?_
  refine c_no (by exact congrArg Value.bool (congrArg not hk2)) ?_; refine c_skip ?_; repeat refine c_seq ?_
  refine wp_held (fun w => Hp w0 w (keys [Ch.blk wb ([.map (some mo), .map (some mm), VI (n : Int), .bool tl, .slice fa fl fc, VI 0]) 70, Ch.obj mo (mobj kA Mo co), Ch.obj mm (mobj kA Mm cm)]) [.blk wb ([.map (some mo), .map (some mm), VI ((n : Int) + 1), .bool tl, .slice fa fl fc, VI 0]) 70, .obj mo (mobj kA Mo co), .blk b1 ((k.1).map V8) 29]) mixed ?_; replace H := H.drew
  have HS := H.sub (.cons_cons _ (.cons_cons _ (.cons _ (.cons_cons _ (List.nil_sublist _)))))
  refine t_take 0 rfl (by kernel_rfl) (by kernel_rfl) (by kernel_rfl) (fun _ _ _ h => h) (fun w HS => r_mv) HS ?_; refine t_take 1 rfl (by kernel_rfl) (by kernel_rfl) (by kernel_rfl) (fun _ _ _ h => h) (fun w HS => r_nilc rfl) HS ?_; refine t_take 2 rfl (by kernel_rfl) (by kernel_rfl) (by kernel_rfl) (fun _ _ _ h => h) (fun w HS => r_fa rfl fo70_1) HS ?_; refine t_take 3 rfl (by kernel_rfl) (by kernel_rfl) (by kernel_rfl) (fun _ _ _ h => h) (fun w HS => r_ld (v := .map (some mm)) HS (i := 0) rfl rfl ct68 rfl) HS ?_; refine t_take 4 rfl (by kernel_rfl) (by kernel_rfl) (by kernel_rfl) (fun _ _ _ h => h) (fun w HS => r_ldAA (l := k.1) HS (i := 2) rfl rfl rt29 (show (k.1).length = 32 from k.2)) HS ?_; refine t_all [5, 7] (by kernel_rfl) (by simp) (all_cons (w_op 5 rfl ?_) (all_cons (w_op 7 rfl ?_) (all_nil)))
  ·
   refine (o_val (r_lookF (k := k) (0 : Int) hG H (i := 2) rfl Try.underlying68 keyA zv_i rfl rfl) ?_)
   refine ⟨H.sub (.cons_cons _ (.cons_cons _ (.cons _ (.cons_cons _ (List.nil_sublist _))))), ?_⟩
   replace HS := H.sub (.cons_cons _ (.cons_cons _ (.cons _ (.cons_cons _ (List.nil_sublist _)))))
   refine t_take 6 rfl (by kernel_rfl) (by kernel_rfl) (by kernel_rfl) (fun _ _ _ h => h) (fun w HS => r_bin (a := ((G k).getD (0 : Int))) (b := 1) rfl rfl (fun _ => b_add (by omega) (by omega))) HS ?_; refine t_step 7 rfl (by kernel_rfl) (o_ment (kv := kA) (k := k) (z := VI (0 : Int)) H (i := 2) rfl Try.underlying68 keyA zv_i rfl rfl (fun w H => ?_)); replace H : Hp _ w _ ([_, _, .obj mm (mobj kA (mput k ((mget Mm k).getD (VI (0 : Int))) cm Mm) (mclk Mm k cm)), _]) := H
   refine ⟨H.sub (.cons_cons _ (.cons_cons _ (.cons _ (.cons_cons _ (List.nil_sublist _))))), ?_⟩
   replace HS := H.sub (.cons_cons _ (.cons_cons _ (.cons _ (.cons_cons _ (List.nil_sublist _)))))
   refine t_take 8 rfl (by kernel_rfl) (by kernel_rfl) (by kernel_rfl) (fun _ _ _ h => h) (fun w HS => r_ext rfl rfl) HS ?_; refine t_step 9 rfl (by kernel_rfl) (o_mset (kv := kA) (k := k) (v := VI (((G k).getD (0 : Int)) + 1)) (c' := 0) H (i := 2) rfl (hGo.put k ((mget Mm k).getD (VI (0 : Int)))) mborn_put.2 rfl rfl rfl (fun w H => ?_)); replace H : Hp _ w _ ([_, _, .obj mm (mobj kA (mput k (VI (((G k).getD (0 : Int)) + 1)) 0 (mput k ((mget Mm k).getD (VI (0 : Int))) cm Mm)) (mclk Mm k cm)), _]) := H
   refine ⟨H.sub (.cons_cons _ (.cons_cons _ (.cons _ (.cons_cons _ (List.nil_sublist _))))), ?_⟩
   replace HS := H.sub (.cons_cons _ (.cons_cons _ (.cons _ (.cons_cons _ (List.nil_sublist _)))))
   refine t_done (by kernel_rfl) ?_
   clear HS
   repeat refine c_seq ?_
   refine c_region ?_; refine l_op (o_val r_mv ?_); refine l_op (o_val r_as ?_); refine l_op (o_val r_as ?_); first | refine l_end ?_ | refine l_nil ?_
   refine c_ret ?_; try dsimp only [Exit.then, Exit.inBlock]
   refine e_retN (vs := [(((lookS l) k).getD nilS).v, .bool true]) _ Try.results47 rfl (resT (v := (((lookS l) k).getD nilS).v) rfl (resT (v := .bool true) rfl (resZ))) ?_
   refine ⟨_, rfl, ?_⟩
   have en : (n : Int) + 1 = ((n + 1 : Nat) : Int) := rfl
   exact ⟨rfl, _, _, (MIs.ent hG k (((G k).getD (0 : Int)) + 1)), (MOk.ent (hGo.put k ((mget Mm k).getD (VI (0 : Int))))), H.sub (.cons_cons _ (.cons_cons _ (.cons_cons _ (List.nil_sublist _))))⟩
  ·
   refine (o_ment (kv := kA) (k := k) (z := VI (0 : Int)) H (i := 2) rfl Try.underlying68 keyA zv_i rfl rfl (fun w H => ?_))
   replace H : Hp _ w _ ([_, _, .obj mm (mobj kA (mput k ((mget Mm k).getD (VI (0 : Int))) cm Mm) (mclk Mm k cm)), _]) := H
   refine ⟨H.sub (.cons_cons _ (.cons_cons _ (.cons _ (.cons_cons _ (List.nil_sublist _))))), ?_⟩
   replace HS := H.sub (.cons_cons _ (.cons_cons _ (.cons _ (.cons_cons _ (List.nil_sublist _)))))
   refine t_take 8 rfl (by kernel_rfl) (by kernel_rfl) (by kernel_rfl) (fun _ _ _ h => h) (fun w HS => r_ext rfl rfl) HS ?_; refine t_step 5 rfl (by kernel_rfl) (o_val (r_lookE (k := k) (0 : Int) hG H (i := 2) rfl Try.underlying68 keyA zv_i rfl rfl) ?_); refine ⟨H.sub (.cons_cons _ (.cons_cons _ (.cons _ (.cons_cons _ (List.nil_sublist _))))), ?_⟩
   replace HS := H.sub (.cons_cons _ (.cons_cons _ (.cons _ (.cons_cons _ (List.nil_sublist _)))))
   refine t_take 6 rfl (by kernel_rfl) (by kernel_rfl) (by kernel_rfl) (fun _ _ _ h => h) (fun w HS => r_bin (a := ((G k).getD (0 : Int))) (b := 1) rfl rfl (fun _ => b_add (by omega) (by omega))) HS ?_; refine t_step 9 rfl (by kernel_rfl) (o_mset (kv := kA) (k := k) (v := VI (((G k).getD (0 : Int)) + 1)) (c' := 0) H (i := 2) rfl (hGo.put k ((mget Mm k).getD (VI (0 : Int)))) mborn_put.2 rfl rfl rfl (fun w H => ?_)); replace H : Hp _ w _ ([_, _, .obj mm (mobj kA (mput k (VI (((G k).getD (0 : Int)) + 1)) 0 (mput k ((mget Mm k).getD (VI (0 : Int))) cm Mm)) (mclk Mm k cm)), _]) := H
   refine ⟨H.sub (.cons_cons _ (.cons_cons _ (.cons _ (.cons_cons _ (List.nil_sublist _))))), ?_⟩
   replace HS := H.sub (.cons_cons _ (.cons_cons _ (.cons _ (.cons_cons _ (List.nil_sublist _)))))
   refine t_done (by kernel_rfl) ?_
   clear HS
   repeat refine c_seq ?_
   refine c_region ?_; refine l_op (o_val r_mv ?_); refine l_op (o_val r_as ?_); refine l_op (o_val r_as ?_); first | refine l_end ?_ | refine l_nil ?_
   refine c_ret ?_; try dsimp only [Exit.then, Exit.inBlock]
   refine e_retN (vs := [(((lookS l) k).getD nilS).v, .bool true]) _ Try.results47 rfl (resT (v := (((lookS l) k).getD nilS).v) rfl (resT (v := .bool true) rfl (resZ))) ?_
   refine ⟨_, rfl, ?_⟩
   have en : (n : Int) + 1 = ((n + 1 : Nat) : Int) := rfl
   exact ⟨rfl, _, _, (MIs.ent hG k (((G k).getD (0 : Int)) + 1)), (MOk.ent (hGo.put k ((mget Mm k).getD (VI (0 : Int))))), H.sub (.cons_cons _ (.cons_cons _ (.cons_cons _ (List.nil_sublist _))))⟩
end Go.Proofs.Ytomjbabllcmodaa
