import Derived.Test.YtjmbbhnpfmblpaaRef3
/- numbers read out of bytes: octet.At, cofferref1.At. -/
namespace Go.Proofs.Ytjmbbhnpfmblpaa
open Go
set_option maxRecDepth 100000
/-- the number that bytes make, the highest first. -/
def ofbe (l : List UInt8) : Nat := l.foldl (fun a b => a * 256 + b.toNat) 0
theorem ofbe_snoc (l : List UInt8) (b : UInt8) : ofbe (l ++ [b]) = ofbe l * 256 + b.toNat := by simp [ofbe]
theorem ofbe_lt (l : List UInt8) : ofbe l < 256 ^ l.length := by
  suffices h : ∀ n (l : List UInt8), l.length = n → ofbe l < 256 ^ n from h _ l rfl
  intro n
  induction n with
  | zero => intro l hl; rw [List.length_eq_zero_iff.1 hl]; decide
  | succ n ih =>
    intro l hl
    obtain ⟨r, b, rfl⟩ : ∃ r b, l = r ++ [b] := by
      refine ⟨l.dropLast, l.getLast (by intro e; subst e; simp at hl), (List.dropLast_concat_getLast _).symm⟩
    have := ih r (by simpa using hl)
    have hb := u8_lt b
    rw [ofbe_snoc, Nat.pow_succ]; omega
theorem shl_or (v : UInt64) (x : UInt8) : (v <<< UInt64.ofNat 8) ||| x.toUInt64 = v * 256 + x.toUInt64 := by
  apply UInt64.toNat_inj.1
  have hx := u8_lt x
  have e8 : (UInt64.ofNat 8).toNat % 64 = 8 := rfl
  rw [UInt64.toNat_or, UInt64.toNat_add, UInt64.toNat_mul, UInt64.toNat_shiftLeft, e8, UInt8.toNat_toUInt64, Nat.shiftLeft_eq]
  have e1 : v.toNat * 2 ^ 8 % 2 ^ 64 = (v.toNat % 2 ^ 56) * 2 ^ 8 := by omega
  have e2 : (256 : UInt64).toNat = 256 := rfl
  rw [e1, ← Nat.shiftLeft_eq, ← Nat.shiftLeft_add_eq_or_of_lt (by omega), Nat.shiftLeft_eq, e2]
  omega
theorem num_step (m : Nat) (x : UInt8) : UInt64.ofNat m * 256 + x.toUInt64 = UInt64.ofNat (m * 256 + x.toNat) := by
  rw [UInt64.ofNat_add, UInt64.ofNat_mul, u8_u64]; rfl
theorem take_snoc (l : List UInt8) (i : Nat) (h : i < l.length) : l.take (i + 1) = l.take i ++ [l.getD i 0] := by
  rw [List.take_add_one, List.getD_eq_getElem?_getD]; simp [h]
def num (l : List UInt8) (at_ n : Nat) : UInt64 := UInt64.ofNat (ofbe ((l.drop at_).take n))
def nump (l : List UInt8) (at_ i : Nat) : UInt64 := UInt64.ofNat (ofbe ((l.drop at_).take i))
theorem nump_zero (l : List UInt8) (a : Nat) : nump l a 0 = 0 := rfl
theorem nump_succ (l : List UInt8) (a i : Nat) (h : a + i < l.length) (x : UInt8) (hx : x = l.getD (a + i) 0) : nump l a i * 256 + x.toUInt64 = nump l a (i + 1) := by
  have e : (l.drop a).getD i 0 = x := by rw [hx, List.getD_eq_getElem?_getD, List.getD_eq_getElem?_getD, List.getElem?_drop]
  rw [nump, nump, num_step, take_snoc _ _ (by simp; omega), ofbe_snoc, e]
theorem getD_cut (l : List UInt8) (a n i : Nat) (hi : i < n) : ((l.drop a).take n).getD i 0 = l.getD (a + i) 0 := by
  rw [List.getD_eq_getElem?_getD, List.getD_eq_getElem?_getD, List.getElem?_take_of_lt hi, List.getElem?_drop]
theorem at_ok (w0 : World) (s : Sl) (hs : s.ok w0) (at_ n : Nat) (h1 : 1 ≤ n) (h8 : n ≤ 8) (hat : at_ ≤ 1099511627776) (hl : at_ + n ≤ s.len) :
    Ret Try.prog 112 [s.v, VI (at_ : Int), VI (n : Int)] w0 fun v w' => v = .tuple #[V64 (num s.l at_ n), VI 0] ∧ Hp w0 w' [] [] := by
  refine ret_mk Try.func112 rfl Try.ntmps112 (by simp) ?_
  have H := Hp.refl w0 []
  have hsl := hs.ln
  have hle := hs.le
  have hmx := hs.mx
  repeat refine c_seq ?_
  refine c_region ?_
  refine l_op (o_val (r_asV (c64 0 (by decide))) ?_)
  refine l_op (o_val (r_as) ?_)
  first | refine l_end ?_ | refine l_nil ?_
  repeat refine c_seq ?_
  refine c_block ?_
  repeat refine c_seq ?_
  refine c_region ?_
  refine l_op (o_val (r_mv) ?_)
  refine l_op (o_val (r_bin rfl rfl (fun _ => b_lssB false (decide_eq_false (by omega)))) ?_)
  refine l_op (o_val (r_mv) ?_)
  refine l_yes rfl rfl rfl (o_val (r_mv) ?_)
  refine l_yes rfl rfl rfl (o_val (r_bin rfl rfl (fun _ => b_gtrB false (decide_eq_false (by omega)))) ?_)
  refine l_op (o_val (r_pick rfl) ?_)
  refine l_op (o_val (r_mv) ?_)
  refine l_yes rfl rfl rfl (o_val (r_mv) ?_)
  refine l_yes rfl rfl rfl (o_val (r_bin rfl rfl (fun _ => b_lssB false (decide_eq_false (by omega)))) ?_)
  refine l_op (o_val (r_pick rfl) ?_)
  refine l_op (o_val (r_as) ?_)
  first | refine l_end ?_ | refine l_nil ?_
  repeat refine c_seq ?_
  refine c_no rfl ?_
  repeat refine c_seq ?_
  refine c_region ?_
  refine l_op (o_val (r_mv) ?_)
  refine l_op (o_val (r_mv) ?_)
  refine l_op (o_val (r_lens el29 rfl) ?_)
  refine l_op (o_val (r_mv) ?_)
  refine l_op (o_val (r_bin rfl rfl (fun _ => b_sub (by omega) (by omega))) ?_)
  refine l_op (o_val (r_bin rfl rfl (fun _ => b_gtrB false (decide_eq_false (by omega)))) ?_)
  refine l_op (o_val (r_as) ?_)
  first | refine l_end ?_ | refine l_nil ?_
  repeat refine c_seq ?_
  refine c_no rfl ?_
  refine c_skip ?_
  repeat refine c_seq ?_
  refine c_region ?_
  refine l_op (o_val (r_asV (c64 0 (by decide))) ?_)
  first | refine l_end ?_ | refine l_nil ?_
  repeat refine c_seq ?_
  refine c_region ?_
  refine l_op (o_val (r_mv) ?_)
  refine l_op (o_val (r_mv) ?_)
  refine l_op (o_val (r_mv) ?_)
  refine l_op (o_val (r_mv) ?_)
  refine l_op (o_val (r_bin rfl rfl (fun _ => b_add (by omega) (by omega))) ?_)
  refine l_op (o_val (r_slS (s := s) at_ (at_ + n) s.cap (lv := some (VI (at_ : Int))) (hv := some (VI ((at_ : Int) + (n : Int)))) (mv := none) rfl el29 rfl rfl rfl (fun w => by exact sblh at_ (at_ + n) (by omega) (by omega) (by (try simp only [Sl.cut]); omega) (by (try simp only [Sl.cut]); omega) w)) ?_)
  refine l_op (o_val (r_lens el29 rfl) ?_)
  refine l_op (o_val (r_mv) ?_)
  first | refine l_end ?_ | refine l_nil ?_
  repeat refine c_seq ?_
  refine c_block ?_
  repeat refine c_seq ?_
  refine c_loop (fun (i : Nat) => [(8, V64 (nump s.l at_ i)), (34, (Sl.cut s at_ (at_ + n) s.cap).v), (35, VI ((at_ + n - at_ : Nat) : Int)), (36, VI (i : Int))])
    (fun (i : Nat) w => (i ≤ n) ∧ Hp w0 w [] ([]))
    (fun (i : Nat) => n - i) 0 ⟨rfl, rfl, rfl, rfl, trivial⟩ ⟨Nat.zero_le _, H⟩ ?_
  clear H
  rintro i τ w ⟨hi, H⟩
  repeat refine c_seq ?_
  refine c_region ?_
  refine l_op (o_val (r_bin rfl rfl (fun _ => b_lss)) ?_)
  first | refine l_end ?_ | refine l_nil ?_
  by_cases hc1 : (i : Int) < ((at_ + n - at_ : Nat) : Int)
  · skip
    repeat refine c_seq ?_
    refine c_yes (by exact congrArg Value.bool (decide_eq_true hc1)) ?_
    refine c_skip ?_
    repeat refine c_seq ?_
    refine c_block ?_
    repeat refine c_seq ?_
    refine c_region ?_
    obtain ⟨ab2, ao3, ah4⟩ := (((hs.up H (fun _ => apart_nil _)).cut (l := at_) (h := at_ + n) (m := s.cap) (by omega) (by (try simp only [Sl.cut]); omega) (by omega) (by (try simp only [Sl.cut]); omega))).addr (by (try simp only [Sl.cut]); omega)
    refine l_op (o_val (r_isN i rfl rfl el29 ah4 (by omega) (by (try simp only [Sl.cut]); omega)) ?_)
    refine l_op (o_val (r_ldB (s := (Sl.cut s at_ (at_ + n) s.cap)) (k := i) ((hs.up H (fun _ => apart_nil _)).cut (l := at_) (h := at_ + n) (m := s.cap) (by omega) (by (try simp only [Sl.cut]); omega) (by omega) (by (try simp only [Sl.cut]); omega)) ah4 rfl ct5 (by (try simp only [Sl.cut]); omega)) ?_)
    refine l_op (o_val (r_as) ?_)
    first | refine l_end ?_ | refine l_nil ?_
    repeat refine c_seq ?_
    refine c_region ?_
    refine l_op (o_val (r_mv) ?_)
    refine l_op (o_val (r_shift rfl rfl (.inl rfl) (fun _ => b_shl_u64N 8 (by omega))) ?_)
    refine l_op (o_val (r_mv) ?_)
    refine l_op (o_val (r_conv Try.underlying5 Try.underlying35 rfl (w_u64_8 _)) ?_)
    refine l_op (o_val (r_bin rfl rfl (fun _ => b_or_u64)) ?_)
    refine l_op (o_val (r_as) ?_)
    first | refine l_end ?_ | refine l_nil ?_
    repeat refine c_seq ?_
    refine c_region ?_
    refine l_op (o_val (r_bin rfl rfl (fun _ => b_add (by omega) (by omega))) ?_)
    refine l_op (o_val (r_mv) ?_)
    first | refine l_end ?_ | refine l_nil ?_
    refine round_end (i + 1) ?_ ?_ ?_
    · exact ⟨show V64 (((nump s.l at_ i) <<< UInt64.ofNat 8) ||| (((((s.l).drop at_).take (at_ + n - at_)).getD i 0).toUInt64)) = V64 (nump s.l at_ (i + 1 : Nat)) from congrArg V64 (by rw [shl_or, getD_cut _ _ _ _ (by omega)]; exact nump_succ _ _ _ (by omega) _ rfl), rfl, rfl, show VI ((i : Int) + 1) = VI ((i + 1 : Nat) : Int) from congrArg VI (by omega), trivial⟩
    · refine ⟨?_, ?_⟩
      · try dsimp only
        exact by omega
      · exact H
    · show n - (i + 1 : Nat) < n - i; omega
  · skip
    repeat refine c_seq ?_
    refine c_no (by exact congrArg Value.bool (decide_eq_false hc1)) ?_
    refine c_exit ?_
    repeat refine c_seq ?_
    refine c_region ?_
    refine l_op (o_val (r_mv) ?_)
    refine l_op (o_val (r_as) ?_)
    refine l_op (o_val (r_as) ?_)
    first | refine l_end ?_ | refine l_nil ?_
    refine c_ret ?_
    try dsimp only [Exit.then, Exit.inBlock]
    refine e_retN (vs := [V64 (nump s.l at_ i), VI 0]) _ Try.results112 rfl (resT (v := V64 (nump s.l at_ i)) rfl (resT (v := VI 0) rfl (resZ))) ?_
    refine ⟨_, rfl, ?_⟩
    have hin : i = n := by omega
    subst hin
    exact ⟨by rw [num, ← nump], H⟩
theorem at_short (w0 : World) (s : Sl) (hs : s.ok w0) (at_ n : Nat) (h1 : 1 ≤ n) (h8 : n ≤ 8) (hat : at_ ≤ 1099511627776) (hl : s.len < at_ + n) :
    Ret Try.prog 112 [s.v, VI (at_ : Int), VI (n : Int)] w0 fun v w' => v = .tuple #[V64 0, VI 3] ∧ Hp w0 w' [] [] := by
  refine ret_mk Try.func112 rfl Try.ntmps112 (by simp) ?_
  have H := Hp.refl w0 []
  have hsl := hs.ln
  have hle := hs.le
  have hmx := hs.mx
  repeat refine c_seq ?_
  refine c_region ?_
  refine l_op (o_val (r_asV (c64 0 (by decide))) ?_)
  refine l_op (o_val (r_as) ?_)
  first | refine l_end ?_ | refine l_nil ?_
  repeat refine c_seq ?_
  refine c_block ?_
  repeat refine c_seq ?_
  refine c_region ?_
  refine l_op (o_val (r_mv) ?_)
  refine l_op (o_val (r_bin rfl rfl (fun _ => b_lssB false (decide_eq_false (by omega)))) ?_)
  refine l_op (o_val (r_mv) ?_)
  refine l_yes rfl rfl rfl (o_val (r_mv) ?_)
  refine l_yes rfl rfl rfl (o_val (r_bin rfl rfl (fun _ => b_gtrB false (decide_eq_false (by omega)))) ?_)
  refine l_op (o_val (r_pick rfl) ?_)
  refine l_op (o_val (r_mv) ?_)
  refine l_yes rfl rfl rfl (o_val (r_mv) ?_)
  refine l_yes rfl rfl rfl (o_val (r_bin rfl rfl (fun _ => b_lssB false (decide_eq_false (by omega)))) ?_)
  refine l_op (o_val (r_pick rfl) ?_)
  refine l_op (o_val (r_as) ?_)
  first | refine l_end ?_ | refine l_nil ?_
  repeat refine c_seq ?_
  refine c_no rfl ?_
  repeat refine c_seq ?_
  refine c_region ?_
  refine l_op (o_val (r_mv) ?_)
  refine l_op (o_val (r_mv) ?_)
  refine l_op (o_val (r_lens el29 rfl) ?_)
  refine l_op (o_val (r_mv) ?_)
  refine l_op (o_val (r_bin rfl rfl (fun _ => b_sub (by omega) (by omega))) ?_)
  refine l_op (o_val (r_bin rfl rfl (fun _ => b_gtrB true (decide_eq_true (by omega)))) ?_)
  refine l_op (o_val (r_as) ?_)
  first | refine l_end ?_ | refine l_nil ?_
  repeat refine c_seq ?_
  refine c_yes rfl ?_
  repeat refine c_seq ?_
  refine c_region ?_
  refine l_op (o_val (r_asV (c64 0 (by decide))) ?_)
  refine l_op (o_val (r_as) ?_)
  first | refine l_end ?_ | refine l_nil ?_
  refine c_ret ?_
  try dsimp only [Exit.then, Exit.inBlock]
  refine e_retN (vs := [V64 (0 : UInt64), VI 3]) _ Try.results112 rfl (resT (v := V64 (0 : UInt64)) rfl (resT (v := VI 3) rfl (resZ))) ?_
  refine ⟨_, rfl, ?_⟩
  exact ⟨rfl, H⟩
theorem at1_ok (w0 : World) (s : Sl) (hs : s.ok w0) (at_ n : Nat) (h1 : 1 ≤ n) (h8 : n ≤ 8) (hat : at_ ≤ 1099511627776) (hl : at_ + n ≤ s.len) :
    Ret Try.prog 114 [s.v, VI (at_ : Int), VI (n : Int)] w0 fun v w' => v = .tuple #[V64 (num s.l at_ n), VI 0] ∧ Hp w0 w' [] [] := by
  refine ret_mk Try.func114 rfl Try.ntmps114 (by simp) ?_
  have H := Hp.refl w0 []
  have hsl := hs.ln
  have hle := hs.le
  have hmx := hs.mx
  repeat refine c_seq ?_
  refine c_region ?_
  refine l_op (o_val (r_asV (c64 0 (by decide))) ?_)
  refine l_op (o_val (r_as) ?_)
  first | refine l_end ?_ | refine l_nil ?_
  repeat refine c_seq ?_
  refine c_region ?_
  refine l_op (o_val (r_mv) ?_)
  refine l_op (o_val (r_bin rfl rfl (fun _ => b_lssB false (decide_eq_false (by omega)))) ?_)
  refine l_op (o_val (r_mv) ?_)
  refine l_yes rfl rfl rfl (o_val (r_mv) ?_)
  refine l_yes rfl rfl rfl (o_val (r_bin rfl rfl (fun _ => b_gtrB false (decide_eq_false (by omega)))) ?_)
  refine l_op (o_val (r_pick rfl) ?_)
  refine l_op (o_val (r_mv) ?_)
  refine l_yes rfl rfl rfl (o_val (r_mv) ?_)
  refine l_yes rfl rfl rfl (o_val (r_bin rfl rfl (fun _ => b_lssB false (decide_eq_false (by omega)))) ?_)
  refine l_op (o_val (r_pick rfl) ?_)
  first | refine l_end ?_ | refine l_nil ?_
  repeat refine c_seq ?_
  refine c_no rfl ?_
  refine c_skip ?_
  repeat refine c_seq ?_
  refine c_region ?_
  refine l_op (o_val (r_mv) ?_)
  refine l_op (o_val (r_mv) ?_)
  refine l_op (o_val (r_lens el29 rfl) ?_)
  refine l_op (o_val (r_bin rfl rfl (fun _ => b_gtrB false (decide_eq_false (by omega)))) ?_)
  refine l_op (o_val (r_mv) ?_)
  refine l_yes rfl rfl rfl (o_val (r_mv) ?_)
  refine l_yes rfl rfl rfl (o_val (r_mv) ?_)
  refine l_yes rfl rfl rfl (o_val (r_lens el29 rfl) ?_)
  refine l_yes rfl rfl rfl (o_val (r_mv) ?_)
  refine l_yes rfl rfl rfl (o_val (r_bin rfl rfl (fun _ => b_sub (by omega) (by omega))) ?_)
  refine l_yes rfl rfl rfl (o_val (r_bin rfl rfl (fun _ => b_gtrB false (decide_eq_false (by omega)))) ?_)
  refine l_op (o_val (r_pick rfl) ?_)
  first | refine l_end ?_ | refine l_nil ?_
  repeat refine c_seq ?_
  refine c_no rfl ?_
  refine c_skip ?_
  repeat refine c_seq ?_
  refine c_region ?_
  refine l_op (o_val (r_asV (c64 0 (by decide))) ?_)
  first | refine l_end ?_ | refine l_nil ?_
  repeat refine c_seq ?_
  refine c_region ?_
  refine l_op (o_val (r_as) ?_)
  first | refine l_end ?_ | refine l_nil ?_
  repeat refine c_seq ?_
  refine c_block ?_
  repeat refine c_seq ?_
  refine c_loop (fun (i : Nat) => [(0, s.v), (1, VI (at_ : Int)), (2, VI (n : Int)), (8, V64 (nump s.l at_ i)), (9, VI (i : Int))])
    (fun (i : Nat) w => (i ≤ n) ∧ Hp w0 w [] ([]))
    (fun (i : Nat) => n - i) 0 ⟨rfl, rfl, rfl, rfl, rfl, trivial⟩ ⟨Nat.zero_le _, H⟩ ?_
  clear H
  rintro i τ w ⟨hi, H⟩
  repeat refine c_seq ?_
  refine c_region ?_
  refine l_op (o_val (r_mv) ?_)
  refine l_op (o_val (r_mv) ?_)
  refine l_op (o_val (r_bin rfl rfl (fun _ => b_lss)) ?_)
  first | refine l_end ?_ | refine l_nil ?_
  by_cases hc1 : (i : Int) < (n : Int)
  · skip
    repeat refine c_seq ?_
    refine c_yes (by exact congrArg Value.bool (decide_eq_true hc1)) ?_
    refine c_skip ?_
    repeat refine c_seq ?_
    refine c_block ?_
    repeat refine c_seq ?_
    refine c_region ?_
    refine l_op (o_val (r_mv) ?_)
    refine l_op (o_val (r_bin rfl (c64 256 (by decide)) (fun _ => b_mul_u64)) ?_)
    refine l_op (o_val (r_mv) ?_)
    refine l_op (o_val (r_mv) ?_)
    refine l_op (o_val (r_mv) ?_)
    refine l_op (o_val (r_bin rfl rfl (fun _ => b_add (by omega) (by omega))) ?_)
    obtain ⟨ab2, ao3, ah4⟩ := ((hs.up H (fun _ => apart_nil _))).addr (by (try simp only [Sl.cut]); omega)
    refine l_op (o_val (r_isN (at_ + i) rfl rfl el29 ah4 (by omega) (by (try simp only [Sl.cut]); omega)) ?_)
    refine l_op (o_val (r_ldB (s := s) (k := at_ + i) (hs.up H (fun _ => apart_nil _)) ah4 rfl ct5 (by (try simp only [Sl.cut]); omega)) ?_)
    refine l_op (o_val (r_conv Try.underlying5 Try.underlying35 rfl (w_u64_8 _)) ?_)
    refine l_op (o_val (r_bin rfl rfl (fun _ => b_add_u64)) ?_)
    refine l_op (o_val (r_as) ?_)
    first | refine l_end ?_ | refine l_nil ?_
    repeat refine c_seq ?_
    refine c_region ?_
    refine l_op (o_val (r_mv) ?_)
    refine l_op (o_val (r_bin rfl rfl (fun _ => b_add (by omega) (by omega))) ?_)
    refine l_op (o_val (r_as) ?_)
    first | refine l_end ?_ | refine l_nil ?_
    refine round_end (i + 1) ?_ ?_ ?_
    · exact ⟨rfl, rfl, rfl, show V64 (((nump s.l at_ i) * (256 : UInt64)) + (((s.l).getD (at_ + i) 0).toUInt64)) = V64 (nump s.l at_ (i + 1 : Nat)) from congrArg V64 (nump_succ _ _ _ (by omega) _ rfl), show VI ((i : Int) + 1) = VI ((i + 1 : Nat) : Int) from congrArg VI (by omega), trivial⟩
    · refine ⟨?_, ?_⟩
      · try dsimp only
        exact by omega
      · exact H
    · show n - (i + 1 : Nat) < n - i; omega
  · skip
    repeat refine c_seq ?_
    refine c_no (by exact congrArg Value.bool (decide_eq_false hc1)) ?_
    refine c_exit ?_
    repeat refine c_seq ?_
    refine c_region ?_
    refine l_op (o_val (r_mv) ?_)
    refine l_op (o_val (r_as) ?_)
    refine l_op (o_val (r_as) ?_)
    first | refine l_end ?_ | refine l_nil ?_
    refine c_ret ?_
    try dsimp only [Exit.then, Exit.inBlock]
    refine e_retN (vs := [V64 (nump s.l at_ i), VI 0]) _ Try.results114 rfl (resT (v := V64 (nump s.l at_ i)) rfl (resT (v := VI 0) rfl (resZ))) ?_
    refine ⟨_, rfl, ?_⟩
    have hin : i = n := by omega
    subst hin
    exact ⟨by rw [num, ← nump], H⟩
theorem at1_short (w0 : World) (s : Sl) (hs : s.ok w0) (at_ n : Nat) (h1 : 1 ≤ n) (h8 : n ≤ 8) (hat : at_ ≤ 1099511627776) (hl : s.len < at_ + n) :
    Ret Try.prog 114 [s.v, VI (at_ : Int), VI (n : Int)] w0 fun v w' => v = .tuple #[V64 0, VI 3] ∧ Hp w0 w' [] [] := by
  refine ret_mk Try.func114 rfl Try.ntmps114 (by simp) ?_
  have H := Hp.refl w0 []
  have hsl := hs.ln
  have hle := hs.le
  have hmx := hs.mx
  repeat refine c_seq ?_
  refine c_region ?_
  refine l_op (o_val (r_asV (c64 0 (by decide))) ?_)
  refine l_op (o_val (r_as) ?_)
  first | refine l_end ?_ | refine l_nil ?_
  repeat refine c_seq ?_
  refine c_region ?_
  refine l_op (o_val (r_mv) ?_)
  refine l_op (o_val (r_bin rfl rfl (fun _ => b_lssB false (decide_eq_false (by omega)))) ?_)
  refine l_op (o_val (r_mv) ?_)
  refine l_yes rfl rfl rfl (o_val (r_mv) ?_)
  refine l_yes rfl rfl rfl (o_val (r_bin rfl rfl (fun _ => b_gtrB false (decide_eq_false (by omega)))) ?_)
  refine l_op (o_val (r_pick rfl) ?_)
  refine l_op (o_val (r_mv) ?_)
  refine l_yes rfl rfl rfl (o_val (r_mv) ?_)
  refine l_yes rfl rfl rfl (o_val (r_bin rfl rfl (fun _ => b_lssB false (decide_eq_false (by omega)))) ?_)
  refine l_op (o_val (r_pick rfl) ?_)
  first | refine l_end ?_ | refine l_nil ?_
  repeat refine c_seq ?_
  refine c_no rfl ?_
  refine c_skip ?_
  repeat refine c_seq ?_
  refine c_region ?_
  refine l_op (o_val (r_mv) ?_)
  refine l_op (o_val (r_mv) ?_)
  refine l_op (o_val (r_lens el29 rfl) ?_)
  refine l_op (o_val (r_bin rfl rfl (fun _ => b_gtr)) ?_)
  refine l_op (o_val (r_mv) ?_)
  by_cases hc1 : (s.len : Int) < (at_ : Int)
  · skip
    refine l_no rfl rfl (by exact congrArg Value.bool (decide_eq_true hc1)) rfl ?_
    refine l_no rfl rfl (by exact congrArg Value.bool (decide_eq_true hc1)) rfl ?_
    refine l_no rfl rfl (by exact congrArg Value.bool (decide_eq_true hc1)) rfl ?_
    refine l_no rfl rfl (by exact congrArg Value.bool (decide_eq_true hc1)) rfl ?_
    refine l_no rfl rfl (by exact congrArg Value.bool (decide_eq_true hc1)) rfl ?_
    refine l_no rfl rfl (by exact congrArg Value.bool (decide_eq_true hc1)) rfl ?_
    refine l_op (o_val (r_pick (b := true) (congrArg Value.bool (decide_eq_true hc1))) ?_)
    first | refine l_end ?_ | refine l_nil ?_
    repeat refine c_seq ?_
    refine c_yes rfl ?_
    repeat refine c_seq ?_
    refine c_region ?_
    refine l_op (o_val (r_asV (c64 0 (by decide))) ?_)
    refine l_op (o_val (r_as) ?_)
    first | refine l_end ?_ | refine l_nil ?_
    refine c_ret ?_
    try dsimp only [Exit.then, Exit.inBlock]
    refine e_retN (vs := [V64 (0 : UInt64), VI 3]) _ Try.results114 rfl (resT (v := V64 (0 : UInt64)) rfl (resT (v := VI 3) rfl (resZ))) ?_
    refine ⟨_, rfl, ?_⟩
    exact ⟨rfl, H⟩
  · skip
    refine l_yes rfl rfl (by exact congrArg Value.bool (decide_eq_false hc1)) (o_val (r_mv) ?_)
    refine l_yes rfl rfl (by exact congrArg Value.bool (decide_eq_false hc1)) (o_val (r_mv) ?_)
    refine l_yes rfl rfl (by exact congrArg Value.bool (decide_eq_false hc1)) (o_val (r_lens el29 rfl) ?_)
    refine l_yes rfl rfl (by exact congrArg Value.bool (decide_eq_false hc1)) (o_val (r_mv) ?_)
    refine l_yes rfl rfl (by exact congrArg Value.bool (decide_eq_false hc1)) (o_val (r_bin rfl rfl (fun _ => b_sub (by omega) (by omega))) ?_)
    refine l_yes rfl rfl (by exact congrArg Value.bool (decide_eq_false hc1)) (o_val (r_bin rfl rfl (fun _ => b_gtrB true (decide_eq_true (by omega)))) ?_)
    refine l_op (o_val (r_pick (b := false) (congrArg Value.bool (decide_eq_false hc1))) ?_)
    first | refine l_end ?_ | refine l_nil ?_
    repeat refine c_seq ?_
    refine c_yes rfl ?_
    repeat refine c_seq ?_
    refine c_region ?_
    refine l_op (o_val (r_asV (c64 0 (by decide))) ?_)
    refine l_op (o_val (r_as) ?_)
    first | refine l_end ?_ | refine l_nil ?_
    refine c_ret ?_
    try dsimp only [Exit.then, Exit.inBlock]
    refine e_retN (vs := [V64 (0 : UInt64), VI 3]) _ Try.results114 rfl (resT (v := V64 (0 : UInt64)) rfl (resT (v := VI 3) rfl (resZ))) ?_
    refine ⟨_, rfl, ?_⟩
    exact ⟨rfl, H⟩
end Go.Proofs.Ytjmbbhnpfmblpaa
