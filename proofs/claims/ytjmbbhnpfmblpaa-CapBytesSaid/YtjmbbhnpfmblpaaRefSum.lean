import Derived.Test.YtjmbbhnpfmblpaaRefWord2
import Derived.Test.YtjmbbhnpfmblpaaRefDig
import Derived.Test.YtjmbbhnpfmblpaaOct
/- the document's hash: Sum, Of. -/
namespace Go.Proofs.Ytjmbbhnpfmblpaa
open Go
set_option maxRecDepth 100000
/-- the text, 128 and j zeros. -/
def pz (l : List UInt8) (j : Nat) : List UInt8 := l ++ 128 :: List.replicate j 0
theorem pz_succ (l : List UInt8) (j : Nat) : pz l j ++ [0] = pz l (j + 1) := by simp [pz, List.replicate_succ']
def Zn (n : Nat) : Nat := (119 - n % 64) % 64
theorem mul8N (n : Nat) : UInt64.ofNat (n * 8) = UInt64.ofNat n <<< (3 : UInt64) := by
  rw [UInt64.ofNat_mul]
  apply UInt64.toNat_inj.1
  rw [UInt64.toNat_mul, UInt64.toNat_shiftLeft, Nat.shiftLeft_eq]
  rfl
/-- the text, what is behind it, and i bytes of its length. -/
def plen (l : List UInt8) (n i : Nat) : List UInt8 := pz l (Zn n) ++ (lenBytes (UInt64.ofNat n)).take i
theorem zeros_Zn (n : Nat) : zerosOf (UInt64.ofNat n) = Zn n := by
  rw [zerosOf, UInt64.toNat_ofNat', Zn]; congr 2; omega
theorem plen_zero (l : List UInt8) (n : Nat) : pz l (Zn n) = plen l n 0 := by simp [plen]
theorem plen_succ (l : List UInt8) (n i : Nat) (h : i < 8) (k : Nat) (hk : k = 56 - 8 * i) : plen l n i ++ [(UInt64.ofNat (n * 8) >>> UInt64.ofNat k).toUInt8] = plen l n (i + 1) := by
  rw [plen, plen, lenBytes_succ _ i h, mul8N, hk, List.append_assoc]
theorem plen_all (l : List UInt8) (n : Nat) (h : l.length = n) : plen l n 8 = padded l := by
  rw [plen, List.take_of_length_le (Nat.le_of_eq (lenBytes_length _)), padded, tailOf, pz, h, zeros_Zn]; simp
theorem padded_length (l : List UInt8) (n : Nat) (h : l.length = n) (hn : n < 1152921504606846976) : (padded l).length = n + 1 + Zn n + 8 := by
  rw [padded, tailOf, h, zeros_Zn]; simp [lenBytes_length, h]; omega
theorem W64_word (x : UInt32) (q k : Nat) (hk : k = 24 - 8 * (q % 4)) : (x.toUInt64 >>> UInt64.ofNat k).toUInt8 = (x >>> UInt32.ofNat (24 - 8 * (q % 4))).toUInt8 := by
  apply UInt8.toNat_inj.1
  have e1 : (UInt64.ofNat k).toNat % 64 = k := by rw [UInt64.toNat_ofNat']; omega
  have e2 : (UInt32.ofNat (24 - 8 * (q % 4))).toNat % 32 = 24 - 8 * (q % 4) := by rw [UInt32.toNat_ofNat']; omega
  rw [UInt64.toNat_toUInt8, UInt64.toNat_shiftRight, e1, UInt32.toNat_toUInt8, UInt32.toNat_shiftRight, e2, UInt32.toNat_toUInt64, hk]
theorem u8_u64 (x : UInt8) : x.toUInt64 = UInt64.ofNat x.toNat := by
  apply UInt64.toNat_inj.1
  have := u8_lt x
  rw [UInt8.toNat_toUInt64, UInt64.toNat_ofNat']; omega
theorem wstep (M : List UInt8) (i q : Nat) (hq : q < 64) (x : UInt8) (hx : x = M.getD (64 * i + q) 0) :
    UInt64.ofNat (pwN ((M.drop (64 * i)).take 64) (q / 4) (q % 4) * 256) + x.toUInt64 = UInt64.ofNat (pwN ((M.drop (64 * i)).take 64) (q / 4) (q % 4 + 1)) := by
  have e : ((M.drop (64 * i)).take 64).getD (4 * (q / 4) + q % 4) 0 = x := by
    rw [show 4 * (q / 4) + q % 4 = q by omega, hx, List.getD_eq_getElem?_getD, List.getD_eq_getElem?_getD, List.getElem?_take_of_lt hq, List.getElem?_drop]
  rw [pwN, e, UInt64.ofNat_add, u8_u64]
/-- the first q bytes of a hash, zeros behind. -/
def wbp (W : List UInt32) (q : Nat) : List UInt8 := (wordBytes W).take q ++ List.replicate (32 - q) 0
theorem wbp_len (W : List UInt32) (q : Nat) (h : q ≤ 32) : (wbp W q).length = 32 := by simp [wbp, wordBytes_length]; omega
theorem wbp_set (W : List UInt32) (q : Nat) (h : q < 32) (v : UInt8) (hv : v = ((W.getD (q / 4) 0) >>> UInt32.ofNat (24 - 8 * (q % 4))).toUInt8) : (wbp W q).set q v = wbp W (q + 1) := by
  have hl : ((wordBytes W).take q).length = q := by simp [wordBytes_length]; omega
  have hg : (wordBytes W)[q]? = some v := by rw [hv, wordBytes]; simp [h]
  unfold wbp
  rw [List.set_append_right _ _ (by omega), hl, Nat.sub_self, show 32 - q = (32 - (q + 1)) + 1 by omega, List.replicate_succ, List.set_cons_zero, List.take_add_one, hg]
  simp
theorem wbp_all (W : List UInt32) : wbp W 32 = wordBytes W := by
  rw [wbp, List.take_of_length_le (Nat.le_of_eq (wordBytes_length _))]; simp
theorem W64_get (l : List UInt32) (k : Nat) (h : k < l.length) : (l.map W64)[k]? = some (V64 ((l.getD k 0).toUInt64)) := by
  simp [List.getD_eq_getElem?_getD, h, W64]
theorem foldB0 (M : List UInt8) : foldB initS M 0 = initS := rfl
attribute [local irreducible] padded wordBytes lenBytes plen
set_option maxHeartbeats 4000000 in
theorem sum2_ret (w0 : World) (s : Sl) (hs : s.ok w0) (hm : s.len ≤ 1048576) :
    Ret Try.prog 45 [s.v] w0 fun v w' => v = .agg ((sha256 s.l).map V8).toArray ∧ Hp w0 w' [] [] := by
  refine ret_mk Try.func45 rfl Try.ntmps45 (by simp) ?_
  have H := Hp.refl w0 []
  have hln := hs.ln
  have hle := hs.le
  repeat refine c_seq ?_
  refine c_region ?_
  refine l_op (o_alloc H zc31 (fun b1 w H hb1 => ?_))
  replace H : Hp w0 w [] ([.blk b1 ((List.replicate 32 (0 : UInt8)).map V8) 31]) := H
  first | refine l_end ?_ | refine l_nil ?_
  repeat refine c_seq ?_
  refine c_region ?_
  refine l_op (o_callR Try.func106 rfl rfl rfl (keys_ret _) ?_)
  rintro _ w ⟨rfl, Hc⟩
  replace H : Hp w0 w [] ([.blk b1 ((List.replicate 32 (0 : UInt8)).map V8) 31]) := H.call Hc
  clear Hc
  refine l_op (o_alloc H zc119 (fun b2 w H hb2 => ?_))
  replace H : Hp w0 w [] ([.blk b1 ((List.replicate 32 (0 : UInt8)).map V8) 31, .blk b2 ((List.replicate 64 (Value.int .u64 0))) 119]) := H
  refine l_op (o_stw (vs := (primeWords.map W64).toArray) H (i := 1) rfl rfl rfl (by rw [cs119]; rfl) (all_W64 _) (by rfl) (fun w H => ?_))
  replace H : Hp w0 w [] ([.blk b1 ((List.replicate 32 (0 : UInt8)).map V8) 31, .blk b2 (primeWords.map W64) 119]) := H
  first | refine l_end ?_ | refine l_nil ?_
  repeat refine c_seq ?_
  refine c_region ?_
  refine l_op (o_bslB (([] : List UInt8)) H sl29 zc5 rfl rfl (by decide) (fun b3 w H hb3 => ?_))
  replace H : Hp w0 w [] ([.blk b1 ((List.replicate 32 (0 : UInt8)).map V8) 31, .blk b2 (primeWords.map W64) 119, .own (some b3) 0 0 ((([] : List UInt8)).map V8) 5 1]) := H
  refine l_op (o_val (r_mv) ?_)
  refine l_op (o_appB (s := s) (l' := s.l) (len' := s.len) rfl (Nat.zero_add _) H (i := 2) rfl sl29 Try.underlying29 rfl rfl (hs.up H (fun _ => apart_nil _)) (by omega) (fun a4 c5 w H => ?_))
  replace H : Hp w0 w [] ([.blk b1 ((List.replicate 32 (0 : UInt8)).map V8) 31, .blk b2 (primeWords.map W64) 119, .own a4 s.len c5 ((s.l).map V8) 5 1]) := H
  refine l_op (o_bslB ([(128 : UInt8)]) H sl29 zc5 rfl rfl (by decide) (fun b6 w H hb6 => ?_))
  replace H : Hp w0 w [] ([.blk b1 ((List.replicate 32 (0 : UInt8)).map V8) 31, .blk b2 (primeWords.map W64) 119, .own a4 s.len c5 ((s.l).map V8) 5 1, .own (some b6) 1 1 (([(128 : UInt8)]).map V8) 5 1]) := H
  refine l_op (o_appB (s := ⟨hd (some b6), 1, 1, [(128 : UInt8)]⟩) (l' := s.l ++ ([(128 : UInt8)])) (len' := s.len + 1) rfl rfl H (i := 2) rfl sl29 Try.underlying29 rfl rfl (H.slOwn (i := 3) rfl) (by omega) (fun a7 c8 w H => ?_))
  replace H : Hp w0 w [] ([.blk b1 ((List.replicate 32 (0 : UInt8)).map V8) 31, .blk b2 (primeWords.map W64) 119, .own a7 (s.len + 1) c8 ((s.l ++ ([(128 : UInt8)])).map V8) 5 1, .own (some b6) 1 1 (([(128 : UInt8)]).map V8) 5 1]) := H
  refine l_op (o_val (r_as) ?_)
  first | refine l_end ?_ | refine l_nil ?_
  repeat refine c_seq ?_
  refine c_block ?_
  repeat refine c_seq ?_
  refine c_loop3 (fun (j : Nat) (a : Option Nat) (c : Nat) => [(0, s.v), (2, .pointer (some ⟨b1, 0, none⟩)), (3, .pointer (some ⟨b2, 0, none⟩)), (4, .slice (hd a) (s.len + 1 + j) c)])
    (fun (j : Nat) (a : Option Nat) (c : Nat) w => (j ≤ Zn s.len) ∧ Hp w0 w [] ([.blk b1 ((List.replicate 32 (0 : UInt8)).map V8) 31, .blk b2 (primeWords.map W64) 119, .own a (s.len + 1 + j) c ((pz s.l j).map V8) 5 1]))
    (fun (j : Nat) (a : Option Nat) (c : Nat) => Zn s.len - j) 0 a7 c8 ⟨rfl, rfl, rfl, rfl, trivial⟩ ⟨Nat.zero_le _, H.sub (.cons_cons _ (.cons_cons _ (.cons_cons _ (List.nil_sublist _))))⟩ ?_
  clear H
  rintro j a c τ w ⟨hj, H⟩
  have hZ : Zn s.len = (119 - s.len % 64) % 64 := rfl
  repeat refine c_seq ?_
  refine c_region ?_
  refine l_op (o_val (r_mv) ?_)
  refine l_op (o_val (r_lens el29 rfl) ?_)
  refine l_op (o_val (r_bin (a := ((s.len + 1 + j : Nat) : Int)) (b := 64) rfl rfl (fun _ => b_rem (by omega) (by omega))) ?_)
  refine l_op (o_val (r_bin (a := ((s.len + 1 + j : Nat) : Int) % 64) (b := 56) rfl rfl (fun _ => b_neq)) ?_)
  first | refine l_end ?_ | refine l_nil ?_
  by_cases hc9 : ((s.len + 1 + j : Nat) : Int) % 64 ≠ 56
  · skip
    repeat refine c_seq ?_
    refine c_yes (by exact congrArg Value.bool (decide_eq_true hc9)) ?_
    refine c_skip ?_
    repeat refine c_seq ?_
    refine c_block ?_
    repeat refine c_seq ?_
    refine c_region ?_
    refine l_op (o_val (r_mv) ?_)
    refine l_op (o_bslB ([(0 : UInt8)]) H sl29 zc5 rfl rfl (by decide) (fun b10 w H hb10 => ?_))
    replace H : Hp w0 w [] ([.blk b1 ((List.replicate 32 (0 : UInt8)).map V8) 31, .blk b2 (primeWords.map W64) 119, .own a (s.len + 1 + j) c ((pz s.l j).map V8) 5 1, .own (some b10) 1 1 (([(0 : UInt8)]).map V8) 5 1]) := H
    refine l_op (o_appB (s := ⟨hd (some b10), 1, 1, [(0 : UInt8)]⟩) (l' := pz s.l (j + 1)) (len' := s.len + 1 + (j + 1)) (pz_succ _ _) rfl H (i := 2) rfl sl29 Try.underlying29 rfl rfl (H.slOwn (i := 3) rfl) (by omega) (fun a11 c12 w H => ?_))
    replace H : Hp w0 w [] ([.blk b1 ((List.replicate 32 (0 : UInt8)).map V8) 31, .blk b2 (primeWords.map W64) 119, .own a11 (s.len + 1 + (j + 1)) c12 ((pz s.l (j + 1)).map V8) 5 1, .own (some b10) 1 1 (([(0 : UInt8)]).map V8) 5 1]) := H
    refine l_op (o_val (r_as) ?_)
    first | refine l_end ?_ | refine l_nil ?_
    refine round_end (j + 1, a11, c12) ?_ ?_ ?_
    · exact ⟨rfl, rfl, rfl, rfl, trivial⟩
    · refine ⟨?_, ?_⟩
      · try dsimp only
        exact by omega
      · exact H.sub (.cons_cons _ (.cons_cons _ (.cons_cons _ (List.nil_sublist _))))
    · show Zn s.len - (j + 1 : Nat) < Zn s.len - j; omega
  · skip
    repeat refine c_seq ?_
    refine c_no (by exact congrArg Value.bool (decide_eq_false hc9)) ?_
    refine c_exit ?_
    have hjz : j = Zn s.len := by omega
    subst hjz
    clear hj
    rw [plen_zero] at H
    replace H : Hp w0 w [] ([.blk b1 ((List.replicate 32 (0 : UInt8)).map V8) 31, .blk b2 (primeWords.map W64) 119, .own a (s.len + 1 + Zn s.len) c ((plen s.l s.len 0).map V8) 5 1]) := H
    repeat refine c_seq ?_
    refine c_region ?_
    refine l_op (o_val (r_mv) ?_)
    refine l_op (o_val (r_lens el29 rfl) ?_)
    refine l_op (o_val (r_conv (v := ((UInt64.ofNat s.len).toNat : Int)) Try.underlying3 Try.underlying35 rfl (w_u64_N s.len (by omega))) ?_)
    refine l_op (o_val (r_bin rfl (c64 8 (by decide)) (fun _ => b_mul_u64N)) ?_)
    refine l_op (o_val (r_as) ?_)
    first | refine l_end ?_ | refine l_nil ?_
    repeat refine c_seq ?_
    refine c_region ?_
    refine l_op (o_val (r_as) ?_)
    first | refine l_end ?_ | refine l_nil ?_
    repeat refine c_seq ?_
    refine c_block ?_
    repeat refine c_seq ?_
    refine c_loop3 (fun (i : Nat) (a : Option Nat) (c : Nat) => [(2, .pointer (some ⟨b1, 0, none⟩)), (3, .pointer (some ⟨b2, 0, none⟩)), (4, .slice (hd a) (s.len + 1 + Zn s.len + i) c), (5, V64 (UInt64.ofNat (s.len * 8))), (6, VI (i : Int))])
      (fun (i : Nat) (a : Option Nat) (c : Nat) w => (i ≤ 8) ∧ Hp w0 w [] ([.blk b1 ((List.replicate 32 (0 : UInt8)).map V8) 31, .blk b2 (primeWords.map W64) 119, .own a (s.len + 1 + Zn s.len + i) c ((plen s.l s.len i).map V8) 5 1]))
      (fun (i : Nat) (a : Option Nat) (c : Nat) => 8 - i) 0 a c ⟨rfl, rfl, rfl, rfl, rfl, trivial⟩ ⟨Nat.zero_le _, H⟩ ?_
    clear H
    rintro i a c τ w ⟨hi, H⟩
    have hZ : Zn s.len = (119 - s.len % 64) % 64 := rfl
    repeat refine c_seq ?_
    refine c_region ?_
    refine l_op (o_val (r_mv) ?_)
    refine l_op (o_val (r_bin (a := (i : Int)) (b := 8) rfl rfl (fun _ => b_lss)) ?_)
    first | refine l_end ?_ | refine l_nil ?_
    by_cases hc13 : (i : Int) < 8
    · skip
      repeat refine c_seq ?_
      refine c_yes (by exact congrArg Value.bool (decide_eq_true hc13)) ?_
      refine c_skip ?_
      repeat refine c_seq ?_
      refine c_block ?_
      repeat refine c_seq ?_
      refine c_region ?_
      refine l_op (o_val (r_mv) ?_)
      refine l_op (o_val (r_mv) ?_)
      refine l_op (o_val (r_mv) ?_)
      refine l_op (o_val (r_bin (a := 8) (b := (i : Int)) rfl rfl (fun _ => b_mul (by omega) (by omega))) ?_)
      refine l_op (o_val (r_bin (a := 56) (b := 8 * (i : Int)) rfl rfl (fun _ => b_sub (by omega) (by omega))) ?_)
      refine l_op (o_val (r_shift rfl rfl (.inr rfl) (fun _ => b_shr_u64 (by omega) (by omega))) ?_)
      refine l_op (o_val (r_conv Try.underlying35 Try.underlying5 rfl (w_u8_64 _)) ?_)
      refine l_op (o_bslB ([((UInt64.ofNat (s.len * 8)) >>> UInt64.ofNat (56 - (8 * (i : Int))).toNat).toUInt8]) H sl29 zc5 rfl rfl (by decide) (fun b14 w H hb14 => ?_))
      replace H : Hp w0 w [] ([.blk b1 ((List.replicate 32 (0 : UInt8)).map V8) 31, .blk b2 (primeWords.map W64) 119, .own a (s.len + 1 + Zn s.len + i) c ((plen s.l s.len i).map V8) 5 1, .own (some b14) 1 1 (([((UInt64.ofNat (s.len * 8)) >>> UInt64.ofNat (56 - (8 * (i : Int))).toNat).toUInt8]).map V8) 5 1]) := H
      refine l_op (o_appB (s := ⟨hd (some b14), 1, 1, [((UInt64.ofNat (s.len * 8)) >>> UInt64.ofNat (56 - (8 * (i : Int))).toNat).toUInt8]⟩) (l' := plen s.l s.len (i + 1)) (len' := s.len + 1 + Zn s.len + (i + 1)) (plen_succ _ _ _ (by omega) _ (by omega)) rfl H (i := 2) rfl sl29 Try.underlying29 rfl rfl (H.slOwn (i := 3) rfl) (by omega) (fun a15 c16 w H => ?_))
      replace H : Hp w0 w [] ([.blk b1 ((List.replicate 32 (0 : UInt8)).map V8) 31, .blk b2 (primeWords.map W64) 119, .own a15 (s.len + 1 + Zn s.len + (i + 1)) c16 ((plen s.l s.len (i + 1)).map V8) 5 1, .own (some b14) 1 1 (([((UInt64.ofNat (s.len * 8)) >>> UInt64.ofNat (56 - (8 * (i : Int))).toNat).toUInt8]).map V8) 5 1]) := H
      refine l_op (o_val (r_as) ?_)
      first | refine l_end ?_ | refine l_nil ?_
      repeat refine c_seq ?_
      refine c_region ?_
      refine l_op (o_val (r_mv) ?_)
      refine l_op (o_val (r_bin (a := (i : Int)) (b := 1) rfl rfl (fun _ => b_add (by omega) (by omega))) ?_)
      refine l_op (o_val (r_as) ?_)
      first | refine l_end ?_ | refine l_nil ?_
      refine round_end (i + 1, a15, c16) ?_ ?_ ?_
      · exact ⟨rfl, rfl, rfl, rfl, show VI ((i : Int) + 1) = VI ((i + 1 : Nat) : Int) from congrArg VI (by omega), trivial⟩
      · refine ⟨?_, ?_⟩
        · try dsimp only
          exact by omega
        · exact H.sub (.cons_cons _ (.cons_cons _ (.cons_cons _ (List.nil_sublist _))))
      · show 8 - (i + 1 : Nat) < 8 - i; omega
    · skip
      repeat refine c_seq ?_
      refine c_no (by exact congrArg Value.bool (decide_eq_false hc13)) ?_
      refine c_exit ?_
      have hi8 : i = 8 := by omega
      subst hi8
      clear hi
      have hpd := padded_length s.l s.len hln (by omega)
      rw [plen_all s.l s.len hln] at H
      obtain ⟨N, hN⟩ := padded_len s.l (by omega)
      rw [hpd] at hN
      replace H : Hp w0 w [] ([.blk b1 ((List.replicate 32 (0 : UInt8)).map V8) 31, .blk b2 (primeWords.map W64) 119, .own a (s.len + 1 + Zn s.len + 8) c ((padded s.l).map V8) 5 1]) := H
      repeat refine c_seq ?_
      refine c_region ?_
      refine l_op (o_val (r_bld' (pv := en 0 (initS.l.map W64)) bd121 rfl (fill_en _ (all_W64 _) rfl)) ?_)
      refine l_op (o_alloc H zc121 (fun b17 w H hb17 => ?_))
      replace H : Hp w0 w [] ([.blk b1 ((List.replicate 32 (0 : UInt8)).map V8) 31, .blk b2 (primeWords.map W64) 119, .own a (s.len + 1 + Zn s.len + 8) c ((padded s.l).map V8) 5 1, .blk b17 ((List.replicate 8 (Value.int .u64 0))) 121]) := H
      refine l_op (o_stw (vs := (initS.l.map W64).toArray) H (i := 3) rfl rfl rfl (by rw [cs121]; rfl) (all_W64 _) (by rfl) (fun w H => ?_))
      replace H : Hp w0 w [] ([.blk b1 ((List.replicate 32 (0 : UInt8)).map V8) 31, .blk b2 (primeWords.map W64) 119, .own a (s.len + 1 + Zn s.len + 8) c ((padded s.l).map V8) 5 1, .blk b17 (initS.l.map W64) 121]) := H
      first | refine l_end ?_ | refine l_nil ?_
      repeat refine c_seq ?_
      refine c_region ?_
      refine l_op (o_val (r_as) ?_)
      first | refine l_end ?_ | refine l_nil ?_
      repeat refine c_seq ?_
      refine c_block ?_
      repeat refine c_seq ?_
      refine c_loop (fun (i : Nat) => [(2, .pointer (some ⟨b1, 0, none⟩)), (3, .pointer (some ⟨b2, 0, none⟩)), (4, .slice (hd a) (s.len + 1 + Zn s.len + 8) c), (7, .pointer (some ⟨b17, 0, none⟩)), (8, VI ((64 * i : Nat) : Int))])
        (fun (i : Nat) w => (i ≤ N) ∧ Hp w0 w [] ([.blk b1 ((List.replicate 32 (0 : UInt8)).map V8) 31, .blk b2 (primeWords.map W64) 119, .own a (s.len + 1 + Zn s.len + 8) c ((padded s.l).map V8) 5 1, .blk b17 ((foldB initS (padded s.l) i).l.map W64) 121]))
        (fun (i : Nat) => N - i) 0 ⟨rfl, rfl, rfl, rfl, rfl, trivial⟩ ⟨Nat.zero_le _, (by rw [foldB0]; exact H)⟩ ?_
      clear H
      rintro i τ w ⟨hi, H⟩
      repeat refine c_seq ?_
      refine c_region ?_
      refine l_op (o_val (r_mv) ?_)
      refine l_op (o_val (r_mv) ?_)
      refine l_op (o_val (r_lens el29 rfl) ?_)
      refine l_op (o_val (r_bin (a := ((64 * i : Nat) : Int)) (b := ((s.len + 1 + Zn s.len + 8 : Nat) : Int)) rfl rfl (fun _ => b_lss)) ?_)
      first | refine l_end ?_ | refine l_nil ?_
      by_cases hc18 : ((64 * i : Nat) : Int) < ((s.len + 1 + Zn s.len + 8 : Nat) : Int)
      · skip
        repeat refine c_seq ?_
        refine c_yes (by exact congrArg Value.bool (decide_eq_true hc18)) ?_
        refine c_skip ?_
        repeat refine c_seq ?_
        refine c_block ?_
        repeat refine c_seq ?_
        refine c_region ?_
        refine l_op (o_alloc H zc119 (fun b19 w H hb19 => ?_))
        replace H : Hp w0 w [] ([.blk b1 ((List.replicate 32 (0 : UInt8)).map V8) 31, .blk b2 (primeWords.map W64) 119, .own a (s.len + 1 + Zn s.len + 8) c ((padded s.l).map V8) 5 1, .blk b17 ((foldB initS (padded s.l) i).l.map W64) 121, .blk b19 ((List.replicate 64 (Value.int .u64 0))) 119]) := H
        first | refine l_end ?_ | refine l_nil ?_
        repeat refine c_seq ?_
        refine c_region ?_
        refine l_op (o_val (r_as) ?_)
        first | refine l_end ?_ | refine l_nil ?_
        repeat refine c_seq ?_
        refine c_block ?_
        repeat refine c_seq ?_
        refine c_loop (fun (q : Nat) => [(2, .pointer (some ⟨b1, 0, none⟩)), (3, .pointer (some ⟨b2, 0, none⟩)), (4, .slice (hd a) (s.len + 1 + Zn s.len + 8) c), (7, .pointer (some ⟨b17, 0, none⟩)), (8, VI ((64 * i : Nat) : Int)), (9, .pointer (some ⟨b19, 0, none⟩)), (10, VI (q : Int))])
          (fun (q : Nat) w => (q ≤ 64) ∧ Hp w0 w [] ([.blk b1 ((List.replicate 32 (0 : UInt8)).map V8) 31, .blk b2 (primeWords.map W64) 119, .own a (s.len + 1 + Zn s.len + 8) c ((padded s.l).map V8) 5 1, .blk b17 ((foldB initS (padded s.l) i).l.map W64) 121, .blk b19 (wpart (((padded s.l).drop (64 * i)).take 64) q) 119]))
          (fun (q : Nat) => 64 - q) 0 ⟨rfl, rfl, rfl, rfl, rfl, rfl, rfl, trivial⟩ ⟨Nat.zero_le _, (by rw [wpart_zero]; exact H)⟩ ?_
        clear H
        rintro q τ w ⟨hq, H⟩
        repeat refine c_seq ?_
        refine c_region ?_
        refine l_op (o_val (r_mv) ?_)
        refine l_op (o_val (r_bin (a := (q : Int)) (b := 64) rfl rfl (fun _ => b_lss)) ?_)
        first | refine l_end ?_ | refine l_nil ?_
        by_cases hc20 : (q : Int) < 64
        · skip
          repeat refine c_seq ?_
          refine c_yes (by exact congrArg Value.bool (decide_eq_true hc20)) ?_
          refine c_skip ?_
          repeat refine c_seq ?_
          refine c_block ?_
          repeat refine c_seq ?_
          refine wp_held (fun w => Hp w0 w [] [.blk b1 ((List.replicate 32 (0 : UInt8)).map V8) 31, .blk b2 (primeWords.map W64) 119, .own a (s.len + 1 + Zn s.len + 8) c ((padded s.l).map V8) 5 1, .blk b17 ((foldB initS (padded s.l) i).l.map W64) 121]) mixed ?_
          replace H := H.drew
          have HS := H.sub (.cons_cons _ (.cons_cons _ (.cons_cons _ (.cons_cons _ (List.nil_sublist _)))))
          refine t_take 0 rfl (by kernel_rfl) (by kernel_rfl) (by kernel_rfl) (fun _ _ _ h => h) (fun w HS => r_mv) HS ?_
          refine t_take 1 rfl (by kernel_rfl) (by kernel_rfl) (by kernel_rfl) (fun _ _ _ h => h) (fun w HS => r_bin (a := (q : Int)) (b := 4) rfl rfl (fun _ => b_quo (by omega) (by omega) (by omega))) HS ?_
          refine t_take 2 rfl (by kernel_rfl) (by kernel_rfl) (by kernel_rfl) (fun _ _ _ h => h) (fun w HS => r_mv) HS ?_
          refine t_take 3 rfl (by kernel_rfl) (by kernel_rfl) (by kernel_rfl) (fun _ _ _ h => h) (fun w HS => r_bin (a := (q : Int)) (b := 4) rfl rfl (fun _ => b_quo (by omega) (by omega) (by omega))) HS ?_
          refine t_take 4 rfl (by kernel_rfl) (by kernel_rfl) (by kernel_rfl) (fun _ _ _ h => h) (fun w HS => r_iaN (q / 4) rfl rfl ar119 (by omega) (by omega)) HS ?_
          refine t_take 7 rfl (by kernel_rfl) (by kernel_rfl) (by kernel_rfl) (fun _ _ _ h => h) (fun w HS => r_mv) HS ?_
          refine t_take 8 rfl (by kernel_rfl) (by kernel_rfl) (by kernel_rfl) (fun _ _ _ h => h) (fun w HS => r_mv) HS ?_
          refine t_take 9 rfl (by kernel_rfl) (by kernel_rfl) (by kernel_rfl) (fun _ _ _ h => h) (fun w HS => r_mv) HS ?_
          refine t_take 10 rfl (by kernel_rfl) (by kernel_rfl) (by kernel_rfl) (fun _ _ _ h => h) (fun w HS => r_bin (a := ((64 * i : Nat) : Int)) (b := (q : Int)) rfl rfl (fun _ => b_add (by omega) (by omega))) HS ?_
          obtain ⟨ab21, ah22⟩ := HS.ownAddr (i := 2) rfl (by omega)
          refine t_take 11 rfl (by kernel_rfl) (by kernel_rfl) (by kernel_rfl) (fun _ _ _ h => h) (fun w HS => r_isN ((64 * i) + q) rfl rfl el29 ah22 (by omega) (by (try simp only [Sl.cut]); omega)) HS ?_
          refine t_take 12 rfl (by kernel_rfl) (by kernel_rfl) (by kernel_rfl) (fun _ _ _ h => h) (fun w HS => r_ldB (s := ⟨hd a, s.len + 1 + Zn s.len + 8, c, padded s.l⟩) (k := (64 * i) + q) (HS.slOwn (i := 2) rfl) ah22 rfl ct5 (by (try simp only [Sl.cut]); omega)) HS ?_
          refine t_take 13 rfl (by kernel_rfl) (by kernel_rfl) (by kernel_rfl) (fun _ _ _ h => h) (fun w HS => r_conv Try.underlying5 Try.underlying35 rfl (w_u64_8 _)) HS ?_
          refine t_step 5 rfl (by kernel_rfl) (o_val (r_ld H (v := V64 (UInt64.ofNat (pwN (((padded s.l).drop (64 * i)).take 64) (q / 4) (q % 4)))) (i := 4) rfl rfl ct35 (by rw [Nat.mul_one, Nat.zero_add]; exact wpart_get _ q (by omega))) ?_)
          refine ⟨H.sub (.cons_cons _ (.cons_cons _ (.cons_cons _ (.cons_cons _ (List.nil_sublist _))))), ?_⟩
          replace HS := H.sub (.cons_cons _ (.cons_cons _ (.cons_cons _ (.cons_cons _ (List.nil_sublist _)))))
          refine t_take 6 rfl (by kernel_rfl) (by kernel_rfl) (by kernel_rfl) (fun _ _ _ h => h) (fun w HS => r_bin rfl (c64 256 (by decide)) (fun _ => b_mul_u64N)) HS ?_
          refine t_take 14 rfl (by kernel_rfl) (by kernel_rfl) (by kernel_rfl) (fun _ _ _ h => h) (fun w HS => r_bin rfl rfl (fun _ => b_add_u64)) HS ?_
          refine t_take 15 rfl (by kernel_rfl) (by kernel_rfl) (by kernel_rfl) (fun _ _ _ h => h) (fun w HS => r_iaN (q / 4) rfl rfl ar119 (by omega) (by omega)) HS ?_
          refine t_step 16 rfl (by kernel_rfl) (o_st (v := V64 (UInt64.ofNat (pwN (((padded s.l).drop (64 * i)).take 64) (q / 4) (q % 4 + 1)))) H (i := 4) rfl rfl (congrArg V64 (wstep (padded s.l) i q (by omega) _ rfl)) cs35 rfl (by rw [wpart_length]; omega) (fun w H => ?_))
          rw [Nat.mul_one, Nat.zero_add, wpart_set _ q (by omega)] at H
          replace H : Hp w0 w [] ([.blk b1 ((List.replicate 32 (0 : UInt8)).map V8) 31, .blk b2 (primeWords.map W64) 119, .own a (s.len + 1 + Zn s.len + 8) c ((padded s.l).map V8) 5 1, .blk b17 ((foldB initS (padded s.l) i).l.map W64) 121, .blk b19 (wpart (((padded s.l).drop (64 * i)).take 64) (q + 1)) 119]) := H
          refine ⟨H.sub (.cons_cons _ (.cons_cons _ (.cons_cons _ (.cons_cons _ (List.nil_sublist _))))), ?_⟩
          replace HS := H.sub (.cons_cons _ (.cons_cons _ (.cons_cons _ (.cons_cons _ (List.nil_sublist _)))))
          refine t_done (by kernel_rfl) ?_
          clear HS
          repeat refine c_seq ?_
          refine c_region ?_
          refine l_op (o_val (r_mv) ?_)
          refine l_op (o_val (r_bin (a := (q : Int)) (b := 1) rfl rfl (fun _ => b_add (by omega) (by omega))) ?_)
          refine l_op (o_val (r_as) ?_)
          first | refine l_end ?_ | refine l_nil ?_
          refine round_end (q + 1) ?_ ?_ ?_
          · exact ⟨rfl, rfl, rfl, rfl, rfl, rfl, show VI ((q : Int) + 1) = VI ((q + 1 : Nat) : Int) from congrArg VI (by omega), trivial⟩
          · refine ⟨?_, ?_⟩
            · try dsimp only
              exact by omega
            · exact H
          · show 64 - (q + 1 : Nat) < 64 - q; omega
        · skip
          repeat refine c_seq ?_
          refine c_no (by exact congrArg Value.bool (decide_eq_false hc20)) ?_
          refine c_exit ?_
          have hq64 : q = 64 := by omega
          subst hq64
          clear hq
          rw [wpart_all] at H
          replace H : Hp w0 w [] ([.blk b1 ((List.replicate 32 (0 : UInt8)).map V8) 31, .blk b2 (primeWords.map W64) 119, .own a (s.len + 1 + Zn s.len + 8) c ((padded s.l).map V8) 5 1, .blk b17 ((foldB initS (padded s.l) i).l.map W64) 121, .blk b19 (padW (firsts (((padded s.l).drop (64 * i)).take 64) 16)) 119]) := H
          repeat refine c_seq ?_
          refine c_region ?_
          refine l_op (o_val (r_ldA H (i := 3) rfl rfl rt121 (by rw [List.length_map]; rfl)) ?_)
          refine l_op (o_val (r_ldA H (i := 4) rfl rfl rt119 (padW_length _ (by rw [firsts_length]; omega))) ?_)
          refine l_op (o_val (r_ldA H (i := 1) rfl rfl rt119 (by rfl)) ?_)
          refine l_op (o_callR Try.func107 rfl rfl rfl (block_ret _ (foldB initS (padded s.l) i) (((padded s.l).drop (64 * i)).take 64)) ?_)
          rintro _ w ⟨rfl, Hc⟩
          replace H : Hp w0 w [] ([.blk b1 ((List.replicate 32 (0 : UInt8)).map V8) 31, .blk b2 (primeWords.map W64) 119, .own a (s.len + 1 + Zn s.len + 8) c ((padded s.l).map V8) 5 1, .blk b17 ((foldB initS (padded s.l) i).l.map W64) 121, .blk b19 (padW (firsts (((padded s.l).drop (64 * i)).take 64) 16)) 119]) := H.call Hc
          clear Hc
          refine l_op (o_stw (vs := ((foldB initS (padded s.l) (i + 1)).l.map W64).toArray) H (i := 3) rfl rfl rfl (by rw [cs121]; rfl) (all_W64 _) (by rw [List.length_map]; rfl) (fun w H => ?_))
          replace H : Hp w0 w [] ([.blk b1 ((List.replicate 32 (0 : UInt8)).map V8) 31, .blk b2 (primeWords.map W64) 119, .own a (s.len + 1 + Zn s.len + 8) c ((padded s.l).map V8) 5 1, .blk b17 ((foldB initS (padded s.l) (i + 1)).l.map W64) 121, .blk b19 (padW (firsts (((padded s.l).drop (64 * i)).take 64) 16)) 119]) := H
          first | refine l_end ?_ | refine l_nil ?_
          repeat refine c_seq ?_
          refine c_region ?_
          refine l_op (o_val (r_mv) ?_)
          refine l_op (o_val (r_bin (a := ((64 * i : Nat) : Int)) (b := 64) rfl rfl (fun _ => b_add (by omega) (by omega))) ?_)
          refine l_op (o_val (r_as) ?_)
          first | refine l_end ?_ | refine l_nil ?_
          refine round_end (i + 1) ?_ ?_ ?_
          · exact ⟨rfl, rfl, rfl, rfl, show VI (((64 * i : Nat) : Int) + 64) = VI ((64 * (i + 1 : Nat) : Nat) : Int) from congrArg VI (by omega), trivial⟩
          · refine ⟨?_, ?_⟩
            · try dsimp only
              exact by omega
            · exact H.sub (.cons_cons _ (.cons_cons _ (.cons_cons _ (.cons_cons _ (List.nil_sublist _)))))
          · show N - (i + 1 : Nat) < N - i; omega
      · skip
        repeat refine c_seq ?_
        refine c_no (by exact congrArg Value.bool (decide_eq_false hc18)) ?_
        refine c_exit ?_
        have hiN : i = N := by omega
        subst hiN
        clear hi
        repeat refine c_seq ?_
        refine c_region ?_
        refine l_op (o_alloc H zc31 (fun b23 w H hb23 => ?_))
        replace H : Hp w0 w [] ([.blk b1 ((List.replicate 32 (0 : UInt8)).map V8) 31, .blk b2 (primeWords.map W64) 119, .own a (s.len + 1 + Zn s.len + 8) c ((padded s.l).map V8) 5 1, .blk b17 ((foldB initS (padded s.l) i).l.map W64) 121, .blk b23 ((List.replicate 32 (0 : UInt8)).map V8) 31]) := H
        first | refine l_end ?_ | refine l_nil ?_
        repeat refine c_seq ?_
        refine c_region ?_
        refine l_op (o_val (r_as) ?_)
        first | refine l_end ?_ | refine l_nil ?_
        repeat refine c_seq ?_
        refine c_block ?_
        repeat refine c_seq ?_
        refine c_loop (fun (q : Nat) => [(2, .pointer (some ⟨b1, 0, none⟩)), (7, .pointer (some ⟨b17, 0, none⟩)), (11, .pointer (some ⟨b23, 0, none⟩)), (12, VI (q : Int))])
          (fun (q : Nat) w => (q ≤ 32) ∧ Hp w0 w [] ([.blk b1 ((List.replicate 32 (0 : UInt8)).map V8) 31, .blk b2 (primeWords.map W64) 119, .own a (s.len + 1 + Zn s.len + 8) c ((padded s.l).map V8) 5 1, .blk b17 ((foldB initS (padded s.l) i).l.map W64) 121, .blk b23 ((wbp (foldB initS (padded s.l) i).l q).map V8) 31]))
          (fun (q : Nat) => 32 - q) 0 ⟨rfl, rfl, rfl, rfl, trivial⟩ ⟨Nat.zero_le _, (by rw [show wbp (foldB initS (padded s.l) i).l 0 = List.replicate 32 (0 : UInt8) by simp [wbp]]; exact H)⟩ ?_
        clear H
        rintro q τ w ⟨hq, H⟩
        repeat refine c_seq ?_
        refine c_region ?_
        refine l_op (o_val (r_mv) ?_)
        refine l_op (o_val (r_bin (a := (q : Int)) (b := 32) rfl rfl (fun _ => b_lss)) ?_)
        first | refine l_end ?_ | refine l_nil ?_
        by_cases hc24 : (q : Int) < 32
        · skip
          repeat refine c_seq ?_
          refine c_yes (by exact congrArg Value.bool (decide_eq_true hc24)) ?_
          refine c_skip ?_
          repeat refine c_seq ?_
          refine c_block ?_
          repeat refine c_seq ?_
          refine c_region ?_
          refine l_op (o_val (r_mv) ?_)
          refine l_op (o_val (r_mv) ?_)
          refine l_op (o_val (r_bin (a := (q : Int)) (b := 4) rfl rfl (fun _ => b_quo (by omega) (by omega) (by omega))) ?_)
          refine l_op (o_val (r_iaN (q / 4) rfl rfl ar121 (by omega) (by omega)) ?_)
          refine l_op (o_val (r_ld H (v := V64 (((foldB initS (padded s.l) i).l.getD (q / 4) 0).toUInt64)) (i := 3) rfl rfl ct35 (by rw [Nat.mul_one, Nat.zero_add]; exact W64_get _ _ (by show q / 4 < 8; omega))) ?_)
          refine l_op (o_val (r_mv) ?_)
          refine l_op (o_val (r_bin (a := (q : Int)) (b := 4) rfl rfl (fun _ => b_rem (by omega) (by omega))) ?_)
          refine l_op (o_val (r_bin (a := 8) (b := (q : Int) % 4) rfl rfl (fun _ => b_mul (by omega) (by omega))) ?_)
          refine l_op (o_val (r_bin (a := 24) (b := 8 * ((q : Int) % 4)) rfl rfl (fun _ => b_sub (by omega) (by omega))) ?_)
          refine l_op (o_val (r_shift rfl rfl (.inr rfl) (fun _ => b_shr_u64 (by omega) (by omega))) ?_)
          refine l_op (o_val (r_conv Try.underlying35 Try.underlying5 rfl (w_u8_64 _)) ?_)
          refine l_op (o_val (r_iaN q rfl rfl ar31 (by omega) (by omega)) ?_)
          refine l_op (o_stAB (u := ((((foldB initS (padded s.l) i).l.getD (q / 4) 0).toUInt64) >>> UInt64.ofNat (24 - (8 * ((q : Int) % 4))).toNat).toUInt8) (k := q) H (i := 4) rfl rfl rfl cs5 (by rw [(show (wbp (foldB initS (padded s.l) i).l q).length = 32 from wbp_len _ _ (by omega))]; omega) (fun w H => ?_))
          rw [show (wbp (foldB initS (padded s.l) i).l q).set q (((((foldB initS (padded s.l) i).l.getD (q / 4) 0).toUInt64) >>> UInt64.ofNat (24 - (8 * ((q : Int) % 4))).toNat).toUInt8) = wbp (foldB initS (padded s.l) i).l (q + 1) from wbp_set _ q (by omega) _ (W64_word _ q _ (by omega))] at H
          replace H : Hp w0 w [] ([.blk b1 ((List.replicate 32 (0 : UInt8)).map V8) 31, .blk b2 (primeWords.map W64) 119, .own a (s.len + 1 + Zn s.len + 8) c ((padded s.l).map V8) 5 1, .blk b17 ((foldB initS (padded s.l) i).l.map W64) 121, .blk b23 ((wbp (foldB initS (padded s.l) i).l (q + 1)).map V8) 31]) := H
          first | refine l_end ?_ | refine l_nil ?_
          repeat refine c_seq ?_
          refine c_region ?_
          refine l_op (o_val (r_mv) ?_)
          refine l_op (o_val (r_bin (a := (q : Int)) (b := 1) rfl rfl (fun _ => b_add (by omega) (by omega))) ?_)
          refine l_op (o_val (r_as) ?_)
          first | refine l_end ?_ | refine l_nil ?_
          refine round_end (q + 1) ?_ ?_ ?_
          · exact ⟨rfl, rfl, rfl, show VI ((q : Int) + 1) = VI ((q + 1 : Nat) : Int) from congrArg VI (by omega), trivial⟩
          · refine ⟨?_, ?_⟩
            · try dsimp only
              exact by omega
            · exact H
          · show 32 - (q + 1 : Nat) < 32 - q; omega
        · skip
          repeat refine c_seq ?_
          refine c_no (by exact congrArg Value.bool (decide_eq_false hc24)) ?_
          refine c_exit ?_
          repeat refine c_seq ?_
          refine c_region ?_
          refine l_op (o_val (r_ldAA (l := wbp (foldB initS (padded s.l) i).l q) H (i := 4) rfl rfl rt31 (show (wbp (foldB initS (padded s.l) i).l q).length = 32 from wbp_len _ _ (by omega))) ?_)
          refine l_op (o_stA (l' := wbp (foldB initS (padded s.l) i).l q) H (i := 0) rfl rfl rfl cs31 (show (List.replicate 32 (0 : UInt8)).length = 32 from (List.length_replicate ..)) (show (wbp (foldB initS (padded s.l) i).l q).length = 32 from wbp_len _ _ (by omega)) (fun w H => ?_))
          replace H : Hp w0 w [] ([.blk b1 ((wbp (foldB initS (padded s.l) i).l q).map V8) 31, .blk b2 (primeWords.map W64) 119, .own a (s.len + 1 + Zn s.len + 8) c ((padded s.l).map V8) 5 1, .blk b17 ((foldB initS (padded s.l) i).l.map W64) 121, .blk b23 ((wbp (foldB initS (padded s.l) i).l q).map V8) 31]) := H
          first | refine l_end ?_ | refine l_nil ?_
          refine c_ret ?_
          try dsimp only [Exit.then, Exit.inBlock]
          refine e_retA (l := wbp (foldB initS (padded s.l) i).l q) Try.results45 H (i := 0) rfl rfl rt31 (show (wbp (foldB initS (padded s.l) i).l q).length = 32 from wbp_len _ _ (by omega)) ?_
          refine ⟨_, rfl, ?_⟩
          have hq32 : q = 32 := by omega
          subst hq32
          refine ⟨?_, H.sub (List.nil_sublist _)⟩
          rw [wbp_all, sha256_eq, digest_padded s.l i (by rw [hpd]; omega)]
end Go.Proofs.Ytjmbbhnpfmblpaa
