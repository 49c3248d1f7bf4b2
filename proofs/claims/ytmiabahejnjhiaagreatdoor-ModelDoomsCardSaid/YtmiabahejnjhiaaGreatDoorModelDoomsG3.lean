/- Lemmas for the statement ModelDooms, part 3: rules of operations, walks through functions, plain laws. -/
import Derived.Test.YtmiabahejnjhiaaGreatDoorModelDoomsG2
import Derived.Lib.AppendZeros
namespace Go.Proofs.YtmiabahejnjhiaaGreatDoor
open Go
set_option maxRecDepth 100000
/-- the hash of a text. -/
def sha256 (l : List UInt8) : List UInt8 := digest (absorb HS.init l)
theorem sha256_len (l : List UInt8) : (sha256 l).length = 32 := digest_length _
theorem sha1_ret (w0 : World) (a : Option Addr) (s : Sl) (hr : RdS w0 a [s.v]) (hs : s.ok w0) :
    Ret Tryz.prog 66 [.slice a 1 1] w0 fun v w' => v = .agg ((sha256 s.l).map V8).toArray ∧ Hp w0 w' [] [] := by
  have h := of_ret w0 a 1 1 [s] hr rfl (all1 hs) (by decide)
  rw [show cat [s] = s.l by simp [cat]] at h
  exact h
theorem sha2_ret (w0 : World) (a : Option Addr) (s u : Sl) (hr : RdS w0 a [s.v, u.v]) (hs : s.ok w0) (hu : u.ok w0) :
    Ret Tryz.prog 66 [.slice a 2 2] w0 fun v w' => v = .agg ((sha256 (s.l ++ u.l)).map V8).toArray ∧ Hp w0 w' [] [] := by
  have h := of_ret w0 a 2 2 [s, u] hr rfl (all2 hs hu) (by decide)
  rw [show cat [s, u] = s.l ++ u.l by simp [cat]] at h
  exact h
theorem sha256_eq (l : List UInt8) : sha256 l = digest (absorb HS.init l) := rfl
/-- a hash of which it is known what it was told. -/
def hashX (x : List UInt8) : List Value := hashH (absorb HS.init x)
attribute [irreducible] sha256 hashX
/-- v in n bytes, the highest first. -/
def be (v : Nat) : Nat → List UInt8
  | 0 => []
  | i + 1 => UInt8.ofNat (v / 256 ^ i) :: be v i
theorem be_len (v : Nat) : ∀ n, (be v n).length = n
  | 0 => rfl
  | n + 1 => by simp [be, be_len v n]
theorem shr_be (v : UInt64) (k : Nat) (h : k < 8) : (v >>> UInt64.ofNat (8 * k)).toUInt8 = UInt8.ofNat (v.toNat / 256 ^ k) := by
  apply UInt8.toNat_inj.1
  have e : (UInt64.ofNat (8 * k)).toNat % 64 = 8 * k := by rw [UInt64.toNat_ofNat']; omega
  rw [UInt64.toNat_toUInt8, UInt64.toNat_shiftRight, e, Nat.shiftRight_eq_div_pow, UInt8.toNat_ofNat', Nat.pow_mul]
theorem shr_fit (v : UInt64) (k : Nat) (h : k < 8) (hv : v.toNat < 256 ^ k) : v >>> UInt64.ofNat (8 * k) = 0 := by
  apply UInt64.toNat_inj.1
  have e : (UInt64.ofNat (8 * k)).toNat % 64 = 8 * k := by rw [UInt64.toNat_ofNat']; omega
  rw [UInt64.toNat_shiftRight, e, Nat.shiftRight_eq_div_pow, Nat.pow_mul]
  exact Nat.div_eq_of_lt hv
theorem own_ret (w0 : World) (s : Sl) (hs : s.ok w0) (n : Nat) (hm : s.len + n ≤ 1099511627776) :
    Ret Tryz.prog 114 [s.v, VI (n : Int)] w0 fun v w' => ∃ a cap, v = .slice (hd a) s.len cap ∧ Hp w0 w' [] [.own a s.len cap (s.l.map V8) 5 1] := by
  refine ret_mk Tryz.func114 rfl Tryz.ntmps114 (by simp) ?_
  have H := Hp.refl w0 []
  refine rG ?_; refine aZ ?_; refine eN ?_
  refine rG ?_; refine mV ?_; refine lV (r_lens el33 rfl) ?_; refine mV ?_; refine lV (r_bin (a := (s.len : Int)) (b := (n : Int)) rfl rfl (fun _ => b_add oM oM)) ?_; refine l_op (o_makeB0 (s.len + n) H sl33 zc5 rfl rfl rfl oM oM (fun b1 w H hb1 => ?_)); replace H : Hp _ w _ ([.own (some b1) 0 (s.len + n) ((([] : List UInt8)).map V8) 5 1]) := H
  refine mV ?_; refine l_op (o_appB (s := s) (l' := s.l) (len' := s.len) rfl (Nat.zero_add _) H (i := 0) rfl sl33 Tryz.underlying33 rfl rfl (hs.up H (fun _ => apart_nil _)) oM (fun a2 c3 w H => ?_)); replace H : Hp _ w _ ([.own a2 s.len c3 ((s.l).map V8) 5 1]) := H
  refine aZ ?_; refine eN ?_
  refine cR ?_
  refine e_ret1 (v := .slice (hd a2) s.len c3) Tryz.results114 rfl ?_
  refine ⟨_, rfl, ?_⟩
  exact ⟨_, _, rfl, H⟩
theorem put_ret (w0 : World) (s : Sl) (hs : s.ok w0) (u : UInt64) (n : Nat) (h1 : 1 ≤ n) (h8 : n ≤ 8) (hf : n = 8 ∨ u.toNat < 256 ^ n) (hm : s.len ≤ 1048576) :
    Ret Tryz.prog 70 [s.v, V64 u, VI (n : Int)] w0 fun v w' => ∃ a cap, v = .tuple #[.slice (hd a) (s.len + n) cap, VI 0] ∧ Hp w0 w' [] [.own a (s.len + n) cap ((s.l ++ be u.toNat n).map V8) 5 1] := by
  refine ret_mk Tryz.func70 rfl Tryz.ntmps70 (by simp) ?_
  have H := Hp.refl w0 []
  refine rG ?_; refine aZ ?_; refine aZ ?_; refine eN ?_
  refine qB ?_; refine rG ?_; refine mV ?_; refine lV (r_bin (a := (n : Int)) (b := 1) rfl rfl (fun _ => b_lssB false (decide_eq_false oM))) ?_; refine mV ?_; refine l_yes rfl rfl rfl (o_val r_mv ?_); refine l_yes rfl rfl rfl (o_val (r_bin (a := (n : Int)) (b := 8) rfl rfl (fun _ => b_gtrB false (decide_eq_false oM))) ?_); refine lV (r_pick rfl) ?_; refine aZ ?_; refine eN ?_
  refine qN ?_; refine rG ?_; refine mV ?_; refine lV (r_bin (a := (n : Int)) (b := 8) rfl rfl (fun _ => b_lss)) ?_; refine mV ?_
  by_cases hc1 : (n : Int) < 8
  ·
   refine l_yes rfl rfl (by exact bT hc1) (o_val r_mv ?_); refine l_yes rfl rfl (by exact bT hc1) (o_val r_mv ?_); refine l_yes rfl rfl (by exact bT hc1) (o_val (r_conv (v := ((UInt64.ofNat n).toNat : Int)) Tryz.underlying3 Tryz.underlying131 rfl (w_u64_N n oM)) ?_); refine l_yes rfl rfl (by exact bT hc1) (o_val (r_bin (c64 8 (by decide)) rfl (fun _ => b_mul_u64N)) ?_); refine l_yes rfl rfl (by exact bT hc1) (o_val (r_shift rfl rfl (.inr rfl) (fun _ => b_shr_u64N (8 * n) oM)) ?_); refine l_yes rfl rfl (by exact bT hc1) (o_val (r_bin (a := ((u >>> UInt64.ofNat (8 * n)).toNat : Int)) (b := 0) rfl rfl (fun _ => b_neqB false (decide_eq_false (fun hne => hne (by rw [shr_fit u n oM oM]; rfl))))) ?_); refine lV (r_pick (b := true) (bT hc1)) ?_; refine aZ ?_; refine eN ?_
   refine qN ?_; refine c_skip ?_; refine rG ?_; refine mV ?_; refine mV ?_; refine l_op (o_callR Tryz.func114 rfl rfl rfl (own_ret _ s (hs.up H (fun _ => apart_nil _)) n (by first | omega | (simp only [Sl.cut]; omega))) ?_); rintro _ w ⟨a2, c3, rfl, Hc⟩
   replace H : Hp _ w _ ([.own a2 s.len c3 ((s.l).map V8) 5 1]) := H.call Hc
   clear Hc
   refine aZ ?_; refine eN ?_
   refine rG ?_; refine mV ?_; refine lV (r_bin (a := (n : Int)) (b := 1) rfl rfl (fun _ => b_sub oM oM)) ?_; refine aZ ?_; refine eN ?_
   refine qB ?_; repeat refine c_seq ?_
   refine c_loop5 (fun (k : Nat) (l : List UInt8) (a : Option Nat) (ln : Nat) (c : Nat) => [(1, V64 u), (8, .slice (hd a) ln c), (9, VI ((k : Int) - 1))])
     (fun (k : Nat) (l : List UInt8) (a : Option Nat) (ln : Nat) (c : Nat) w => (k ≤ n ∧ l ++ be u.toNat k = s.l ++ be u.toNat n ∧ ln + k = s.len + n) ∧ Hp w0 w [] ([.own a ln c ((l).map V8) 5 1]))
     (fun (k : Nat) (l : List UInt8) (a : Option Nat) (ln : Nat) (c : Nat) => k) n s.l _ s.len _ ⟨rfl, rfl, rfl, trivial⟩ ⟨⟨Nat.le_refl _, rfl, rfl⟩, H⟩ ?_
   clear H
   rintro k l a ln c τ w ⟨⟨hk, hl, hln⟩, H⟩
   refine rG ?_; refine mV ?_; refine lV (r_bin (a := ((k : Int) - 1)) (b := 0) rfl rfl (fun _ => b_geq)) ?_; refine eN ?_
   by_cases hc4 : 0 ≤ ((k : Int) - 1)
   ·
    repeat refine c_seq ?_
    refine c_yes (by exact bT hc4) ?_; refine c_skip ?_; refine qB ?_; have hk1 : k = (k - 1) + 1 := by omega
    rw [hk1, be] at hl
    refine rG ?_; refine mV ?_; refine mV ?_; refine mV ?_; refine lV (r_conv (v := ((UInt64.ofNat (k - 1)).toNat : Int)) Tryz.underlying3 Tryz.underlying131 rfl (w_u64_N (k - 1) oM)) ?_; refine lV (r_bin (c64 8 (by decide)) rfl (fun _ => b_mul_u64N)) ?_; refine lV (r_shift rfl rfl (.inr rfl) (fun _ => b_shr_u64N (8 * (k - 1)) oM)) ?_; refine lV (r_conv Tryz.underlying25 Tryz.underlying5 rfl (w_u8_64 _)) ?_; refine l_op (o_bslB ([(u >>> UInt64.ofNat (8 * (k - 1))).toUInt8]) H sl33 zc5 rfl rfl (by decide) (fun b5 w H hb5 => ?_)); replace H : Hp _ w _ ([_, .own (some b5) 1 1 (([(u >>> UInt64.ofNat (8 * (k - 1))).toUInt8]).map V8) 5 1]) := H
    refine l_op (o_appB (s := ⟨hd (some b5), 1, 1, [(u >>> UInt64.ofNat (8 * (k - 1))).toUInt8]⟩) (l' := l ++ [UInt8.ofNat (u.toNat / 256 ^ (k - 1))]) (len' := ln + 1) (by rw [← shr_be u (k - 1) oM]) rfl H (i := 0) rfl sl33 Tryz.underlying33 rfl rfl (H.slOwn (i := 1) rfl) oM (fun a6 c7 w H => ?_)); replace H : Hp _ w _ ([.own a6 (ln + 1) c7 ((l ++ [UInt8.ofNat (u.toNat / 256 ^ (k - 1))]).map V8) 5 1, _]) := H
    refine aZ ?_; refine eN ?_
    refine rG ?_; refine mV ?_; refine lV (r_bin (a := ((k : Int) - 1)) (b := 1) rfl rfl (fun _ => b_sub oM oM)) ?_; refine aZ ?_; refine eN ?_
    refine round_end (k - 1, l ++ [UInt8.ofNat (u.toNat / 256 ^ (k - 1))], a6, ln + 1, c7) ?_ ?_ ?_
    · exact ⟨rfl, rfl, show VI (((k : Int) - 1) - 1) = VI (((k - 1 : Nat) : Int) - 1) from congrArg VI oM, trivial⟩
    · refine ⟨?_, ?_⟩
      · try dsimp only
        exact ⟨by omega, by simpa using hl, by omega⟩
      · exact H.sub (.cons_cons _ (List.nil_sublist _))
    · show (k - 1 : Nat) < k; omega
   ·
    repeat refine c_seq ?_
    refine c_no (by exact bF hc4) ?_; refine c_exit ?_; refine rG ?_; refine mV ?_; refine aZ ?_; refine aZ ?_; refine eN ?_
    refine cR ?_
    refine e_retN (vs := [.slice (hd a) ln c, VI 0]) _ Tryz.results70 rfl (resT (v := .slice (hd a) ln c) rfl (resT (v := VI 0) rfl (resZ))) ?_
    refine ⟨_, rfl, ?_⟩
    have hk0 : k = 0 := by omega
    subst hk0
    simp only [be, List.append_nil, Nat.add_zero] at hl hln
    subst hl hln
    exact ⟨_, _, rfl, H⟩
  ·
   refine l_no rfl rfl (by exact bF hc1) rfl ?_; refine l_no rfl rfl (by exact bF hc1) rfl ?_; refine l_no rfl rfl (by exact bF hc1) rfl ?_; refine l_no rfl rfl (by exact bF hc1) rfl ?_; refine l_no rfl rfl (by exact bF hc1) rfl ?_; refine l_no rfl rfl (by exact bF hc1) rfl ?_; refine lV (r_pick (b := false) (bF hc1)) ?_; refine aZ ?_; refine eN ?_
   refine qN ?_; refine c_skip ?_; refine rG ?_; refine mV ?_; refine mV ?_; refine l_op (o_callR Tryz.func114 rfl rfl rfl (own_ret _ s (hs.up H (fun _ => apart_nil _)) n (by first | omega | (simp only [Sl.cut]; omega))) ?_); rintro _ w ⟨a8, c9, rfl, Hc⟩
   replace H : Hp _ w _ ([.own a8 s.len c9 ((s.l).map V8) 5 1]) := H.call Hc
   clear Hc
   refine aZ ?_; refine eN ?_
   refine rG ?_; refine mV ?_; refine lV (r_bin (a := (n : Int)) (b := 1) rfl rfl (fun _ => b_sub oM oM)) ?_; refine aZ ?_; refine eN ?_
   refine qB ?_; repeat refine c_seq ?_
   refine c_loop5 (fun (k : Nat) (l : List UInt8) (a : Option Nat) (ln : Nat) (c : Nat) => [(1, V64 u), (8, .slice (hd a) ln c), (9, VI ((k : Int) - 1))])
     (fun (k : Nat) (l : List UInt8) (a : Option Nat) (ln : Nat) (c : Nat) w => (k ≤ n ∧ l ++ be u.toNat k = s.l ++ be u.toNat n ∧ ln + k = s.len + n) ∧ Hp w0 w [] ([.own a ln c ((l).map V8) 5 1]))
     (fun (k : Nat) (l : List UInt8) (a : Option Nat) (ln : Nat) (c : Nat) => k) n s.l _ s.len _ ⟨rfl, rfl, rfl, trivial⟩ ⟨⟨Nat.le_refl _, rfl, rfl⟩, H⟩ ?_
   clear H
   rintro k l a ln c τ w ⟨⟨hk, hl, hln⟩, H⟩
   refine rG ?_; refine mV ?_; refine lV (r_bin (a := ((k : Int) - 1)) (b := 0) rfl rfl (fun _ => b_geq)) ?_; refine eN ?_
   by_cases hc10 : 0 ≤ ((k : Int) - 1)
   ·
    repeat refine c_seq ?_
    refine c_yes (by exact bT hc10) ?_; refine c_skip ?_; refine qB ?_; have hk1 : k = (k - 1) + 1 := by omega
    rw [hk1, be] at hl
    refine rG ?_; refine mV ?_; refine mV ?_; refine mV ?_; refine lV (r_conv (v := ((UInt64.ofNat (k - 1)).toNat : Int)) Tryz.underlying3 Tryz.underlying131 rfl (w_u64_N (k - 1) oM)) ?_; refine lV (r_bin (c64 8 (by decide)) rfl (fun _ => b_mul_u64N)) ?_; refine lV (r_shift rfl rfl (.inr rfl) (fun _ => b_shr_u64N (8 * (k - 1)) oM)) ?_; refine lV (r_conv Tryz.underlying25 Tryz.underlying5 rfl (w_u8_64 _)) ?_; refine l_op (o_bslB ([(u >>> UInt64.ofNat (8 * (k - 1))).toUInt8]) H sl33 zc5 rfl rfl (by decide) (fun b11 w H hb11 => ?_)); replace H : Hp _ w _ ([_, .own (some b11) 1 1 (([(u >>> UInt64.ofNat (8 * (k - 1))).toUInt8]).map V8) 5 1]) := H
    refine l_op (o_appB (s := ⟨hd (some b11), 1, 1, [(u >>> UInt64.ofNat (8 * (k - 1))).toUInt8]⟩) (l' := l ++ [UInt8.ofNat (u.toNat / 256 ^ (k - 1))]) (len' := ln + 1) (by rw [← shr_be u (k - 1) oM]) rfl H (i := 0) rfl sl33 Tryz.underlying33 rfl rfl (H.slOwn (i := 1) rfl) oM (fun a12 c13 w H => ?_)); replace H : Hp _ w _ ([.own a12 (ln + 1) c13 ((l ++ [UInt8.ofNat (u.toNat / 256 ^ (k - 1))]).map V8) 5 1, _]) := H
    refine aZ ?_; refine eN ?_
    refine rG ?_; refine mV ?_; refine lV (r_bin (a := ((k : Int) - 1)) (b := 1) rfl rfl (fun _ => b_sub oM oM)) ?_; refine aZ ?_; refine eN ?_
    refine round_end (k - 1, l ++ [UInt8.ofNat (u.toNat / 256 ^ (k - 1))], a12, ln + 1, c13) ?_ ?_ ?_
    · exact ⟨rfl, rfl, show VI (((k : Int) - 1) - 1) = VI (((k - 1 : Nat) : Int) - 1) from congrArg VI oM, trivial⟩
    · refine ⟨?_, ?_⟩
      · try dsimp only
        exact ⟨by omega, by simpa using hl, by omega⟩
      · exact H.sub (.cons_cons _ (List.nil_sublist _))
    · show (k - 1 : Nat) < k; omega
   ·
    repeat refine c_seq ?_
    refine c_no (by exact bF hc10) ?_; refine c_exit ?_; refine rG ?_; refine mV ?_; refine aZ ?_; refine aZ ?_; refine eN ?_
    refine cR ?_
    refine e_retN (vs := [.slice (hd a) ln c, VI 0]) _ Tryz.results70 rfl (resT (v := .slice (hd a) ln c) rfl (resT (v := VI 0) rfl (resZ))) ?_
    refine ⟨_, rfl, ?_⟩
    have hk0 : k = 0 := by omega
    subst hk0
    simp only [be, List.append_nil, Nat.add_zero] at hl hln
    subst hl hln
    exact ⟨_, _, rfl, H⟩
end Go.Proofs.YtmiabahejnjhiaaGreatDoor
namespace Go.Proofs.YtmiabahejnjhiaaGreatDoor
open Go
set_option maxRecDepth 100000
/-- the text, 128 and j zeros. -/
def pz (l : List UInt8) (j : Nat) : List UInt8 := l ++ 128 :: List.replicate j 0
theorem pz_succ (l : List UInt8) (j : Nat) : pz l j ++ [0] = pz l (j + 1) := by simp [pz, List.replicate_succ']
def Zn (n : Nat) : Nat := (119 - n % 64) % 64
theorem mul8N (n : Nat) : UInt64.ofNat (n * 8) = UInt64.ofNat n <<< (3 : UInt64) := by
  rw [UInt64.ofNat_mul]
  apply UInt64.toNat_inj.1
  rw [UInt64.toNat_mul, UInt64.toNat_shiftLeft, Nat.shiftLeft_eq]
  rfl
/-- the text, what is behind it, and i bytes of its length. -/
def plen (l : List UInt8) (n i : Nat) : List UInt8 := pz l (Zn n) ++ (lenBytes (UInt64.ofNat n)).take i
theorem zeros_Zn (n : Nat) : zerosOf (UInt64.ofNat n) = Zn n := by
  rw [zerosOf, UInt64.toNat_ofNat', Zn]; congr 2; omega
theorem plen_zero (l : List UInt8) (n : Nat) : pz l (Zn n) = plen l n 0 := by simp [plen]
theorem plen_succ (l : List UInt8) (n i : Nat) (h : i < 8) (k : Nat) (hk : k = 56 - 8 * i) : plen l n i ++ [(UInt64.ofNat (n * 8) >>> UInt64.ofNat k).toUInt8] = plen l n (i + 1) := by
  rw [plen, plen, lenBytes_succ _ i h, mul8N, hk, List.append_assoc]
theorem plen_all (l : List UInt8) (n : Nat) (h : l.length = n) : plen l n 8 = padded l := by
  rw [plen, List.take_of_length_le (Nat.le_of_eq (lenBytes_length _)), padded, tailOf, pz, h, zeros_Zn]; simp
theorem padded_length (l : List UInt8) (n : Nat) (h : l.length = n) (_hn : n < 1152921504606846976) : (padded l).length = n + 1 + Zn n + 8 := by
  rw [padded, tailOf, h, zeros_Zn]; simp [lenBytes_length, h]; omega
theorem W64_word (x : UInt32) (q k : Nat) (hk : k = 24 - 8 * (q % 4)) : (x.toUInt64 >>> UInt64.ofNat k).toUInt8 = (x >>> UInt32.ofNat (24 - 8 * (q % 4))).toUInt8 := by
  apply UInt8.toNat_inj.1
  have e1 : (UInt64.ofNat k).toNat % 64 = k := by rw [UInt64.toNat_ofNat']; omega
  have e2 : (UInt32.ofNat (24 - 8 * (q % 4))).toNat % 32 = 24 - 8 * (q % 4) := by rw [UInt32.toNat_ofNat']; omega
  rw [UInt64.toNat_toUInt8, UInt64.toNat_shiftRight, e1, UInt32.toNat_toUInt8, UInt32.toNat_shiftRight, e2, UInt32.toNat_toUInt64, hk]
theorem u8_u64 (x : UInt8) : x.toUInt64 = UInt64.ofNat x.toNat := by
  apply UInt64.toNat_inj.1
  have := u8_lt x
  rw [UInt8.toNat_toUInt64, UInt64.toNat_ofNat']; omega
theorem wstep (M : List UInt8) (i q : Nat) (hq : q < 64) (x : UInt8) (hx : x = M.getD (64 * i + q) 0) :
    UInt64.ofNat (pwN ((M.drop (64 * i)).take 64) (q / 4) (q % 4) * 256) + x.toUInt64 = UInt64.ofNat (pwN ((M.drop (64 * i)).take 64) (q / 4) (q % 4 + 1)) := by
  have e : ((M.drop (64 * i)).take 64).getD (4 * (q / 4) + q % 4) 0 = x := by
    rw [show 4 * (q / 4) + q % 4 = q by omega, hx, List.getD_eq_getElem?_getD, List.getD_eq_getElem?_getD, List.getElem?_take_of_lt hq, List.getElem?_drop]
  rw [pwN, e, UInt64.ofNat_add, u8_u64]
/-- the first q bytes of a hash, zeros behind. -/
def wbp (W : List UInt32) (q : Nat) : List UInt8 := (wordBytes W).take q ++ List.replicate (32 - q) 0
theorem wbp_len (W : List UInt32) (q : Nat) (h : q ≤ 32) : (wbp W q).length = 32 := by simp [wbp, wordBytes_length]; omega
theorem wbp_set (W : List UInt32) (q : Nat) (h : q < 32) (v : UInt8) (hv : v = ((W.getD (q / 4) 0) >>> UInt32.ofNat (24 - 8 * (q % 4))).toUInt8) : (wbp W q).set q v = wbp W (q + 1) := by
  have hl : ((wordBytes W).take q).length = q := by simp [wordBytes_length]; omega
  have hg : (wordBytes W)[q]? = some v := by rw [hv, wordBytes]; simp [h]
  unfold wbp
  rw [List.set_append_right _ _ oM, hl, Nat.sub_self, show 32 - q = (32 - (q + 1)) + 1 by omega, List.replicate_succ, List.set_cons_zero, List.take_add_one, hg]
  simp
theorem wbp_all (W : List UInt32) : wbp W 32 = wordBytes W := by
  rw [wbp, List.take_of_length_le (Nat.le_of_eq (wordBytes_length _))]; simp
theorem W64_get (l : List UInt32) (k : Nat) (h : k < l.length) : (l.map W64)[k]? = some (V64 ((l.getD k 0).toUInt64)) := by
  simp [List.getD_eq_getElem?_getD, h, W64]
theorem foldB0 (M : List UInt8) : foldB initS M 0 = initS := rfl
attribute [local irreducible] padded wordBytes lenBytes plen
set_option maxHeartbeats 4000000 in
theorem sum2_ret (w0 : World) (s : Sl) (hs : s.ok w0) (hm : s.len ≤ 1048576) :
    Ret Tryz.prog 113 [s.v] w0 fun v w' => v = .agg ((sha256 s.l).map V8).toArray ∧ Hp w0 w' [] [] := by
  refine ret_mk Tryz.func113 rfl Tryz.ntmps113 (by simp) ?_
  have H := Hp.refl w0 []
  have hln := hs.ln
  have hle := hs.le
  refine rG ?_; refine l_op (o_alloc H zc24 (fun b1 w H hb1 => ?_)); replace H : Hp _ w _ ([.blk b1 ((List.replicate 32 (0 : UInt8)).map V8) 24]) := H
  refine eN ?_
  refine rG ?_; refine l_op (o_callR Tryz.func146 rfl rfl rfl (keys_ret _) ?_); rintro _ w ⟨rfl, Hc⟩
  replace H : Hp _ w _ ([_]) := H.call Hc
  clear Hc
  refine l_op (o_alloc H zc209 (fun b2 w H hb2 => ?_)); replace H : Hp _ w _ ([_, .blk b2 ((List.replicate 64 (Value.int .u64 0))) 209]) := H
  refine l_op (o_stw (vs := (primeWords.map W64).toArray) H (i := 1) rfl rfl rfl (by rw [cs209]; rfl) (all_W64 _) (by rfl) (fun w H => ?_)); replace H : Hp _ w _ ([_, .blk b2 (primeWords.map W64) 209]) := H
  refine eN ?_
  refine rG ?_; refine l_op (o_bslB (([] : List UInt8)) H sl33 zc5 rfl rfl (by decide) (fun b3 w H hb3 => ?_)); replace H : Hp _ w _ ([_, _, .own (some b3) 0 0 ((([] : List UInt8)).map V8) 5 1]) := H
  refine mV ?_; refine l_op (o_appB (s := s) (l' := s.l) (len' := s.len) rfl (Nat.zero_add _) H (i := 2) rfl sl33 Tryz.underlying33 rfl rfl (hs.up H (fun _ => apart_nil _)) oM (fun a4 c5 w H => ?_)); replace H : Hp _ w _ ([_, _, .own a4 s.len c5 ((s.l).map V8) 5 1]) := H
  refine l_op (o_bslB ([(128 : UInt8)]) H sl33 zc5 rfl rfl (by decide) (fun b6 w H hb6 => ?_)); replace H : Hp _ w _ ([_, _, _, .own (some b6) 1 1 (([(128 : UInt8)]).map V8) 5 1]) := H
  refine l_op (o_appB (s := ⟨hd (some b6), 1, 1, [(128 : UInt8)]⟩) (l' := s.l ++ ([(128 : UInt8)])) (len' := s.len + 1) rfl rfl H (i := 2) rfl sl33 Tryz.underlying33 rfl rfl (H.slOwn (i := 3) rfl) oM (fun a7 c8 w H => ?_)); replace H : Hp _ w _ ([_, _, .own a7 (s.len + 1) c8 ((s.l ++ ([(128 : UInt8)])).map V8) 5 1, _]) := H
  refine aZ ?_; refine eN ?_
  refine qB ?_; repeat refine c_seq ?_
  refine c_loop3 (fun (j : Nat) (a : Option Nat) (c : Nat) => [(0, s.v), (2, .pointer (some ⟨b1, 0, none⟩)), (3, .pointer (some ⟨b2, 0, none⟩)), (4, .slice (hd a) (s.len + 1 + j) c)])
    (fun (j : Nat) (a : Option Nat) (c : Nat) w => (j ≤ Zn s.len) ∧ Hp w0 w [] ([.blk b1 ((List.replicate 32 (0 : UInt8)).map V8) 24, .blk b2 (primeWords.map W64) 209, .own a (s.len + 1 + j) c ((pz s.l j).map V8) 5 1]))
    (fun (j : Nat) (a : Option Nat) (c : Nat) => Zn s.len - j) 0 a7 c8 ⟨rfl, rfl, rfl, rfl, trivial⟩ ⟨Nat.zero_le _, H.sub (.cons_cons _ (.cons_cons _ (.cons_cons _ (List.nil_sublist _))))⟩ ?_
  clear H
  rintro j a c τ w ⟨hj, H⟩
  have hZ : Zn s.len = (119 - s.len % 64) % 64 := rfl
  refine rG ?_; refine mV ?_; refine lV (r_lens el33 rfl) ?_; refine lV (r_bin (a := ((s.len + 1 + j : Nat) : Int)) (b := 64) rfl rfl (fun _ => b_rem oM oM)) ?_; refine lV (r_bin (a := ((s.len + 1 + j : Nat) : Int) % 64) (b := 56) rfl rfl (fun _ => b_neq)) ?_; refine eN ?_
  by_cases hc9 : ((s.len + 1 + j : Nat) : Int) % 64 ≠ 56
  ·
   repeat refine c_seq ?_
   refine c_yes (by exact bT hc9) ?_; refine c_skip ?_; refine qB ?_; refine rG ?_; refine mV ?_; refine l_op (o_bslB ([(0 : UInt8)]) H sl33 zc5 rfl rfl (by decide) (fun b10 w H hb10 => ?_)); replace H : Hp _ w _ ([_, _, _, .own (some b10) 1 1 (([(0 : UInt8)]).map V8) 5 1]) := H
   refine l_op (o_appB (s := ⟨hd (some b10), 1, 1, [(0 : UInt8)]⟩) (l' := pz s.l (j + 1)) (len' := s.len + 1 + (j + 1)) (pz_succ _ _) rfl H (i := 2) rfl sl33 Tryz.underlying33 rfl rfl (H.slOwn (i := 3) rfl) oM (fun a11 c12 w H => ?_)); replace H : Hp _ w _ ([_, _, .own a11 (s.len + 1 + (j + 1)) c12 ((pz s.l (j + 1)).map V8) 5 1, _]) := H
   refine aZ ?_; refine eN ?_
   refine round_end (j + 1, a11, c12) ?_ ?_ ?_
   · exact ⟨rfl, rfl, rfl, rfl, trivial⟩
   · refine ⟨?_, ?_⟩
     · try dsimp only
       exact by omega
     · exact H.sub (.cons_cons _ (.cons_cons _ (.cons_cons _ (List.nil_sublist _))))
   · show Zn s.len - (j + 1 : Nat) < Zn s.len - j; omega
  ·
   repeat refine c_seq ?_
   refine c_no (by exact bF hc9) ?_; refine c_exit ?_; have hjz : j = Zn s.len := by omega
   subst hjz
   clear hj
   rw [plen_zero] at H
   replace H : Hp _ w _ ([_, _, .own a (s.len + 1 + Zn s.len) c ((plen s.l s.len 0).map V8) 5 1]) := H
   refine rG ?_; refine mV ?_; refine lV (r_lens el33 rfl) ?_; refine lV (r_conv (v := ((UInt64.ofNat s.len).toNat : Int)) Tryz.underlying3 Tryz.underlying25 rfl (w_u64_N s.len oM)) ?_; refine lV (r_bin rfl (c64 8 (by decide)) (fun _ => b_mul_u64N)) ?_; refine aZ ?_; refine eN ?_
   refine rG ?_; refine aZ ?_; refine eN ?_
   refine qB ?_; repeat refine c_seq ?_
   refine c_loop3 (fun (i : Nat) (a : Option Nat) (c : Nat) => [(2, .pointer (some ⟨b1, 0, none⟩)), (3, .pointer (some ⟨b2, 0, none⟩)), (4, .slice (hd a) (s.len + 1 + Zn s.len + i) c), (5, V64 (UInt64.ofNat (s.len * 8))), (6, VI (i : Int))])
     (fun (i : Nat) (a : Option Nat) (c : Nat) w => (i ≤ 8) ∧ Hp w0 w [] ([.blk b1 ((List.replicate 32 (0 : UInt8)).map V8) 24, .blk b2 (primeWords.map W64) 209, .own a (s.len + 1 + Zn s.len + i) c ((plen s.l s.len i).map V8) 5 1]))
     (fun (i : Nat) (a : Option Nat) (c : Nat) => 8 - i) 0 a c ⟨rfl, rfl, rfl, rfl, rfl, trivial⟩ ⟨Nat.zero_le _, H⟩ ?_
   clear H
   rintro i a c τ w ⟨hi, H⟩
   have hZ : Zn s.len = (119 - s.len % 64) % 64 := rfl
   refine rG ?_; refine mV ?_; refine lV (r_bin (a := (i : Int)) (b := 8) rfl rfl (fun _ => b_lss)) ?_; refine eN ?_
   by_cases hc13 : (i : Int) < 8
   ·
    repeat refine c_seq ?_
    refine c_yes (by exact bT hc13) ?_; refine c_skip ?_; refine qB ?_; refine rG ?_; refine mV ?_; refine mV ?_; refine mV ?_; refine lV (r_bin (a := 8) (b := (i : Int)) rfl rfl (fun _ => b_mul oM oM)) ?_; refine lV (r_bin (a := 56) (b := 8 * (i : Int)) rfl rfl (fun _ => b_sub oM oM)) ?_; refine lV (r_shift rfl rfl (.inr rfl) (fun _ => b_shr_u64 oM oM)) ?_; refine lV (r_conv Tryz.underlying25 Tryz.underlying5 rfl (w_u8_64 _)) ?_; refine l_op (o_bslB ([((UInt64.ofNat (s.len * 8)) >>> UInt64.ofNat (56 - (8 * (i : Int))).toNat).toUInt8]) H sl33 zc5 rfl rfl (by decide) (fun b14 w H hb14 => ?_)); replace H : Hp _ w _ ([_, _, _, .own (some b14) 1 1 (([((UInt64.ofNat (s.len * 8)) >>> UInt64.ofNat (56 - (8 * (i : Int))).toNat).toUInt8]).map V8) 5 1]) := H
    refine l_op (o_appB (s := ⟨hd (some b14), 1, 1, [((UInt64.ofNat (s.len * 8)) >>> UInt64.ofNat (56 - (8 * (i : Int))).toNat).toUInt8]⟩) (l' := plen s.l s.len (i + 1)) (len' := s.len + 1 + Zn s.len + (i + 1)) (plen_succ _ _ _ oM _ oM) rfl H (i := 2) rfl sl33 Tryz.underlying33 rfl rfl (H.slOwn (i := 3) rfl) oM (fun a15 c16 w H => ?_)); replace H : Hp _ w _ ([_, _, .own a15 (s.len + 1 + Zn s.len + (i + 1)) c16 ((plen s.l s.len (i + 1)).map V8) 5 1, _]) := H
    refine aZ ?_; refine eN ?_
    refine rG ?_; refine mV ?_; refine lV (r_bin (a := (i : Int)) (b := 1) rfl rfl (fun _ => b_add oM oM)) ?_; refine aZ ?_; refine eN ?_
    refine round_end (i + 1, a15, c16) ?_ ?_ ?_
    · exact ⟨rfl, rfl, rfl, rfl, show VI ((i : Int) + 1) = VI ((i + 1 : Nat) : Int) from congrArg VI oM, trivial⟩
    · refine ⟨?_, ?_⟩
      · try dsimp only
        exact by omega
      · exact H.sub (.cons_cons _ (.cons_cons _ (.cons_cons _ (List.nil_sublist _))))
    · show 8 - (i + 1 : Nat) < 8 - i; omega
   ·
    repeat refine c_seq ?_
    refine c_no (by exact bF hc13) ?_; refine c_exit ?_; have hi8 : i = 8 := by omega
    subst hi8
    clear hi
    have hpd := padded_length s.l s.len hln oM
    rw [plen_all s.l s.len hln] at H
    obtain ⟨N, hN⟩ := padded_len s.l oM
    rw [hpd] at hN
    replace H : Hp _ w _ ([_, _, .own a (s.len + 1 + Zn s.len + 8) c ((padded s.l).map V8) 5 1]) := H
    refine rG ?_; refine lV (r_bld' (pv := en 0 (initS.l.map W64)) bd211 rfl (fill_en _ (all_W64 _) rfl)) ?_; refine l_op (o_alloc H zc211 (fun b17 w H hb17 => ?_)); replace H : Hp _ w _ ([_, _, _, .blk b17 ((List.replicate 8 (Value.int .u64 0))) 211]) := H
    refine l_op (o_stw (vs := (initS.l.map W64).toArray) H (i := 3) rfl rfl rfl (by rw [cs211]; rfl) (all_W64 _) (by rfl) (fun w H => ?_)); replace H : Hp _ w _ ([_, _, _, .blk b17 (initS.l.map W64) 211]) := H
    refine eN ?_
    refine rG ?_; refine aZ ?_; refine eN ?_
    refine qB ?_; repeat refine c_seq ?_
    refine c_loop (fun (i : Nat) => [(2, .pointer (some ⟨b1, 0, none⟩)), (3, .pointer (some ⟨b2, 0, none⟩)), (4, .slice (hd a) (s.len + 1 + Zn s.len + 8) c), (7, .pointer (some ⟨b17, 0, none⟩)), (8, VI ((64 * i : Nat) : Int))])
      (fun (i : Nat) w => (i ≤ N) ∧ Hp w0 w [] ([.blk b1 ((List.replicate 32 (0 : UInt8)).map V8) 24, .blk b2 (primeWords.map W64) 209, .own a (s.len + 1 + Zn s.len + 8) c ((padded s.l).map V8) 5 1, .blk b17 ((foldB initS (padded s.l) i).l.map W64) 211]))
      (fun (i : Nat) => N - i) 0 ⟨rfl, rfl, rfl, rfl, rfl, trivial⟩ ⟨Nat.zero_le _, (by rw [foldB0]; exact H)⟩ ?_
    clear H
    rintro i τ w ⟨hi, H⟩
    refine rG ?_; refine mV ?_; refine mV ?_; refine lV (r_lens el33 rfl) ?_; refine lV (r_bin (a := ((64 * i : Nat) : Int)) (b := ((s.len + 1 + Zn s.len + 8 : Nat) : Int)) rfl rfl (fun _ => b_lss)) ?_; refine eN ?_
    by_cases hc18 : ((64 * i : Nat) : Int) < ((s.len + 1 + Zn s.len + 8 : Nat) : Int)
    ·
     repeat refine c_seq ?_
     refine c_yes (by exact bT hc18) ?_; refine c_skip ?_; refine qB ?_; refine rG ?_; refine l_op (o_alloc H zc209 (fun b19 w H hb19 => ?_)); replace H : Hp _ w _ ([_, _, _, _, .blk b19 ((List.replicate 64 (Value.int .u64 0))) 209]) := H
     refine eN ?_
     refine rG ?_; refine aZ ?_; refine eN ?_
     refine qB ?_; repeat refine c_seq ?_
     refine c_loop (fun (q : Nat) => [(2, .pointer (some ⟨b1, 0, none⟩)), (3, .pointer (some ⟨b2, 0, none⟩)), (4, .slice (hd a) (s.len + 1 + Zn s.len + 8) c), (7, .pointer (some ⟨b17, 0, none⟩)), (8, VI ((64 * i : Nat) : Int)), (9, .pointer (some ⟨b19, 0, none⟩)), (10, VI (q : Int))])
       (fun (q : Nat) w => (q ≤ 64) ∧ Hp w0 w [] ([.blk b1 ((List.replicate 32 (0 : UInt8)).map V8) 24, .blk b2 (primeWords.map W64) 209, .own a (s.len + 1 + Zn s.len + 8) c ((padded s.l).map V8) 5 1, .blk b17 ((foldB initS (padded s.l) i).l.map W64) 211, .blk b19 (wpart (((padded s.l).drop (64 * i)).take 64) q) 209]))
       (fun (q : Nat) => 64 - q) 0 ⟨rfl, rfl, rfl, rfl, rfl, rfl, rfl, trivial⟩ ⟨Nat.zero_le _, (by rw [wpart_zero]; exact H)⟩ ?_
     clear H
     rintro q τ w ⟨hq, H⟩
     refine rG ?_; refine mV ?_; refine lV (r_bin (a := (q : Int)) (b := 64) rfl rfl (fun _ => b_lss)) ?_; refine eN ?_
     by_cases hc20 : (q : Int) < 64
     ·
      repeat refine c_seq ?_
      refine c_yes (by exact bT hc20) ?_; refine c_skip ?_; refine qB ?_; repeat refine c_seq ?_
      refine heldZ H (fun j => Nat.ble 15 j) mixed fun H => ?_
      have HS := H
      refine zA 0 rfl (fun w => r_mv) ?_; refine zA 1 rfl (fun w => r_bin (a := (q : Int)) (b := 4) rfl rfl (fun _ => b_quo oM oM oM)) ?_; refine zA 2 rfl (fun w => r_mv) ?_; refine zA 3 rfl (fun w => r_bin (a := (q : Int)) (b := 4) rfl rfl (fun _ => b_quo oM oM oM)) ?_; refine zA 4 rfl (fun w => r_iaN (q / 4) rfl rfl ar209 oM oM) ?_; refine zT 5 rfl (fun w HS => r_ld HS (v := V64 (UInt64.ofNat (pwN (((padded s.l).drop (64 * i)).take 64) (q / 4) (q % 4)))) (i := 4) rfl rfl ct25 (by rw [Nat.mul_one, Nat.zero_add]; exact wpart_get _ q oM)) HS ?_; refine zA 6 rfl (fun w => r_bin rfl (c64 256 (by decide)) (fun _ => b_mul_u64N)) ?_; refine zA 7 rfl (fun w => r_mv) ?_; refine zA 8 rfl (fun w => r_mv) ?_; refine zA 9 rfl (fun w => r_mv) ?_; refine zA 10 rfl (fun w => r_bin (a := ((64 * i : Nat) : Int)) (b := (q : Int)) rfl rfl (fun _ => b_add oM oM)) ?_; have ah22 := HS.ownAddr (i := 2) rfl oM
      obtain ⟨ab21, ah22⟩ := ah22
      refine zA 11 rfl (fun w => r_isN ((64 * i) + q) rfl rfl el33 ah22 oM (by (try simp only [Sl.cut]); omega)) ?_; refine zT 12 rfl (fun w HS => r_ldB (s := ⟨hd a, s.len + 1 + Zn s.len + 8, c, padded s.l⟩) (k := (64 * i) + q) (HS.slOwn (i := 2) rfl) ah22 rfl ct5 (by (try simp only []); omega)) HS ?_; refine zA 13 rfl (fun w => r_conv Tryz.underlying5 Tryz.underlying25 rfl (w_u64_8 _)) ?_; refine zA 14 rfl (fun w => r_bin rfl rfl (fun _ => b_add_u64)) ?_; refine zA 15 rfl (fun w => r_iaN (q / 4) rfl rfl ar209 oM oM) ?_; refine zU 16 rfl (o_st (v := V64 (UInt64.ofNat (pwN (((padded s.l).drop (64 * i)).take 64) (q / 4) (q % 4 + 1)))) H (i := 4) rfl rfl (congrArg V64 (wstep (padded s.l) i q oM _ rfl)) cs25 rfl (by rw [wpart_length]; omega) (fun w H => ?_))
      rw [Nat.mul_one, Nat.zero_add, wpart_set _ q oM] at H
      replace H : Hp _ w _ ([_, _, _, _, .blk b19 (wpart (((padded s.l).drop (64 * i)).take 64) (q + 1)) 209]) := H
      refine ⟨fun h => Bool.noConfusion (h : true = false), ?_⟩
      clear HS
      refine z_done (by kernel_rfl) ?_; refine rG ?_; refine mV ?_; refine lV (r_bin (a := (q : Int)) (b := 1) rfl rfl (fun _ => b_add oM oM)) ?_; refine aZ ?_; refine eN ?_
      refine round_end (q + 1) ?_ ?_ ?_
      · exact ⟨rfl, rfl, rfl, rfl, rfl, rfl, show VI ((q : Int) + 1) = VI ((q + 1 : Nat) : Int) from congrArg VI oM, trivial⟩
      · refine ⟨?_, ?_⟩
        · try dsimp only
          exact by omega
        · exact H
      · show 64 - (q + 1 : Nat) < 64 - q; omega
     ·
      repeat refine c_seq ?_
      refine c_no (by exact bF hc20) ?_; refine c_exit ?_; have hq64 : q = 64 := by omega
      subst hq64
      clear hq
      rw [wpart_all] at H
      replace H : Hp _ w _ ([_, _, _, _, .blk b19 (padW (firsts (((padded s.l).drop (64 * i)).take 64) 16)) 209]) := H
      refine rG ?_; refine lV (r_ldA H (i := 3) rfl rfl rt211 (by rw [List.length_map]; rfl)) ?_; refine lV (r_ldA H (i := 4) rfl rfl rt209 (padW_length _ (by rw [firsts_length]; omega))) ?_; refine lV (r_ldA H (i := 1) rfl rfl rt209 (by rfl)) ?_; refine l_op (o_callR Tryz.func147 rfl rfl rfl (block_ret _ (foldB initS (padded s.l) i) (((padded s.l).drop (64 * i)).take 64)) ?_); rintro _ w ⟨rfl, Hc⟩
      replace H : Hp _ w _ ([_, _, _, _, _]) := H.call Hc
      clear Hc
      refine l_op (o_stw (vs := ((foldB initS (padded s.l) (i + 1)).l.map W64).toArray) H (i := 3) rfl rfl rfl (by rw [cs211]; rfl) (all_W64 _) (by rw [List.length_map]; rfl) (fun w H => ?_)); replace H : Hp _ w _ ([_, _, _, .blk b17 ((foldB initS (padded s.l) (i + 1)).l.map W64) 211, _]) := H
      refine eN ?_
      refine rG ?_; refine mV ?_; refine lV (r_bin (a := ((64 * i : Nat) : Int)) (b := 64) rfl rfl (fun _ => b_add oM oM)) ?_; refine aZ ?_; refine eN ?_
      refine round_end (i + 1) ?_ ?_ ?_
      · exact ⟨rfl, rfl, rfl, rfl, show VI (((64 * i : Nat) : Int) + 64) = VI ((64 * (i + 1 : Nat) : Nat) : Int) from congrArg VI oM, trivial⟩
      · refine ⟨?_, ?_⟩
        · try dsimp only
          exact by omega
        · exact H.sub (.cons_cons _ (.cons_cons _ (.cons_cons _ (.cons_cons _ (List.nil_sublist _)))))
      · show N - (i + 1 : Nat) < N - i; omega
    ·
     repeat refine c_seq ?_
     refine c_no (by exact bF hc18) ?_; refine c_exit ?_; have hiN : i = N := by omega
     subst hiN
     clear hi
     refine rG ?_; refine l_op (o_alloc H zc24 (fun b23 w H hb23 => ?_)); replace H : Hp _ w _ ([_, _, _, _, .blk b23 ((List.replicate 32 (0 : UInt8)).map V8) 24]) := H
     refine eN ?_
     refine rG ?_; refine aZ ?_; refine eN ?_
     refine qB ?_; repeat refine c_seq ?_
     refine c_loop (fun (q : Nat) => [(2, .pointer (some ⟨b1, 0, none⟩)), (7, .pointer (some ⟨b17, 0, none⟩)), (11, .pointer (some ⟨b23, 0, none⟩)), (12, VI (q : Int))])
       (fun (q : Nat) w => (q ≤ 32) ∧ Hp w0 w [] ([.blk b1 ((List.replicate 32 (0 : UInt8)).map V8) 24, .blk b2 (primeWords.map W64) 209, .own a (s.len + 1 + Zn s.len + 8) c ((padded s.l).map V8) 5 1, .blk b17 ((foldB initS (padded s.l) i).l.map W64) 211, .blk b23 ((wbp (foldB initS (padded s.l) i).l q).map V8) 24]))
       (fun (q : Nat) => 32 - q) 0 ⟨rfl, rfl, rfl, rfl, trivial⟩ ⟨Nat.zero_le _, (by rw [show wbp (foldB initS (padded s.l) i).l 0 = List.replicate 32 (0 : UInt8) by simp [wbp]]; exact H)⟩ ?_
     clear H
     rintro q τ w ⟨hq, H⟩
     refine rG ?_; refine mV ?_; refine lV (r_bin (a := (q : Int)) (b := 32) rfl rfl (fun _ => b_lss)) ?_; refine eN ?_
     by_cases hc24 : (q : Int) < 32
     ·
      repeat refine c_seq ?_
      refine c_yes (by exact bT hc24) ?_; refine c_skip ?_; refine qB ?_; refine rG ?_; refine mV ?_; refine mV ?_; refine lV (r_bin (a := (q : Int)) (b := 4) rfl rfl (fun _ => b_quo oM oM oM)) ?_; refine lV (r_iaN (q / 4) rfl rfl ar211 oM oM) ?_; refine lV (r_ld H (v := V64 (((foldB initS (padded s.l) i).l.getD (q / 4) 0).toUInt64)) (i := 3) rfl rfl ct25 (by rw [Nat.mul_one, Nat.zero_add]; exact W64_get _ _ (by show q / 4 < 8; omega))) ?_; refine mV ?_; refine lV (r_bin (a := (q : Int)) (b := 4) rfl rfl (fun _ => b_rem oM oM)) ?_; refine lV (r_bin (a := 8) (b := (q : Int) % 4) rfl rfl (fun _ => b_mul oM oM)) ?_; refine lV (r_bin (a := 24) (b := 8 * ((q : Int) % 4)) rfl rfl (fun _ => b_sub oM oM)) ?_; refine lV (r_shift rfl rfl (.inr rfl) (fun _ => b_shr_u64 oM oM)) ?_; refine lV (r_conv Tryz.underlying25 Tryz.underlying5 rfl (w_u8_64 _)) ?_; refine lV (r_iaN q rfl rfl ar24 oM oM) ?_; refine l_op (o_stAB (u := ((((foldB initS (padded s.l) i).l.getD (q / 4) 0).toUInt64) >>> UInt64.ofNat (24 - (8 * ((q : Int) % 4))).toNat).toUInt8) (k := q) H (i := 4) rfl rfl rfl cs5 (by rw [(show (wbp (foldB initS (padded s.l) i).l q).length = 32 from wbp_len _ _ oM)]; omega) (fun w H => ?_))
      rw [show (wbp (foldB initS (padded s.l) i).l q).set q (((((foldB initS (padded s.l) i).l.getD (q / 4) 0).toUInt64) >>> UInt64.ofNat (24 - (8 * ((q : Int) % 4))).toNat).toUInt8) = wbp (foldB initS (padded s.l) i).l (q + 1) from wbp_set _ q oM _ (W64_word _ q _ oM)] at H
      replace H : Hp _ w _ ([_, _, _, _, .blk b23 ((wbp (foldB initS (padded s.l) i).l (q + 1)).map V8) 24]) := H
      refine eN ?_
      refine rG ?_; refine mV ?_; refine lV (r_bin (a := (q : Int)) (b := 1) rfl rfl (fun _ => b_add oM oM)) ?_; refine aZ ?_; refine eN ?_
      refine round_end (q + 1) ?_ ?_ ?_
      · exact ⟨rfl, rfl, rfl, show VI ((q : Int) + 1) = VI ((q + 1 : Nat) : Int) from congrArg VI oM, trivial⟩
      · refine ⟨?_, ?_⟩
        · try dsimp only
          exact by omega
        · exact H
      · show 32 - (q + 1 : Nat) < 32 - q; omega
     ·
      repeat refine c_seq ?_
      refine c_no (by exact bF hc24) ?_; refine c_exit ?_; refine rG ?_; refine lV (r_ldAA (l := wbp (foldB initS (padded s.l) i).l q) H (i := 4) rfl rfl rt24 (show (wbp (foldB initS (padded s.l) i).l q).length = 32 from wbp_len _ _ oM)) ?_; refine l_op (o_stA (l' := wbp (foldB initS (padded s.l) i).l q) H (i := 0) rfl rfl rfl cs24 (show (List.replicate 32 (0 : UInt8)).length = 32 from (List.length_replicate ..)) (show (wbp (foldB initS (padded s.l) i).l q).length = 32 from wbp_len _ _ oM) (fun w H => ?_)); replace H : Hp _ w _ ([.blk b1 ((wbp (foldB initS (padded s.l) i).l q).map V8) 24, _, _, _, _]) := H
      refine eN ?_
      refine cR ?_
      refine e_retA (l := wbp (foldB initS (padded s.l) i).l q) Tryz.results113 H (i := 0) rfl rfl rt24 (show (wbp (foldB initS (padded s.l) i).l q).length = 32 from wbp_len _ _ oM) ?_
      refine ⟨_, rfl, ?_⟩
      have hq32 : q = 32 := by omega
      subst hq32
      refine ⟨?_, H.sub (List.nil_sublist _)⟩
      rw [wbp_all, sha256_eq, digest_padded s.l i (by rw [hpd]; omega)]
end Go.Proofs.YtmiabahejnjhiaaGreatDoor
namespace Go.Proofs.YtmiabahejnjhiaaGreatDoor
open Go
set_option maxRecDepth 100000
theorem or_xor_zero (x a b : UInt8) : x ||| (a ^^^ b) = 0 ↔ x = 0 ∧ a = b := by
  constructor
  · intro h
    have h1 := congrArg UInt8.toBitVec h
    simp only [UInt8.toBitVec_or, UInt8.toBitVec_xor] at h1
    have hx : x.toBitVec = 0#8 := by
      apply BitVec.eq_of_getElem_eq
      intro i hi
      have := congrArg (·[i]) h1
      simp at this
      simp [this.1]
    have hab : a.toBitVec = b.toBitVec := by
      apply BitVec.eq_of_getElem_eq
      intro i hi
      have := congrArg (·[i]) h1
      simp at this
      exact this.2
    exact ⟨UInt8.toBitVec_inj.1 hx, UInt8.toBitVec_inj.1 hab⟩
  · rintro ⟨rfl, rfl⟩; simp
theorem take_succ_eq {a b : List UInt8} (i : Nat) (ha : i < a.length) (hb : i < b.length) : a.take (i + 1) = b.take (i + 1) ↔ a.take i = b.take i ∧ a.getD i 0 = b.getD i 0 := by
  have e : ∀ l : List UInt8, i < l.length → l.take (i + 1) = l.take i ++ [l.getD i 0] := fun l hl => by
    rw [List.take_add_one, List.getD_eq_getElem?_getD]; simp [hl]
  rw [e a ha, e b hb]
  constructor
  · intro h
    have := List.append_inj h (by simp; omega)
    exact ⟨this.1, by simpa using this.2⟩
  · rintro ⟨h1, h2⟩; rw [h1, h2]
theorem equal_ret (w0 : World) (s u : Sl) (hs : s.ok w0) (hu : u.ok w0) :
    Ret Tryz.prog 78 [s.v, u.v] w0 fun v w' => v = .bool (decide (s.l = u.l)) ∧ Hp w0 w' [] [] := by
  refine ret_mk Tryz.func78 rfl Tryz.ntmps78 (by simp) ?_
  have H := Hp.refl w0 []
  have hsl := hs.ln
  have hul := hu.ln
  have hmx := hs.mx
  refine rG ?_; refine aZ ?_; refine eN ?_
  refine rG ?_; refine mV ?_; refine lV (r_lens el33 rfl) ?_; refine mV ?_; refine lV (r_lens el33 rfl) ?_; refine lV (r_bin (a := (s.len : Int)) (b := (u.len : Int)) rfl rfl (fun _ => b_neq)) ?_; refine eN ?_
  by_cases hc1 : (s.len : Int) ≠ (u.len : Int)
  ·
   repeat refine c_seq ?_
   refine c_yes (by exact bT hc1) ?_; refine rG ?_; refine aZ ?_; refine eN ?_
   refine cR ?_
   refine e_ret1 (v := .bool false) Tryz.results78 rfl ?_
   refine ⟨_, rfl, ?_⟩
   refine ⟨?_, H⟩
   have e : ¬ s.l = u.l := fun e => by rw [e] at hsl; omega
   rw [decide_eq_false e]
  ·
   repeat refine c_seq ?_
   refine c_no (by exact bF hc1) ?_; refine c_skip ?_; refine rG ?_; refine lV (r_asV (c8 0 (by decide))) ?_; refine eN ?_
   refine rG ?_; refine mV ?_; refine lV (r_lens el33 rfl) ?_; refine mV ?_; refine eN ?_
   refine qB ?_; repeat refine c_seq ?_
   refine c_loop2 (fun (i : Nat) (x : UInt8) => [(0, s.v), (1, u.v), (5, V8 x), (13, VI (s.len : Int)), (14, VI (i : Int))])
     (fun (i : Nat) (x : UInt8) w => (i ≤ s.len ∧ (x = 0 ↔ s.l.take i = u.l.take i)) ∧ Hp w0 w [] ([]))
     (fun (i : Nat) (x : UInt8) => s.len - i) 0 (UInt8.ofNat 0) ⟨rfl, rfl, rfl, rfl, rfl, trivial⟩ ⟨⟨Nat.zero_le _, by simp⟩, H⟩ ?_
   clear H
   rintro i x τ w ⟨⟨hi, hx⟩, H⟩
   refine rG ?_; refine lV (r_bin (a := (i : Int)) (b := (s.len : Int)) rfl rfl (fun _ => b_lss)) ?_; refine eN ?_
   by_cases hc2 : (i : Int) < (s.len : Int)
   ·
    repeat refine c_seq ?_
    refine c_yes (by exact bT hc2) ?_; refine c_skip ?_; refine qB ?_; refine rG ?_; refine mV ?_; refine aZ ?_; refine eN ?_
    repeat refine c_seq ?_
    refine c_still mixed (by kernel_rfl) ?_; replace H := H.drew
    refine s_op (r_mv) ?_; refine s_op (r_mv) ?_; refine s_op (r_mv) ?_; have ah5 := ((hs.up H (fun _ => apart_nil _))).addr (by (try simp only [Sl.cut]); omega)
    obtain ⟨ab3, ao4, ah5⟩ := ah5
    refine s_op (r_isN i rfl rfl el33 ah5 oM (by (try simp only [Sl.cut]); omega)) ?_; refine s_op (r_ldB (s := s) (k := i) (hs.up H (fun _ => apart_nil _)) ah5 rfl ct5 (by (try simp only [Sl.cut]); omega)) ?_; refine s_op (r_mv) ?_; refine s_op (r_mv) ?_; have ah8 := ((hu.up H (fun _ => apart_nil _))).addr (by (try simp only [Sl.cut]); omega)
    obtain ⟨ab6, ao7, ah8⟩ := ah8
    refine s_op (r_isN i rfl rfl el33 ah8 oM (by (try simp only [Sl.cut]); omega)) ?_; refine s_op (r_ldB (s := u) (k := i) (hu.up H (fun _ => apart_nil _)) ah8 rfl ct5 (by (try simp only [Sl.cut]); omega)) ?_; refine s_op (r_bin rfl rfl (fun _ => b_xor_u8)) ?_; refine s_op (r_bin rfl rfl (fun _ => b_or_u8)) ?_; refine s_op (r_as) ?_; refine s_nil ?_; refine rG ?_; refine lV (r_bin (a := (i : Int)) (b := 1) rfl rfl (fun _ => b_add oM oM)) ?_; refine mV ?_; refine eN ?_
    refine round_end (i + 1, x ||| (((s.l).getD i 0) ^^^ ((u.l).getD i 0))) ?_ ?_ ?_
    · exact ⟨rfl, rfl, show V8 (x ||| (((s.l).getD i 0) ^^^ ((u.l).getD i 0))) = V8 (x ||| (((s.l).getD i 0) ^^^ ((u.l).getD i 0)) : UInt8) from congrArg V8 rfl, rfl, show VI ((i : Int) + 1) = VI ((i + 1 : Nat) : Int) from congrArg VI oM, trivial⟩
    · refine ⟨?_, ?_⟩
      · try dsimp only
        exact ⟨by omega, by rw [or_xor_zero, hx, take_succ_eq i oM oM]⟩
      · exact H
    · show s.len - (i + 1 : Nat) < s.len - i; omega
   ·
    repeat refine c_seq ?_
    refine c_no (by exact bF hc2) ?_; refine c_exit ?_; refine rG ?_; refine mV ?_; refine lV (r_bin (a := (x.toNat : Int)) (b := 0) rfl rfl (fun _ => b_eql)) ?_; refine aZ ?_; refine eN ?_
    refine cR ?_
    refine e_ret1 (v := .bool (decide ((x.toNat : Int) = 0))) Tryz.results78 rfl ?_
    refine ⟨_, rfl, ?_⟩
    refine ⟨?_, H⟩
    congr 1
    have hi2 : i = s.len := by omega
    subst hi2
    rw [List.take_of_length_le oM, List.take_of_length_le oM] at hx
    rw [decide_eq_decide, ← hx, ← UInt8.toNat_inj]
    have z : (0 : UInt8).toNat = 0 := rfl
    rw [z]
    omega
/-- a key's bytes, and zeros to a block. -/
def padk (k : List UInt8) : List UInt8 := k ++ List.replicate (64 - k.length) 0
def hkey (k : List UInt8) : List UInt8 := if 64 < k.length then sha256 k else k
def kpad (k : List UInt8) (m : UInt8) : List UInt8 := (padk k).map (· ^^^ m)
def hmac (k b : List UInt8) : List UInt8 := sha256 (kpad (hkey k) 92 ++ sha256 (kpad (hkey k) 54 ++ b))
theorem hmac_len (k b : List UInt8) : (hmac k b).length = 32 := by simp [hmac, sha256_len]
theorem padk_len (k : List UInt8) (h : k.length ≤ 64) : (padk k).length = 64 := by simp [padk]; omega
theorem copy_pad (k : List UInt8) (n : Nat) (hn : k.length = n) (h : n ≤ 64) : k.take (min n 64) ++ (List.replicate 64 (0 : UInt8)).drop (min n 64) = padk k := by
  rw [Nat.min_eq_left h, List.take_of_length_le oM, List.drop_replicate, padk, hn]
def xpart (l : List UInt8) (m : UInt8) (i : Nat) : List UInt8 := (l.take i).map (· ^^^ m) ++ l.drop i
theorem xpart_len (l : List UInt8) (m : UInt8) (i : Nat) (h : i ≤ l.length) : (xpart l m i).length = l.length := by simp [xpart]; omega
theorem xpart_hd (l : List UInt8) (m : UInt8) (i : Nat) (h : i ≤ l.length) : ((l.take i).map (· ^^^ m)).length = i := by simp; omega
theorem xpart_get (l : List UInt8) (m : UInt8) (i : Nat) (h : i < l.length) : (xpart l m i).getD i 0 = l.getD i 0 := by
  have hl := xpart_hd l m i oM
  rw [xpart, List.getD_eq_getElem?_getD, List.getD_eq_getElem?_getD, List.getElem?_append_right oM, hl, Nat.sub_self, List.getElem?_drop, Nat.add_zero]
theorem xpart_set (l : List UInt8) (m : UInt8) (i : Nat) (h : i < l.length) : (xpart l m i).set i ((xpart l m i).getD i 0 ^^^ m) = xpart l m (i + 1) := by
  have hl := xpart_hd l m i oM
  rw [xpart_get l m i h]
  unfold xpart
  rw [List.set_append_right _ _ oM, hl, Nat.sub_self, List.drop_eq_getElem_cons h, List.set_cons_zero, List.take_add_one, List.map_append, List.append_assoc]
  simp [List.getD_eq_getElem?_getD, h]
theorem padded_ret (w0 : World) (s : Sl) (hs : s.ok w0) (m : UInt8) :
    Ret Tryz.prog 115 [s.v, V8 m] w0 fun v w' => ∃ b, v = .slice (hd (some b)) 64 64 ∧ Hp w0 w' [] [.own (some b) 64 64 ((kpad (hkey s.l) m).map V8) 5 1] := by
  refine ret_mk Tryz.func115 rfl Tryz.ntmps115 (by simp) ?_
  have H := Hp.refl w0 []
  have hsl := hs.ln
  have hmx := hs.mx
  refine rG ?_; refine aZ ?_; refine eN ?_
  refine rG ?_; refine mV ?_; refine lV (r_lens el33 rfl) ?_; refine lV (r_bin (a := (s.len : Int)) (b := 64) rfl rfl (fun _ => b_gtr)) ?_; refine eN ?_
  by_cases hc1 : 64 < (s.len : Int)
  ·
   repeat refine c_seq ?_
   refine c_yes (by exact bT hc1) ?_; refine rG ?_; refine mV ?_; refine l_op (o_bslV ([s.v]) H sl80 zc33 rfl (by simp [Value.oneCell', Sl.v]) rfl (by decide) (fun b2 w H hb2 => ?_)); replace H : Hp _ w _ ([.own (some b2) 1 1 ([s.v]) 33 1]) := H
   refine l_op (o_callR Tryz.func66 rfl rfl rfl (sha1_ret _ _ s (H.own (i := 0) rfl) (hs.up H (fun _ => apart_nil _))) ?_); rintro _ w ⟨rfl, Hc⟩
   replace H : Hp _ w _ ([_]) := H.call Hc
   clear Hc
   refine l_op (o_alloc H zc24 (fun b3 w H hb3 => ?_)); replace H : Hp _ w _ ([_, .blk b3 ((List.replicate 32 (0 : UInt8)).map V8) 24]) := H
   refine l_op (o_stA (l' := sha256 (s.l)) H (i := 1) rfl rfl rfl cs24 (show (List.replicate 32 (0 : UInt8)).length = 32 from (List.length_replicate ..)) (show (sha256 (s.l)).length = 32 from sha256_len _) (fun w H => ?_)); replace H : Hp _ w _ ([_, .blk b3 ((sha256 (s.l)).map V8) 24]) := H
   refine eN ?_
   refine rG ?_; refine lV (r_slA (h := 32) (m := 32) (lv := none) (hv := none) (mv := none) rfl ar24 rfl rfl rfl (fun w => sbn w)) ?_; refine aZ ?_; refine eN ?_
   refine rG ?_; refine l_op (o_makeB 64 H sl33 zc5 rfl rfl oM oM oM (fun b4 w H hb4 => ?_)); replace H : Hp _ w _ ([_, _, .own (some b4) 64 64 ((List.replicate 64 (0 : UInt8)).map V8) 5 1]) := H
   refine aZ ?_; refine eN ?_
   refine rG ?_; refine mV ?_; refine mV ?_; refine l_op (o_copyB (s := (⟨some ⟨b3, 0, none⟩, 32, 32, sha256 (s.l)⟩ : Sl)) H (i := 2) rfl Tryz.underlying33 Tryz.underlying33 cs5 rfl rfl (H.slBlkA (i := 1) rfl 32 (show (sha256 (s.l)).length = 32 from sha256_len _) (by decide)) oM (fun w H => ?_)); replace H : Hp _ w _ ([_, _, .own (some b4) 64 64 (((sha256 (s.l)).take (min 32 64) ++ (List.replicate 64 (0 : UInt8)).drop (min 32 64)).map V8) 5 1]) := H
   refine eN ?_
   have hkl : (sha256 (s.l)).length ≤ 64 := by first | omega | simp [sha256_len]
   have en : (sha256 (s.l)).take (min 32 64) ++ (List.replicate 64 (0 : UInt8)).drop (min 32 64) = padk (sha256 (s.l)) := copy_pad _ _ (by first | omega | simp [sha256_len]) oM
   rw [en] at H; clear en
   replace H : Hp _ w _ ([_, _, .own (some b4) 64 64 ((padk (sha256 (s.l))).map V8) 5 1]) := H
   refine rG ?_; refine mV ?_; refine lV (r_lens el33 rfl) ?_; refine mV ?_; refine eN ?_
   refine qB ?_; repeat refine c_seq ?_
   refine c_loop (fun (i : Nat) => [(1, V8 m), (6, .slice (hd (some b4)) 64 64), (20, VI 64), (21, VI (i : Int))])
     (fun (i : Nat) w => (i ≤ 64) ∧ Hp w0 w [] ([.own (some b2) 1 1 ([s.v]) 33 1, .blk b3 ((sha256 (s.l)).map V8) 24, .own (some b4) 64 64 ((xpart (padk (sha256 (s.l))) m i).map V8) 5 1]))
     (fun (i : Nat) => 64 - i) 0 ⟨rfl, rfl, rfl, rfl, trivial⟩ ⟨by omega, H⟩ ?_
   clear H
   rintro i τ w ⟨hi, H⟩
   have hpl := padk_len (sha256 (s.l)) hkl
   have hxl := xpart_len (padk (sha256 (s.l))) m i oM
   refine rG ?_; refine lV (r_bin (a := (i : Int)) (b := 64) rfl rfl (fun _ => b_lss)) ?_; refine eN ?_
   by_cases hc5 : (i : Int) < 64
   ·
    repeat refine c_seq ?_
    refine c_yes (by exact bT hc5) ?_; refine c_skip ?_; refine qB ?_; refine rG ?_; refine mV ?_; refine aZ ?_; refine eN ?_
    refine rG ?_; refine mV ?_; refine mV ?_; have ah7 := H.ownAddr (i := 2) rfl oM
    obtain ⟨ab6, ah7⟩ := ah7
    refine lV (r_isN i rfl rfl el33 ah7 oM (by (try simp only [Sl.cut]); omega)) ?_; refine lV (r_ldB (s := ⟨hd (some b4), 64, 64, xpart (padk (sha256 (s.l))) m i⟩) (k := i) (H.slOwn (i := 2) rfl) ah7 rfl ct5 (by (try simp only []); omega)) ?_; refine mV ?_; refine lV (r_bin rfl rfl (fun _ => b_xor_u8)) ?_; refine lV (r_isN i rfl rfl el33 ah7 oM (by (try simp only [Sl.cut]); omega)) ?_; refine l_op (o_stB (u := ((xpart (padk (sha256 (s.l))) m i).getD i 0) ^^^ m) (k := i) H (i := 2) rfl rfl ah7 rfl cs5 oM (fun w H => ?_)); replace H : Hp _ w _ ([_, _, .own (some b4) 64 64 (((xpart (padk (sha256 (s.l))) m i).set i (((xpart (padk (sha256 (s.l))) m i).getD i 0) ^^^ m)).map V8) 5 1]) := H
    refine eN ?_
    refine rG ?_; refine lV (r_bin (a := (i : Int)) (b := 1) rfl rfl (fun _ => b_add oM oM)) ?_; refine mV ?_; refine eN ?_
    have en := xpart_set (padk (sha256 (s.l))) m i oM
    rw [en] at H; clear en
    refine round_end (i + 1) ?_ ?_ ?_
    · exact ⟨rfl, rfl, rfl, show VI ((i : Int) + 1) = VI ((i + 1 : Nat) : Int) from congrArg VI oM, trivial⟩
    · refine ⟨?_, ?_⟩
      · try dsimp only
        exact by omega
      · exact H
    · show 64 - (i + 1 : Nat) < 64 - i; omega
   ·
    repeat refine c_seq ?_
    refine c_no (by exact bF hc5) ?_; refine c_exit ?_; refine rG ?_; refine mV ?_; refine aZ ?_; refine eN ?_
    refine cR ?_
    refine e_ret1 (v := .slice (hd (some b4)) 64 64) Tryz.results115 rfl ?_
    refine ⟨_, rfl, ?_⟩
    have hi2 : i = 64 := by omega
    subst hi2
    have e2 : xpart (padk (sha256 (s.l))) m 64 = kpad (hkey s.l) m := by
      rw [xpart, List.take_of_length_le oM, List.drop_of_length_le oM, List.append_nil, hkey, if_pos oM, kpad]
    rw [e2] at H
    exact ⟨_, rfl, H.sub (.cons _ (.cons _ (.cons_cons _ (List.nil_sublist _))))⟩
  ·
   repeat refine c_seq ?_
   refine c_no (by exact bF hc1) ?_; refine c_skip ?_; refine rG ?_; refine l_op (o_makeB 64 H sl33 zc5 rfl rfl oM oM oM (fun b8 w H hb8 => ?_)); replace H : Hp _ w _ ([.own (some b8) 64 64 ((List.replicate 64 (0 : UInt8)).map V8) 5 1]) := H
   refine aZ ?_; refine eN ?_
   refine rG ?_; refine mV ?_; refine mV ?_; refine l_op (o_copyB (s := s) H (i := 0) rfl Tryz.underlying33 Tryz.underlying33 cs5 rfl rfl (hs.up H (fun _ => apart_nil _)) oM (fun w H => ?_)); replace H : Hp _ w _ ([.own (some b8) 64 64 (((s.l).take (min s.len 64) ++ (List.replicate 64 (0 : UInt8)).drop (min s.len 64)).map V8) 5 1]) := H
   refine eN ?_
   have hkl : (s.l).length ≤ 64 := by first | omega | simp [sha256_len]
   have en : (s.l).take (min s.len 64) ++ (List.replicate 64 (0 : UInt8)).drop (min s.len 64) = padk (s.l) := copy_pad _ _ (by first | omega | simp [sha256_len]) oM
   rw [en] at H; clear en
   replace H : Hp _ w _ ([.own (some b8) 64 64 ((padk (s.l)).map V8) 5 1]) := H
   refine rG ?_; refine mV ?_; refine lV (r_lens el33 rfl) ?_; refine mV ?_; refine eN ?_
   refine qB ?_; repeat refine c_seq ?_
   refine c_loop (fun (i : Nat) => [(1, V8 m), (6, .slice (hd (some b8)) 64 64), (20, VI 64), (21, VI (i : Int))])
     (fun (i : Nat) w => (i ≤ 64) ∧ Hp w0 w [] ([.own (some b8) 64 64 ((xpart (padk (s.l)) m i).map V8) 5 1]))
     (fun (i : Nat) => 64 - i) 0 ⟨rfl, rfl, rfl, rfl, trivial⟩ ⟨by omega, H⟩ ?_
   clear H
   rintro i τ w ⟨hi, H⟩
   have hpl := padk_len (s.l) hkl
   have hxl := xpart_len (padk (s.l)) m i oM
   refine rG ?_; refine lV (r_bin (a := (i : Int)) (b := 64) rfl rfl (fun _ => b_lss)) ?_; refine eN ?_
   by_cases hc9 : (i : Int) < 64
   ·
    repeat refine c_seq ?_
    refine c_yes (by exact bT hc9) ?_; refine c_skip ?_; refine qB ?_; refine rG ?_; refine mV ?_; refine aZ ?_; refine eN ?_
    refine rG ?_; refine mV ?_; refine mV ?_; have ah11 := H.ownAddr (i := 0) rfl oM
    obtain ⟨ab10, ah11⟩ := ah11
    refine lV (r_isN i rfl rfl el33 ah11 oM (by (try simp only [Sl.cut]); omega)) ?_; refine lV (r_ldB (s := ⟨hd (some b8), 64, 64, xpart (padk (s.l)) m i⟩) (k := i) (H.slOwn (i := 0) rfl) ah11 rfl ct5 (by (try simp only []); omega)) ?_; refine mV ?_; refine lV (r_bin rfl rfl (fun _ => b_xor_u8)) ?_; refine lV (r_isN i rfl rfl el33 ah11 oM (by (try simp only [Sl.cut]); omega)) ?_; refine l_op (o_stB (u := ((xpart (padk (s.l)) m i).getD i 0) ^^^ m) (k := i) H (i := 0) rfl rfl ah11 rfl cs5 oM (fun w H => ?_)); replace H : Hp _ w _ ([.own (some b8) 64 64 (((xpart (padk (s.l)) m i).set i (((xpart (padk (s.l)) m i).getD i 0) ^^^ m)).map V8) 5 1]) := H
    refine eN ?_
    refine rG ?_; refine lV (r_bin (a := (i : Int)) (b := 1) rfl rfl (fun _ => b_add oM oM)) ?_; refine mV ?_; refine eN ?_
    have en := xpart_set (padk (s.l)) m i oM
    rw [en] at H; clear en
    refine round_end (i + 1) ?_ ?_ ?_
    · exact ⟨rfl, rfl, rfl, show VI ((i : Int) + 1) = VI ((i + 1 : Nat) : Int) from congrArg VI oM, trivial⟩
    · refine ⟨?_, ?_⟩
      · try dsimp only
        exact by omega
      · exact H
    · show 64 - (i + 1 : Nat) < 64 - i; omega
   ·
    repeat refine c_seq ?_
    refine c_no (by exact bF hc9) ?_; refine c_exit ?_; refine rG ?_; refine mV ?_; refine aZ ?_; refine eN ?_
    refine cR ?_
    refine e_ret1 (v := .slice (hd (some b8)) 64 64) Tryz.results115 rfl ?_
    refine ⟨_, rfl, ?_⟩
    have hi2 : i = 64 := by omega
    subst hi2
    have e2 : xpart (padk (s.l)) m 64 = kpad (hkey s.l) m := by
      rw [xpart, List.take_of_length_le oM, List.drop_of_length_le oM, List.append_nil, hkey, if_neg oM, kpad]
    rw [e2] at H
    exact ⟨_, rfl, H.sub (.cons_cons _ (List.nil_sublist _))⟩
end Go.Proofs.YtmiabahejnjhiaaGreatDoor
namespace Go.Proofs.YtmiabahejnjhiaaGreatDoor
open Go
set_option maxRecDepth 100000
theorem raw_ret (w0 : World) (s u : Sl) (hs : s.ok w0) (hu : u.ok w0) :
    Ret Tryz.prog 71 [s.v, u.v] w0 fun v w' => v = .agg ((hmac s.l u.l).map V8).toArray ∧ Hp w0 w' [] [] := by
  refine ret_mk Tryz.func71 rfl Tryz.ntmps71 (by simp) ?_
  have H := Hp.refl w0 []
  refine rG ?_; refine l_op (o_alloc H zc24 (fun b1 w H hb1 => ?_)); replace H : Hp _ w _ ([.blk b1 ((List.replicate 32 (0 : UInt8)).map V8) 24]) := H
  refine eN ?_
  refine rG ?_; refine mV ?_; refine l_op (o_callR Tryz.func115 rfl rfl rfl (padded_ret _ s (hs.up H (fun _ => apart_nil _)) ((54 : UInt8))) ?_); rintro _ w ⟨b2, rfl, Hc⟩
  replace H : Hp _ w _ ([_, .own (some b2) 64 64 ((kpad (hkey (s.l)) ((54 : UInt8))).map V8) 5 1]) := H.call Hc
  clear Hc
  refine mV ?_; refine l_op (o_bslV ([.slice (hd (some b2)) 64 64, u.v]) H sl80 zc33 rfl (by simp [Value.oneCell', Sl.v]) rfl (by decide) (fun b3 w H hb3 => ?_)); replace H : Hp _ w _ ([_, _, .own (some b3) 2 2 ([.slice (hd (some b2)) 64 64, u.v]) 33 1]) := H
  refine l_op (o_callR Tryz.func66 rfl rfl rfl (sha2_ret _ _ (⟨hd (some b2), 64, 64, kpad (hkey (s.l)) ((54 : UInt8))⟩) u (H.own (i := 2) rfl) (H.slOwn (i := 1) rfl) (hu.up H (fun _ => apart_nil _))) ?_); rintro _ w ⟨rfl, Hc⟩
  replace H : Hp _ w _ ([_, _, _]) := H.call Hc
  clear Hc
  refine l_op (o_alloc H zc24 (fun b4 w H hb4 => ?_)); replace H : Hp _ w _ ([_, _, _, .blk b4 ((List.replicate 32 (0 : UInt8)).map V8) 24]) := H
  refine l_op (o_stA (l' := sha256 ((kpad (hkey (s.l)) ((54 : UInt8))) ++ u.l)) H (i := 3) rfl rfl rfl cs24 (show (List.replicate 32 (0 : UInt8)).length = 32 from (List.length_replicate ..)) (show (sha256 ((kpad (hkey (s.l)) ((54 : UInt8))) ++ u.l)).length = 32 from sha256_len _) (fun w H => ?_)); replace H : Hp _ w _ ([_, _, _, .blk b4 ((sha256 ((kpad (hkey (s.l)) ((54 : UInt8))) ++ u.l)).map V8) 24]) := H
  refine eN ?_
  repeat refine c_seq ?_
  refine heldZ H (fun j => Nat.ble 0 j) mixed fun H => ?_
  have HS := H
  refine zA 0 rfl (fun w => r_mv) ?_; refine zA 2 rfl (fun w => r_slA (h := 32) (m := 32) (lv := none) (hv := none) (mv := none) rfl ar24 rfl rfl rfl (fun w => sbn w)) ?_; refine zU 1 rfl (o_callR Tryz.func115 rfl rfl rfl (padded_ret _ s (hs.up H (fun _ => apart_nil _)) ((92 : UInt8))) ?_); rintro _ w ⟨b5, rfl, Hc⟩
  replace H : Hp _ w _ ([_, _, _, _, .own (some b5) 64 64 ((kpad (hkey (s.l)) ((92 : UInt8))).map V8) 5 1]) := H.call Hc
  clear Hc
  refine ⟨fun h => Bool.noConfusion (h : true = false), ?_⟩
  clear HS
  refine zU 3 rfl (o_bslV ([.slice (hd (some b5)) 64 64, (⟨some ⟨b4, 0, none⟩, 32, 32, sha256 ((kpad (hkey (s.l)) ((54 : UInt8))) ++ u.l)⟩ : Sl).v]) H sl80 zc33 rfl (by simp [Value.oneCell', Sl.v]) rfl (by decide) (fun b6 w H hb6 => ?_)); replace H : Hp _ w _ ([_, _, _, _, _, .own (some b6) 2 2 ([.slice (hd (some b5)) 64 64, (⟨some ⟨b4, 0, none⟩, 32, 32, sha256 ((kpad (hkey (s.l)) ((54 : UInt8))) ++ u.l)⟩ : Sl).v]) 33 1]) := H
  refine ⟨fun h => Bool.noConfusion (h : true = false), ?_⟩
  refine zU 4 rfl (o_callR Tryz.func66 rfl rfl rfl (sha2_ret _ _ (⟨hd (some b5), 64, 64, kpad (hkey (s.l)) ((92 : UInt8))⟩) (⟨some ⟨b4, 0, none⟩, 32, 32, sha256 ((kpad (hkey (s.l)) ((54 : UInt8))) ++ u.l)⟩ : Sl) (H.own (i := 5) rfl) (H.slOwn (i := 4) rfl) (H.slBlkA (i := 3) rfl 32 (show (sha256 ((kpad (hkey (s.l)) ((54 : UInt8))) ++ u.l)).length = 32 from sha256_len _) (by decide))) ?_); rintro _ w ⟨rfl, Hc⟩
  replace H : Hp _ w _ ([_, _, _, _, _, _]) := H.call Hc
  clear Hc
  refine ⟨fun h => Bool.noConfusion (h : true = false), ?_⟩
  refine zU 5 rfl (o_stA (l' := sha256 ((kpad (hkey (s.l)) ((92 : UInt8))) ++ (sha256 ((kpad (hkey (s.l)) ((54 : UInt8))) ++ u.l)))) H (i := 0) rfl rfl rfl cs24 (show (List.replicate 32 (0 : UInt8)).length = 32 from (List.length_replicate ..)) (show (sha256 ((kpad (hkey (s.l)) ((92 : UInt8))) ++ (sha256 ((kpad (hkey (s.l)) ((54 : UInt8))) ++ u.l)))).length = 32 from sha256_len _) (fun w H => ?_)); replace H : Hp _ w _ ([.blk b1 ((sha256 ((kpad (hkey (s.l)) ((92 : UInt8))) ++ (sha256 ((kpad (hkey (s.l)) ((54 : UInt8))) ++ u.l)))).map V8) 24, _, _, _, _, _]) := H
  refine ⟨fun h => Bool.noConfusion (h : true = false), ?_⟩
  refine z_done (by kernel_rfl) ?_; refine cR ?_
  refine e_retA (l := sha256 ((kpad (hkey (s.l)) ((92 : UInt8))) ++ (sha256 ((kpad (hkey (s.l)) ((54 : UInt8))) ++ u.l)))) Tryz.results71 H (i := 0) rfl rfl rt24 (show (sha256 ((kpad (hkey (s.l)) ((92 : UInt8))) ++ (sha256 ((kpad (hkey (s.l)) ((54 : UInt8))) ++ u.l)))).length = 32 from sha256_len _) ?_
  refine ⟨_, rfl, ?_⟩
  exact ⟨rfl, H.sub (List.nil_sublist _)⟩
theorem put0_ret (w0 : World) (u : UInt64) (n : Nat) (h1 : 1 ≤ n) (h8 : n ≤ 8) (hf : n = 8 ∨ u.toNat < 256 ^ n) :
    Ret Tryz.prog 70 [.slice none 0 0, V64 u, VI (n : Int)] w0 fun v w' => ∃ a cap, v = .tuple #[.slice (hd a) n cap, VI 0] ∧ Hp w0 w' [] [.own a n cap ((be u.toNat n).map V8) 5 1] :=
  (put_ret w0 ⟨none, 0, 0, []⟩ (Sl.ok_nil _) u n h1 h8 hf (by simp)).mono fun v w' ⟨a, c, hv, H⟩ => ⟨a, c, by simpa using hv, by simpa using H⟩
/-- each part behind its length. -/
def framed (l : List (List UInt8)) : List UInt8 := l.flatMap fun p => be p.length 8 ++ p
theorem framed_snoc (l : List (List UInt8)) (p : List UInt8) : framed (l ++ [p]) = framed l ++ be p.length 8 ++ p := by simp [framed]
def fr (ps : List Sl) (i : Nat) : List UInt8 := framed ((ps.take i).map Sl.l)
theorem fr_succ (ps : List Sl) (i : Nat) (p : Sl) (h : ps[i]? = some p) : fr ps (i + 1) = fr ps i ++ be p.l.length 8 ++ p.l := by
  rw [fr, List.take_add_one, h]; simp only [Option.toList_some, List.map_append, List.map_cons, List.map_nil, framed_snoc]; rfl
theorem fr_all (ps : List Sl) (i : Nat) (h : ps.length = i) : fr ps i = framed (ps.map Sl.l) := by rw [fr, List.take_of_length_le oM]
theorem fr_le (ps : List Sl) : ∀ i, (fr ps i).length ≤ (framed (ps.map Sl.l)).length := by
  intro i
  have : framed (ps.map Sl.l) = fr ps i ++ framed ((ps.drop i).map Sl.l) := by
    rw [fr, framed, framed, framed, ← List.flatMap_append, ← List.map_append, List.take_append_drop]
  rw [this]; simp
theorem ofNat_nat (n : Nat) (h : n < 18446744073709551616) : (UInt64.ofNat n).toNat = n := by rw [UInt64.toNat_ofNat']; omega
theorem macOf_ret (w0 : World) (s : Sl) (hs : s.ok w0) (pa : Option Addr) (pl pc : Nat) (ps : List Sl) (hr : RdS w0 pa (ps.map Sl.v)) (hl : ps.length = pl) (hok : ∀ p ∈ ps, p.ok w0) (hp63 : pl ≤ 1048576) (hB : (framed (ps.map Sl.l)).length ≤ 1048576) :
    Ret Tryz.prog 30 [s.v, .slice pa pl pc] w0 fun v w' => v = .agg ((hmac s.l (framed (ps.map Sl.l))).map V8).toArray ∧ Hp w0 w' [] [] := by
  refine ret_mk Tryz.func30 rfl Tryz.ntmps30 (by simp) ?_
  have H := Hp.refl w0 []
  refine rG ?_; refine l_op (o_alloc H zc24 (fun b1 w H hb1 => ?_)); replace H : Hp _ w _ ([.blk b1 ((List.replicate 32 (0 : UInt8)).map V8) 24]) := H
  refine eN ?_
  refine rG ?_; refine aZ ?_; refine eN ?_
  refine rG ?_; refine mV ?_; refine lV (r_lens el80 rfl) ?_; refine mV ?_; refine eN ?_
  refine qB ?_; repeat refine c_seq ?_
  refine c_loop3 (fun (i : Nat) (a : Option Nat) (c : Nat) => [(0, s.v), (4, .pointer (some ⟨b1, 0, none⟩)), (5, .slice (hd a) ((fr ps i).length) c), (10, .slice pa pl pc), (11, VI (pl : Int)), (12, VI (i : Int))])
    (fun (i : Nat) (a : Option Nat) (c : Nat) w => (i ≤ pl) ∧ Hp w0 w [] ([.blk b1 ((List.replicate 32 (0 : UInt8)).map V8) 24, .own a ((fr ps i).length) c ((fr ps i).map V8) 5 1]))
    (fun (i : Nat) (a : Option Nat) (c : Nat) => pl - i) 0 none 0 ⟨rfl, rfl, rfl, rfl, rfl, rfl, trivial⟩ ⟨Nat.zero_le _, (H.nilEnd 5 1)⟩ ?_
  clear H
  rintro i a c τ w ⟨hi, H⟩
  refine rG ?_; refine lV (r_bin (a := (i : Int)) (b := (pl : Int)) rfl rfl (fun _ => b_lss)) ?_; refine eN ?_
  by_cases hc2 : (i : Int) < (pl : Int)
  ·
   repeat refine c_seq ?_
   refine c_yes (by exact bT hc2) ?_; refine c_skip ?_; refine qB ?_; refine rG ?_; obtain ⟨ab3, ao4, ah5⟩ := (H.rd hr (apart_nil _)).addr (by simp only [List.length_map]; omega)
   refine lV (r_isN i rfl rfl el80 ah5 oM (by (try simp only [Sl.cut]); omega)) ?_; obtain ⟨p6, hp7⟩ : ∃ p, ps[i]? = some p := ⟨_, List.getElem?_eq_getElem oM⟩
   have hpok8 := hok p6 (List.mem_of_getElem? hp7)
   have hpok8n := hpok8.ln
   have hpok8m := hpok8.le
   refine lV (r_ldP (k := i) (H.rd hr (apart_nil _)) ah5 rfl ct33 hp7) ?_; refine aZ ?_; refine eN ?_
   have hs1 := fr_succ ps i p6 hp7
   have hs2 := fr_le ps (i + 1)
   have hs3 : (fr ps (i + 1)).length = (fr ps i).length + 8 + p6.l.length := by rw [hs1]; simp [be_len]; omega
   refine rG ?_; refine mV ?_; refine lV (r_lens el33 rfl) ?_; refine lV (r_conv (v := ((UInt64.ofNat p6.len).toNat : Int)) Tryz.underlying3 Tryz.underlying25 rfl (w_u64_N p6.len oM)) ?_; refine l_op (o_callR Tryz.func70 rfl rfl rfl (put0_ret _ (UInt64.ofNat p6.len) 8 oM oM (.inl rfl)) ?_); rintro _ w ⟨a9, c10, rfl, Hc⟩
   replace H : Hp _ w _ ([_, _, .own a9 8 c10 ((be (UInt64.ofNat p6.len).toNat 8).map V8) 5 1]) := H.call Hc
   clear Hc
   refine mV ?_; refine lV (r_ext rfl rfl) ?_; refine lV (r_ext rfl rfl) ?_; refine aZ ?_; refine aZ ?_; refine eN ?_
   refine rG ?_; refine mV ?_; refine mV ?_; refine l_op (o_appB (s := ⟨hd a9, 8, c10, be (UInt64.ofNat p6.len).toNat 8⟩) (l' := fr ps i ++ (be (UInt64.ofNat p6.len).toNat 8)) (len' := (fr ps i).length + 8) rfl rfl H (i := 1) rfl sl33 Tryz.underlying33 rfl rfl (H.slOwn (i := 2) rfl) oM (fun a11 c12 w H => ?_)); replace H : Hp _ w _ ([_, .own a11 ((fr ps i).length + 8) c12 ((fr ps i ++ (be (UInt64.ofNat p6.len).toNat 8)).map V8) 5 1, _]) := H
   refine mV ?_; refine l_op (o_appB (s := p6) (l' := fr ps (i + 1)) (len' := (fr ps (i + 1)).length) (by rw [hs1, ofNat_nat _ oM, hpok8n]) oM H (i := 1) rfl sl33 Tryz.underlying33 rfl rfl (hpok8.up H (fun _ => apart_nil _)) oM (fun a13 c14 w H => ?_)); replace H : Hp _ w _ ([_, .own a13 ((fr ps (i + 1)).length) c14 ((fr ps (i + 1)).map V8) 5 1, _]) := H
   refine aZ ?_; refine eN ?_
   refine rG ?_; refine lV (r_bin (a := (i : Int)) (b := 1) rfl rfl (fun _ => b_add oM oM)) ?_; refine mV ?_; refine eN ?_
   refine round_end (i + 1, a13, c14) ?_ ?_ ?_
   · exact ⟨rfl, rfl, rfl, rfl, rfl, show VI ((i : Int) + 1) = VI ((i + 1 : Nat) : Int) from congrArg VI oM, trivial⟩
   · refine ⟨?_, ?_⟩
     · try dsimp only
       exact by omega
     · exact H.sub (.cons_cons _ (.cons_cons _ (List.nil_sublist _)))
   · show pl - (i + 1 : Nat) < pl - i; omega
  ·
   repeat refine c_seq ?_
   refine c_no (by exact bF hc2) ?_; refine c_exit ?_; have hi2 : i = pl := by omega
   subst hi2
   refine rG ?_; refine mV ?_; refine mV ?_; refine l_op (o_callR Tryz.func71 rfl rfl rfl (raw_ret _ s ⟨hd a, (fr ps i).length, c, fr ps i⟩ (hs.up H (fun _ => apart_nil _)) (H.slOwn (i := 1) rfl)) ?_); rintro _ w ⟨rfl, Hc⟩
   replace H : Hp _ w _ ([_, _]) := H.call Hc
   clear Hc
   refine l_op (o_stA (l' := hmac (s.l) (fr ps i)) H (i := 0) rfl rfl rfl cs24 (show (List.replicate 32 (0 : UInt8)).length = 32 from (List.length_replicate ..)) (show (hmac (s.l) (fr ps i)).length = 32 from hmac_len _ _) (fun w H => ?_)); replace H : Hp _ w _ ([.blk b1 ((hmac (s.l) (fr ps i)).map V8) 24, _]) := H
   refine eN ?_
   refine cR ?_
   refine e_retA (l := hmac (s.l) (fr ps i)) Tryz.results30 H (i := 0) rfl rfl rt24 (show (hmac (s.l) (fr ps i)).length = 32 from hmac_len _ _) ?_
   refine ⟨_, rfl, ?_⟩
   rw [fr_all ps i hl]
   exact ⟨rfl, H.sub (List.nil_sublist _)⟩
end Go.Proofs.YtmiabahejnjhiaaGreatDoor
namespace Go.Proofs.YtmiabahejnjhiaaGreatDoor
open Go
set_option maxRecDepth 100000
/-- a number in groups of seven bits. -/
def cnt (v : Nat) : List UInt8 := if 127 < v then (UInt8.ofNat v ||| 128) :: cnt (v / 128) else [UInt8.ofNat v]
termination_by v
decreasing_by omega
theorem cnt_more (v : UInt64) (h : 127 < v.toNat) : cnt v.toNat = (v.toUInt8 ||| 128) :: cnt (v >>> UInt64.ofNat 7).toNat := by
  have e : (v >>> UInt64.ofNat 7).toNat = v.toNat / 128 := by
    have e7 : (UInt64.ofNat 7).toNat % 64 = 7 := rfl
    rw [UInt64.toNat_shiftRight, e7, Nat.shiftRight_eq_div_pow]
  have e2 : v.toUInt8 = UInt8.ofNat v.toNat := by
    apply UInt8.toNat_inj.1; rw [UInt64.toNat_toUInt8, UInt8.toNat_ofNat']
  rw [cnt, if_pos h, e, e2]
theorem cnt_less (v : UInt64) (h : ¬ 127 < v.toNat) : cnt v.toNat = [v.toUInt8] := by
  have e2 : v.toUInt8 = UInt8.ofNat v.toNat := by
    apply UInt8.toNat_inj.1; rw [UInt64.toNat_toUInt8, UInt8.toNat_ofNat']
  rw [cnt, if_neg h, e2]
theorem shr7 (v : UInt64) : (v >>> UInt64.ofNat 7).toNat = v.toNat / 128 := by
  have e7 : (UInt64.ofNat 7).toNat % 64 = 7 := rfl
  rw [UInt64.toNat_shiftRight, e7, Nat.shiftRight_eq_div_pow]
def zigU (v : Int) : UInt64 := (UInt64.ofInt v <<< UInt64.ofNat 1) ^^^ UInt64.ofInt (v / 2 ^ (63 : Int).toNat)
theorem cnt_bound (x ln s : Nat) (hx : x < 2 ^ (64 - 7 * (ln - s))) (h : 127 < x) (h1 : s ≤ ln) (h2 : ln ≤ s + 10) : ln + 1 ≤ s + 10 ∧ x / 128 < 2 ^ (64 - 7 * (ln + 1 - s)) := by
  obtain ⟨k, rfl⟩ : ∃ k, ln = s + k := ⟨ln - s, by omega⟩
  rw [Nat.add_sub_cancel_left] at hx
  have hk : k < 9 := by
    refine Nat.lt_of_not_le fun hk => ?_
    have : 2 ^ (64 - 7 * k) ≤ 2 ^ 1 := Nat.pow_le_pow_right (by decide) oM
    omega
  refine ⟨by omega, ?_⟩
  rw [show s + k + 1 - s = k + 1 by omega]
  have e : 2 ^ (64 - 7 * k) = 2 ^ (64 - 7 * (k + 1)) * 128 := by
    rw [show (128 : Nat) = 2 ^ 7 from rfl, ← Nat.pow_add]; congr 1; omega
  rw [e] at hx
  exact Nat.div_lt_of_lt_mul oM
theorem count_ret (w0 : World) (s : Sl) (hs : s.ok w0) (u : UInt64) (hm : s.len ≤ 1048576) :
    Ret Tryz.prog 98 [s.v, V64 u] w0 fun v w' => ∃ a n c, v = .slice (hd a) n c ∧ n ≤ s.len + 11 ∧ Hp w0 w' [] [.own a n c ((s.l ++ cnt u.toNat).map V8) 5 1] := by
  refine ret_mk Tryz.func98 rfl Tryz.ntmps98 (by simp) ?_
  have H := Hp.refl w0 []
  refine rG ?_; refine aZ ?_; refine eN ?_
  refine rG ?_; refine mV ?_; refine l_op (o_callR Tryz.func114 rfl rfl rfl (own_ret _ s (hs.up H (fun _ => apart_nil _)) 10 (by first | omega | (simp only [Sl.cut]; omega))) ?_); rintro _ w ⟨a1, c2, rfl, Hc⟩
  replace H : Hp _ w _ ([.own a1 s.len c2 ((s.l).map V8) 5 1]) := H.call Hc
  clear Hc
  refine aZ ?_; refine eN ?_
  refine qB ?_; repeat refine c_seq ?_
  refine c_loop5 (fun (x : UInt64) (l : List UInt8) (a : Option Nat) (ln : Nat) (c : Nat) => [(1, V64 x), (5, .slice (hd a) ln c)])
    (fun (x : UInt64) (l : List UInt8) (a : Option Nat) (ln : Nat) (c : Nat) w => (l ++ cnt x.toNat = s.l ++ cnt u.toNat ∧ ln ≤ s.len + 10 ∧ x.toNat < 2 ^ (64 - 7 * (ln - s.len)) ∧ s.len ≤ ln) ∧ Hp w0 w [] ([.own a ln c ((l).map V8) 5 1]))
    (fun (x : UInt64) (l : List UInt8) (a : Option Nat) (ln : Nat) (c : Nat) => x.toNat) u s.l a1 s.len c2 ⟨rfl, rfl, trivial⟩ ⟨⟨rfl, by omega, by rw [Nat.sub_self]; exact u.toNat_lt, Nat.le_refl _⟩, H⟩ ?_
  clear H
  rintro x l a ln c τ w ⟨⟨hl, hln, hx, hge⟩, H⟩
  refine rG ?_; refine mV ?_; refine lV (r_bin (a := (x.toNat : Int)) (b := 127) rfl rfl (fun _ => b_gtr)) ?_; refine eN ?_
  by_cases hc3 : 127 < (x.toNat : Int)
  ·
   repeat refine c_seq ?_
   refine c_yes (by exact bT hc3) ?_; refine c_skip ?_; refine qB ?_; refine rG ?_; refine mV ?_; refine mV ?_; refine lV (r_conv Tryz.underlying25 Tryz.underlying5 rfl (w_u8_64 _)) ?_; refine lV (r_bin rfl (c8 128 (by decide)) (fun _ => b_or_u8)) ?_; refine l_op (o_bslB ([x.toUInt8 ||| (128 : UInt8)]) H sl33 zc5 rfl rfl (by decide) (fun b4 w H hb4 => ?_)); replace H : Hp _ w _ ([_, .own (some b4) 1 1 (([x.toUInt8 ||| (128 : UInt8)]).map V8) 5 1]) := H
   refine l_op (o_appB (s := ⟨hd (some b4), 1, 1, [x.toUInt8 ||| (128 : UInt8)]⟩) (l' := l ++ ([x.toUInt8 ||| (128 : UInt8)])) (len' := ln + 1) rfl rfl H (i := 0) rfl sl33 Tryz.underlying33 rfl rfl (H.slOwn (i := 1) rfl) oM (fun a5 c6 w H => ?_)); replace H : Hp _ w _ ([.own a5 (ln + 1) c6 ((l ++ ([x.toUInt8 ||| (128 : UInt8)])).map V8) 5 1, _]) := H
   refine aZ ?_; refine eN ?_
   refine rG ?_; refine mV ?_; refine lV (r_shift rfl rfl (.inr rfl) (fun _ => b_shr_u64N 7 oM)) ?_; refine aZ ?_; refine eN ?_
   have hb7 := cnt_bound x.toNat ln s.len hx oM hge hln
   refine round_end (x >>> UInt64.ofNat 7, l ++ ([x.toUInt8 ||| (128 : UInt8)]), a5, ln + 1, c6) ?_ ?_ ?_
   · exact ⟨show V64 (x >>> UInt64.ofNat 7) = V64 (x >>> UInt64.ofNat 7 : UInt64) from congrArg V64 rfl, rfl, trivial⟩
   · refine ⟨?_, ?_⟩
     · try dsimp only
       exact ⟨by rw [cnt_more x oM] at hl; simpa using hl, by omega, by rw [shr7]; exact hb7.2, by omega⟩
     · exact H.sub (.cons_cons _ (List.nil_sublist _))
   · show (x >>> UInt64.ofNat 7).toNat < x.toNat; rw [shr7]; omega
  ·
   repeat refine c_seq ?_
   refine c_no (by exact bF hc3) ?_; refine c_exit ?_; refine rG ?_; refine mV ?_; refine mV ?_; refine lV (r_conv Tryz.underlying25 Tryz.underlying5 rfl (w_u8_64 _)) ?_; refine l_op (o_bslB ([x.toUInt8]) H sl33 zc5 rfl rfl (by decide) (fun b7 w H hb7 => ?_)); replace H : Hp _ w _ ([_, .own (some b7) 1 1 (([x.toUInt8]).map V8) 5 1]) := H
   refine l_op (o_appB (s := ⟨hd (some b7), 1, 1, [x.toUInt8]⟩) (l' := l ++ ([x.toUInt8])) (len' := ln + 1) rfl rfl H (i := 0) rfl sl33 Tryz.underlying33 rfl rfl (H.slOwn (i := 1) rfl) oM (fun a8 c9 w H => ?_)); replace H : Hp _ w _ ([.own a8 (ln + 1) c9 ((l ++ ([x.toUInt8])).map V8) 5 1, _]) := H
   refine aZ ?_; refine eN ?_
   refine cR ?_
   refine e_ret1 (v := .slice (hd a8) (ln + 1) c9) Tryz.results98 rfl ?_
   refine ⟨_, rfl, ?_⟩
   refine ⟨_, _, _, rfl, by omega, ?_⟩
   rw [cnt_less x oM] at hl
   rw [← hl]
   exact H.sub (.cons_cons _ (List.nil_sublist _))
theorem text_ret (w0 : World) (s u : Sl) (hs : s.ok w0) (hu : u.ok w0) (hm : s.len ≤ 1048576) (hn : u.len ≤ 65536) :
    Ret Tryz.prog 72 [s.v, u.v] w0 fun v w' => ∃ a n c, v = .tuple #[.slice (hd a) n c, VI 0] ∧ n ≤ s.len + 11 + u.len ∧ Hp w0 w' [] [.own a n c ((s.l ++ cnt u.len ++ u.l).map V8) 5 1] := by
  refine ret_mk Tryz.func72 rfl Tryz.ntmps72 (by simp) ?_
  have H := Hp.refl w0 []
  refine rG ?_; refine aZ ?_; refine aZ ?_; refine eN ?_
  refine rG ?_; refine mV ?_; refine lV (r_lens el33 rfl) ?_; refine lV (r_bin (a := (u.len : Int)) (b := 65536) rfl rfl (fun _ => b_gtrB false (decide_eq_false oM))) ?_; refine eN ?_
  refine qN ?_; refine c_skip ?_; refine rG ?_; refine mV ?_; refine mV ?_; refine lV (r_lens el33 rfl) ?_; refine lV (r_conv (v := ((UInt64.ofNat u.len).toNat : Int)) Tryz.underlying3 Tryz.underlying25 rfl (w_u64_N u.len oM)) ?_; refine l_op (o_callR Tryz.func98 rfl rfl rfl (count_ret _ s (hs.up H (fun _ => apart_nil _)) (UInt64.ofNat u.len) (by (try simp only [Sl.cut]); omega)) ?_); rintro _ w ⟨a1, n2, c3, rfl, hn4, Hc⟩
  replace H : Hp _ w _ ([.own a1 n2 c3 ((s.l ++ cnt (UInt64.ofNat u.len).toNat).map V8) 5 1]) := H.call Hc
  clear Hc
  try dsimp only at hn4
  refine mV ?_; refine l_op (o_appB (s := u) (l' := s.l ++ cnt (UInt64.ofNat u.len).toNat ++ u.l) (len' := n2 + u.len) rfl rfl H (i := 0) rfl sl33 Tryz.underlying33 rfl rfl (hu.up H (fun _ => apart_nil _)) oM (fun a5 c6 w H => ?_)); replace H : Hp _ w _ ([.own a5 (n2 + u.len) c6 ((s.l ++ cnt (UInt64.ofNat u.len).toNat ++ u.l).map V8) 5 1]) := H
  refine aZ ?_; refine aZ ?_; refine eN ?_
  refine cR ?_
  refine e_retN (vs := [.slice (hd a5) (n2 + u.len) c6, VI 0]) _ Tryz.results72 rfl (resT (v := .slice (hd a5) (n2 + u.len) c6) rfl (resT (v := VI 0) rfl (resZ))) ?_
  refine ⟨_, rfl, ?_⟩
  refine ⟨_, _, _, rfl, by omega, ?_⟩
  rw [ofNat_nat _ oM] at H
  exact H
theorem zig_ret (w0 : World) (n : Int) :
    Ret Tryz.prog 116 [VI n] w0 fun v w' => v = V64 (zigU n) ∧ Hp w0 w' [] [] := by
  refine ret_mk Tryz.func116 rfl Tryz.ntmps116 (by simp) ?_
  have H := Hp.refl w0 []
  refine rG ?_; refine lV (r_asV (c64 0 (by decide))) ?_; refine eN ?_
  refine rG ?_; refine mV ?_; refine lV (r_conv Tryz.underlying2 Tryz.underlying25 rfl (w_u64_I _)) ?_; refine lV (r_shift rfl rfl (.inl rfl) (fun _ => b_shl_u64N 1 oM)) ?_; refine mV ?_; refine lV (r_shift (a := n) rfl rfl (.inr rfl) (fun _ => b_shr_i64 (by decide) (by decide))) ?_; refine lV (r_conv Tryz.underlying2 Tryz.underlying25 rfl (w_u64_I _)) ?_; refine lV (r_bin rfl rfl (fun _ => b_xor_u64)) ?_; refine aZ ?_; refine eN ?_
  refine cR ?_
  refine e_ret1 (v := V64 (((UInt64.ofInt n) <<< UInt64.ofNat 1) ^^^ (UInt64.ofInt (n / 2 ^ (63 : Int).toNat)))) Tryz.results116 rfl ?_
  refine ⟨_, rfl, ?_⟩
  exact ⟨rfl, H⟩
end Go.Proofs.YtmiabahejnjhiaaGreatDoor
namespace Go.Proofs.YtmiabahejnjhiaaGreatDoor
open Go
set_option maxRecDepth 100000
theorem rem_be (v : UInt64) (m : Nat) (h : v.toNat = m) : (v % 256).toUInt8 = UInt8.ofNat m := by
  apply UInt8.toNat_inj.1
  rw [UInt64.toNat_toUInt8, UInt64.toNat_mod, UInt8.toNat_ofNat', h]
  have : (256 : UInt64).toNat = 256 := rfl
  rw [this]; omega
theorem quo_be (v : UInt64) (x i : Nat) (h : v.toNat = x / 256 ^ i) : (v / 256).toNat = x / 256 ^ (i + 1) := by
  rw [UInt64.toNat_div, h, Nat.pow_succ, Nat.div_div_eq_div_mul]; rfl
theorem put1_ret (w0 : World) (s : Sl) (hs : s.ok w0) (u : UInt64) (n : Nat) (h1 : 1 ≤ n) (h8 : n ≤ 8) (hf : u.toNat < 256 ^ n) (hm : s.len ≤ 1048576) :
    Ret Tryz.prog 68 [s.v, V64 u, VI (n : Int)] w0 fun v w' => ∃ a cap, v = .tuple #[.slice (hd a) (s.len + n) cap, VI 0] ∧ Hp w0 w' [] [.own a (s.len + n) cap ((s.l ++ be u.toNat n).map V8) 5 1] := by
  refine ret_mk Tryz.func68 rfl Tryz.ntmps68 (by simp) ?_
  have H := Hp.refl w0 []
  refine rG ?_; refine aZ ?_; refine aZ ?_; refine eN ?_
  refine rG ?_; refine mV ?_; refine lV (r_bin (a := (n : Int)) (b := 1) rfl rfl (fun _ => b_lssB false (decide_eq_false oM))) ?_; refine mV ?_; refine l_yes rfl rfl rfl (o_val r_mv ?_); refine l_yes rfl rfl rfl (o_val (r_bin (a := (n : Int)) (b := 8) rfl rfl (fun _ => b_gtrB false (decide_eq_false oM))) ?_); refine lV (r_pick rfl) ?_; refine eN ?_
  refine qN ?_; refine c_skip ?_; refine rG ?_; refine aZ ?_; refine eN ?_
  refine rG ?_; refine aZ ?_; refine eN ?_
  refine qB ?_; repeat refine c_seq ?_
  refine c_loop4 (fun (i : Nat) (x : UInt64) (a : Option Nat) (c : Nat) => [(0, s.v), (1, V64 x), (2, VI (n : Int)), (8, .slice (hd a) i c), (9, VI (i : Int))])
    (fun (i : Nat) (x : UInt64) (a : Option Nat) (c : Nat) w => (i ≤ n ∧ x.toNat = u.toNat / 256 ^ i) ∧ Hp w0 w [] ([.own a i c ((be u.toNat i).map V8) 5 1]))
    (fun (i : Nat) (x : UInt64) (a : Option Nat) (c : Nat) => n - i) 0 u none 0 ⟨rfl, rfl, rfl, rfl, rfl, trivial⟩ ⟨⟨Nat.zero_le _, by simp⟩, (H.nilEnd 5 1)⟩ ?_
  clear H
  rintro i x a c τ w ⟨⟨hi, hx⟩, H⟩
  refine rG ?_; refine mV ?_; refine mV ?_; refine lV (r_bin (a := (i : Int)) (b := (n : Int)) rfl rfl (fun _ => b_lss)) ?_; refine eN ?_
  by_cases hc1 : (i : Int) < (n : Int)
  ·
   repeat refine c_seq ?_
   refine c_yes (by exact bT hc1) ?_; refine c_skip ?_; refine qB ?_; refine rG ?_; refine mV ?_; refine lV (r_bin rfl (c64 256 (by decide)) (fun _ => b_rem_u64 (by decide))) ?_; refine lV (r_conv Tryz.underlying25 Tryz.underlying5 rfl (w_u8_64 _)) ?_; refine l_op (o_bslB ([(x % (256 : UInt64)).toUInt8]) H sl33 zc5 rfl rfl (by decide) (fun b2 w H hb2 => ?_)); replace H : Hp _ w _ ([_, .own (some b2) 1 1 (([(x % (256 : UInt64)).toUInt8]).map V8) 5 1]) := H
   refine mV ?_; refine l_op (o_appB (s := ⟨hd a, i, c, be u.toNat i⟩) (l' := be u.toNat (i + 1)) (len' := i + 1) (by rw [be, rem_be x _ hx]; rfl) (by (try dsimp only); omega) H (i := 1) rfl sl33 Tryz.underlying33 rfl rfl (H.slOwn (i := 0) rfl) oM (fun a3 c4 w H => ?_)); replace H : Hp _ w _ ([_, .own a3 (i + 1) c4 ((be u.toNat (i + 1)).map V8) 5 1]) := H
   refine aZ ?_; refine eN ?_
   refine rG ?_; refine mV ?_; refine lV (r_bin rfl (c64 256 (by decide)) (fun _ => b_quo_u64 (by decide))) ?_; refine aZ ?_; refine eN ?_
   refine rG ?_; refine mV ?_; refine lV (r_bin (a := (i : Int)) (b := 1) rfl rfl (fun _ => b_add oM oM)) ?_; refine aZ ?_; refine eN ?_
   refine round_end (i + 1, x / (256 : UInt64), a3, c4) ?_ ?_ ?_
   · exact ⟨rfl, show V64 (x / (256 : UInt64)) = V64 (x / (256 : UInt64) : UInt64) from congrArg V64 rfl, rfl, rfl, show VI ((i : Int) + 1) = VI ((i + 1 : Nat) : Int) from congrArg VI oM, trivial⟩
   · refine ⟨?_, ?_⟩
     · try dsimp only
       exact ⟨by omega, quo_be _ _ _ hx⟩
     · exact H.sub (.cons _ (.cons_cons _ (List.nil_sublist _)))
   · show n - (i + 1 : Nat) < n - i; omega
  ·
   repeat refine c_seq ?_
   refine c_no (by exact bF hc1) ?_; refine c_exit ?_; have hx0 : x.toNat = 0 := by
     have hi2 : i = n := by omega
     rw [hx, hi2]; exact Nat.div_eq_of_lt hf
   refine rG ?_; refine mV ?_; refine lV (r_bin (a := (x.toNat : Int)) (b := 0) rfl rfl (fun _ => b_gtrB false (decide_eq_false oM))) ?_; refine eN ?_
   refine qN ?_; refine c_skip ?_; refine rG ?_; refine l_op (o_bslB (([] : List UInt8)) H sl33 zc5 rfl rfl (by decide) (fun b5 w H hb5 => ?_)); replace H : Hp _ w _ ([_, .own (some b5) 0 0 ((([] : List UInt8)).map V8) 5 1]) := H
   refine mV ?_; refine l_op (o_appB (s := s) (l' := s.l) (len' := s.len) rfl (Nat.zero_add _) H (i := 1) rfl sl33 Tryz.underlying33 rfl rfl (hs.up H (fun _ => apart_nil _)) oM (fun a6 c7 w H => ?_)); replace H : Hp _ w _ ([_, .own a6 s.len c7 ((s.l).map V8) 5 1]) := H
   refine mV ?_; refine l_op (o_appB (s := ⟨hd a, i, c, be u.toNat i⟩) (l' := s.l ++ (be u.toNat i)) (len' := s.len + i) rfl rfl H (i := 1) rfl sl33 Tryz.underlying33 rfl rfl (H.slOwn (i := 0) rfl) oM (fun a8 c9 w H => ?_)); replace H : Hp _ w _ ([_, .own a8 (s.len + i) c9 ((s.l ++ (be u.toNat i)).map V8) 5 1]) := H
   refine aZ ?_; refine aZ ?_; refine eN ?_
   refine cR ?_
   refine e_retN (vs := [.slice (hd a8) (s.len + i) c9, VI 0]) _ Tryz.results68 rfl (resT (v := .slice (hd a8) (s.len + i) c9) rfl (resT (v := VI 0) rfl (resZ))) ?_
   refine ⟨_, rfl, ?_⟩
   have hi2 : i = n := by omega
   subst hi2
   exact ⟨_, _, rfl, H.sub (.cons _ (.cons_cons _ (List.nil_sublist _)))⟩
theorem u64_fit8 (u : UInt64) : u.toNat < 256 ^ 8 := u.toNat_lt
theorem put1z_ret (w0 : World) (u : UInt64) (n : Nat) (h1 : 1 ≤ n) (h8 : n ≤ 8) (hf : u.toNat < 256 ^ n) :
    Ret Tryz.prog 68 [.slice none 0 0, V64 u, VI (n : Int)] w0 fun v w' => ∃ a cap, v = .tuple #[.slice (hd a) n cap, VI 0] ∧ Hp w0 w' [] [.own a n cap ((be u.toNat n).map V8) 5 1] :=
  (put1_ret w0 ⟨none, 0, 0, []⟩ (Sl.ok_nil _) u n h1 h8 hf (by simp)).mono fun v w' ⟨a, c, hv, H⟩ => ⟨a, c, by simpa using hv, by simpa using H⟩
theorem eight_ret (w0 : World) (u : UInt64) :
    Ret Tryz.prog 25 [V64 u] w0 fun v w' => ∃ a cap, v = .slice (hd a) 8 cap ∧ Hp w0 w' [] [.own a 8 cap ((be u.toNat 8).map V8) 5 1] := by
  refine ret_mk Tryz.func25 rfl Tryz.ntmps25 (by simp) ?_
  have H := Hp.refl w0 []
  refine rG ?_; refine aZ ?_; refine eN ?_
  refine rG ?_; refine mV ?_; refine l_op (o_callR Tryz.func68 rfl rfl rfl (put1z_ret _ (u) 8 oM oM (u64_fit8 _)) ?_); rintro _ w ⟨a1, c2, rfl, Hc⟩
  replace H : Hp _ w _ ([.own a1 8 c2 ((be (u).toNat 8).map V8) 5 1]) := H.call Hc
  clear Hc
  refine mV ?_; refine lV (r_ext rfl rfl) ?_; refine lV (r_ext rfl rfl) ?_; refine aZ ?_; refine aZ ?_; refine eN ?_
  refine rG ?_; refine mV ?_; refine aZ ?_; refine eN ?_
  refine cR ?_
  refine e_ret1 (v := .slice (hd a1) 8 c2) Tryz.results25 rfl ?_
  refine ⟨_, rfl, ?_⟩
  exact ⟨_, _, rfl, H⟩
theorem kpad_len (K : List UInt8) (m : UInt8) (hK : K.length ≤ 64) : (kpad K m).length = 64 := by rw [kpad, List.length_map, padk_len K hK]
theorem kpad_step (K : List UInt8) (m c : UInt8) (i : Nat) (h : i < 64) (hK : K.length ≤ 64) (hc : c = K.getD i 0) : (kpad K m).take i ++ [c ^^^ m] = (kpad K m).take (i + 1) := by
  have hg : (padk K)[i]? = some c := by
    rw [hc, padk]
    by_cases hi : i < K.length
    · rw [List.getElem?_append_left hi, List.getD_eq_getElem?_getD]; simp [hi]
    · rw [List.getElem?_append_right oM, List.getElem?_replicate, if_pos oM, List.getD_eq_getElem?_getD, List.getElem?_eq_none oM]; rfl
  have hk : (kpad K m)[i]? = some (c ^^^ m) := by rw [kpad, List.getElem?_map, hg]; rfl
  rw [List.take_add_one, hk]; rfl
theorem kpad_all (K : List UInt8) (m : UInt8) (hK : K.length ≤ 64) : (kpad K m).take 64 = kpad K m := List.take_of_length_le (Nat.le_of_eq (kpad_len K m hK))
theorem getD_none (K : List UInt8) (i : Nat) (h : K.length ≤ i) : (0 : UInt8) = K.getD i 0 := by
  rw [List.getD_eq_getElem?_getD, List.getElem?_eq_none h]; rfl
theorem raw3_ret (w0 : World) (s u : Sl) (hs : s.ok w0) (hu : u.ok w0) (h1 : s.len ≤ 1000000) (h2 : u.len ≤ 1000000) :
    Ret Tryz.prog 67 [s.v, u.v] w0 fun v w' => v = .agg ((hmac s.l u.l).map V8).toArray ∧ Hp w0 w' [] [] := by
  refine ret_mk Tryz.func67 rfl Tryz.ntmps67 (by simp) ?_
  have H := Hp.refl w0 []
  have hsl := hs.ln
  have hul := hu.ln
  refine rG ?_; refine l_op (o_alloc H zc24 (fun b1 w H hb1 => ?_)); replace H : Hp _ w _ ([.blk b1 ((List.replicate 32 (0 : UInt8)).map V8) 24]) := H
  refine eN ?_
  refine rG ?_; refine l_op (o_bslB (([] : List UInt8)) H sl33 zc5 rfl rfl (by decide) (fun b2 w H hb2 => ?_)); replace H : Hp _ w _ ([_, .own (some b2) 0 0 ((([] : List UInt8)).map V8) 5 1]) := H
  refine mV ?_; refine l_op (o_appB (s := s) (l' := s.l) (len' := s.len) rfl (Nat.zero_add _) H (i := 1) rfl sl33 Tryz.underlying33 rfl rfl (hs.up H (fun _ => apart_nil _)) oM (fun a3 c4 w H => ?_)); replace H : Hp _ w _ ([_, .own a3 s.len c4 ((s.l).map V8) 5 1]) := H
  refine aZ ?_; refine eN ?_
  refine rG ?_; refine mV ?_; refine lV (r_lens el33 rfl) ?_; refine lV (r_bin (a := (s.len : Int)) (b := 64) rfl rfl (fun _ => b_gtr)) ?_; refine eN ?_
  by_cases hc5 : 64 < (s.len : Int)
  ·
   repeat refine c_seq ?_
   refine c_yes (by exact bT hc5) ?_; refine rG ?_; refine mV ?_; refine l_op (o_callR Tryz.func113 rfl rfl rfl (sum2_ret _ ⟨hd a3, s.len, c4, s.l⟩ (H.slOwn (i := 1) rfl) (by (try dsimp only); omega)) ?_); rintro _ w ⟨rfl, Hc⟩
   replace H : Hp _ w _ ([_, _]) := H.call Hc
   clear Hc
   refine l_op (o_alloc H zc24 (fun b6 w H hb6 => ?_)); replace H : Hp _ w _ ([_, _, .blk b6 ((List.replicate 32 (0 : UInt8)).map V8) 24]) := H
   refine l_op (o_stA (l' := sha256 (s.l)) H (i := 2) rfl rfl rfl cs24 (show (List.replicate 32 (0 : UInt8)).length = 32 from (List.length_replicate ..)) (show (sha256 (s.l)).length = 32 from sha256_len _) (fun w H => ?_)); replace H : Hp _ w _ ([_, _, .blk b6 ((sha256 (s.l)).map V8) 24]) := H
   refine eN ?_
   refine rG ?_; refine lV (r_slA (h := 32) (m := 32) (lv := none) (hv := none) (mv := none) rfl ar24 rfl rfl rfl (fun w => sbn w)) ?_; refine aZ ?_; refine eN ?_
   refine rG ?_; refine aZ ?_; refine aZ ?_; refine eN ?_
   refine rG ?_; refine aZ ?_; refine eN ?_
   refine qB ?_; have hkl : (sha256 (s.l)).length = 32 := by first | exact sha256_len _ | exact hsl
   repeat refine c_seq ?_
   refine c_loop5 (fun (i : Nat) (a : Option Nat) (c : Nat) (a2 : Option Nat) (c2 : Nat) => [(1, u.v), (4, .pointer (some ⟨b1, 0, none⟩)), (5, (⟨some ⟨b6, 0, none⟩, 32, 32, sha256 (s.l)⟩ : Sl).v), (7, .slice (hd a) i c), (8, .slice (hd a2) i c2), (9, VI (i : Int))])
     (fun (i : Nat) (a : Option Nat) (c : Nat) (a2 : Option Nat) (c2 : Nat) w => (i ≤ 64) ∧ Hp w0 w [] ([.blk b1 ((List.replicate 32 (0 : UInt8)).map V8) 24, .own a3 s.len c4 ((s.l).map V8) 5 1, .blk b6 ((sha256 (s.l)).map V8) 24, .own a i c (((kpad (sha256 (s.l)) 54).take i).map V8) 5 1, .own a2 i c2 (((kpad (sha256 (s.l)) 92).take i).map V8) 5 1]))
     (fun (i : Nat) (a : Option Nat) (c : Nat) (a2 : Option Nat) (c2 : Nat) => 64 - i) 0 none 0 none 0 ⟨rfl, rfl, rfl, rfl, rfl, rfl, trivial⟩ ⟨Nat.zero_le _, ((H.nilEnd 5 1).nilEnd 5 1)⟩ ?_
   clear H
   rintro i a c a2 c2 τ w ⟨hi, H⟩
   refine rG ?_; refine mV ?_; refine lV (r_bin (a := (i : Int)) (b := 64) rfl rfl (fun _ => b_lss)) ?_; refine eN ?_
   by_cases hc7 : (i : Int) < 64
   ·
    repeat refine c_seq ?_
    refine c_yes (by exact bT hc7) ?_; refine c_skip ?_; refine qB ?_; refine rG ?_; refine lV (r_asV (c8 0 (by decide))) ?_; refine eN ?_
    refine rG ?_; refine mV ?_; refine mV ?_; refine lV (r_lens el33 rfl) ?_; refine lV (r_bin (a := (i : Int)) (b := 32) rfl rfl (fun _ => b_lss)) ?_; refine eN ?_
    by_cases hc8 : (i : Int) < 32
    ·
     repeat refine c_seq ?_
     refine c_yes (by exact bT hc8) ?_; refine rG ?_; refine mV ?_; refine mV ?_; have ah11 := ((H.slBlkA (i := 2) rfl 32 (show (sha256 (s.l)).length = 32 from sha256_len _) (by decide))).addr (by (try simp only []); omega)
     obtain ⟨ab9, ao10, ah11⟩ := ah11
     refine lV (r_isN i rfl rfl el33 ah11 oM (by (try simp only []); omega)) ?_; refine lV (r_ldB (s := (⟨some ⟨b6, 0, none⟩, 32, 32, sha256 (s.l)⟩ : Sl)) (k := i) (H.slBlkA (i := 2) rfl 32 (show (sha256 (s.l)).length = 32 from sha256_len _) (by decide)) ah11 rfl ct5 (by (try simp only []); omega)) ?_; refine aZ ?_; refine eN ?_
     refine rG ?_; refine mV ?_; refine mV ?_; refine lV (r_bin rfl (c8 54 (by decide)) (fun _ => b_xor_u8)) ?_; refine l_op (o_bslB ([((sha256 (s.l)).getD i 0) ^^^ (54 : UInt8)]) H sl33 zc5 rfl rfl (by decide) (fun b12 w H hb12 => ?_)); replace H : Hp _ w _ ([_, _, _, _, _, .own (some b12) 1 1 (([((sha256 (s.l)).getD i 0) ^^^ (54 : UInt8)]).map V8) 5 1]) := H
     refine l_op (o_appB (s := ⟨hd (some b12), 1, 1, [((sha256 (s.l)).getD i 0) ^^^ (54 : UInt8)]⟩) (l' := (kpad (sha256 (s.l)) 54).take (i + 1)) (len' := i + 1) (kpad_step _ _ _ _ oM oM rfl) rfl H (i := 3) rfl sl33 Tryz.underlying33 rfl rfl (H.slOwn (i := 5) rfl) oM (fun a13 c14 w H => ?_)); replace H : Hp _ w _ ([_, _, _, .own a13 (i + 1) c14 (((kpad (sha256 (s.l)) 54).take (i + 1)).map V8) 5 1, _, _]) := H
     refine mV ?_; refine mV ?_; refine lV (r_bin rfl (c8 92 (by decide)) (fun _ => b_xor_u8)) ?_; refine l_op (o_bslB ([((sha256 (s.l)).getD i 0) ^^^ (92 : UInt8)]) H sl33 zc5 rfl rfl (by decide) (fun b15 w H hb15 => ?_)); replace H : Hp _ w _ ([_, _, _, _, _, _, .own (some b15) 1 1 (([((sha256 (s.l)).getD i 0) ^^^ (92 : UInt8)]).map V8) 5 1]) := H
     refine l_op (o_appB (s := ⟨hd (some b15), 1, 1, [((sha256 (s.l)).getD i 0) ^^^ (92 : UInt8)]⟩) (l' := (kpad (sha256 (s.l)) 92).take (i + 1)) (len' := i + 1) (kpad_step _ _ _ _ oM oM rfl) rfl H (i := 4) rfl sl33 Tryz.underlying33 rfl rfl (H.slOwn (i := 6) rfl) oM (fun a16 c17 w H => ?_)); replace H : Hp _ w _ ([_, _, _, _, .own a16 (i + 1) c17 (((kpad (sha256 (s.l)) 92).take (i + 1)).map V8) 5 1, _, _]) := H
     refine aZ ?_; refine aZ ?_; refine eN ?_
     refine rG ?_; refine mV ?_; refine lV (r_bin (a := (i : Int)) (b := 1) rfl rfl (fun _ => b_add oM oM)) ?_; refine aZ ?_; refine eN ?_
     refine round_end (i + 1, a13, c14, a16, c17) ?_ ?_ ?_
     · exact ⟨rfl, rfl, rfl, rfl, rfl, show VI ((i : Int) + 1) = VI ((i + 1 : Nat) : Int) from congrArg VI oM, trivial⟩
     · refine ⟨?_, ?_⟩
       · try dsimp only
         exact by omega
       · exact H.sub (.cons_cons _ (.cons_cons _ (.cons_cons _ (.cons_cons _ (.cons_cons _ (List.nil_sublist _))))))
     · show 64 - (i + 1 : Nat) < 64 - i; omega
    ·
     repeat refine c_seq ?_
     refine c_no (by exact bF hc8) ?_; refine c_skip ?_; refine rG ?_; refine mV ?_; refine mV ?_; refine lV (r_bin rfl (c8 54 (by decide)) (fun _ => b_xor_u8)) ?_; refine l_op (o_bslB ([(0 : UInt8) ^^^ (54 : UInt8)]) H sl33 zc5 rfl rfl (by decide) (fun b18 w H hb18 => ?_)); replace H : Hp _ w _ ([_, _, _, _, _, .own (some b18) 1 1 (([(0 : UInt8) ^^^ (54 : UInt8)]).map V8) 5 1]) := H
     refine l_op (o_appB (s := ⟨hd (some b18), 1, 1, [(0 : UInt8) ^^^ (54 : UInt8)]⟩) (l' := (kpad (sha256 (s.l)) 54).take (i + 1)) (len' := i + 1) (kpad_step _ _ _ _ oM oM (getD_none _ _ oM)) rfl H (i := 3) rfl sl33 Tryz.underlying33 rfl rfl (H.slOwn (i := 5) rfl) oM (fun a19 c20 w H => ?_)); replace H : Hp _ w _ ([_, _, _, .own a19 (i + 1) c20 (((kpad (sha256 (s.l)) 54).take (i + 1)).map V8) 5 1, _, _]) := H
     refine mV ?_; refine mV ?_; refine lV (r_bin rfl (c8 92 (by decide)) (fun _ => b_xor_u8)) ?_; refine l_op (o_bslB ([(0 : UInt8) ^^^ (92 : UInt8)]) H sl33 zc5 rfl rfl (by decide) (fun b21 w H hb21 => ?_)); replace H : Hp _ w _ ([_, _, _, _, _, _, .own (some b21) 1 1 (([(0 : UInt8) ^^^ (92 : UInt8)]).map V8) 5 1]) := H
     refine l_op (o_appB (s := ⟨hd (some b21), 1, 1, [(0 : UInt8) ^^^ (92 : UInt8)]⟩) (l' := (kpad (sha256 (s.l)) 92).take (i + 1)) (len' := i + 1) (kpad_step _ _ _ _ oM oM (getD_none _ _ oM)) rfl H (i := 4) rfl sl33 Tryz.underlying33 rfl rfl (H.slOwn (i := 6) rfl) oM (fun a22 c23 w H => ?_)); replace H : Hp _ w _ ([_, _, _, _, .own a22 (i + 1) c23 (((kpad (sha256 (s.l)) 92).take (i + 1)).map V8) 5 1, _, _]) := H
     refine aZ ?_; refine aZ ?_; refine eN ?_
     refine rG ?_; refine mV ?_; refine lV (r_bin (a := (i : Int)) (b := 1) rfl rfl (fun _ => b_add oM oM)) ?_; refine aZ ?_; refine eN ?_
     refine round_end (i + 1, a19, c20, a22, c23) ?_ ?_ ?_
     · exact ⟨rfl, rfl, rfl, rfl, rfl, show VI ((i : Int) + 1) = VI ((i + 1 : Nat) : Int) from congrArg VI oM, trivial⟩
     · refine ⟨?_, ?_⟩
       · try dsimp only
         exact by omega
       · exact H.sub (.cons_cons _ (.cons_cons _ (.cons_cons _ (.cons_cons _ (.cons_cons _ (List.nil_sublist _))))))
     · show 64 - (i + 1 : Nat) < 64 - i; omega
   ·
    repeat refine c_seq ?_
    refine c_no (by exact bF hc7) ?_; refine c_exit ?_; have hi2 : i = 64 := by omega
    subst hi2
    rw [kpad_all _ _ oM, kpad_all _ _ oM] at H
    replace H : Hp _ w _ ([_, _, _, .own a 64 c ((kpad (sha256 (s.l)) 54).map V8) 5 1, .own a2 64 c2 ((kpad (sha256 (s.l)) 92).map V8) 5 1]) := H
    refine rG ?_; refine mV ?_; refine mV ?_; refine l_op (o_appB (s := u) (l' := kpad (sha256 (s.l)) 54 ++ u.l) (len' := 64 + u.len) rfl rfl H (i := 3) rfl sl33 Tryz.underlying33 rfl rfl (hu.up H (fun _ => apart_nil _)) oM (fun a24 c25 w H => ?_)); replace H : Hp _ w _ ([_, _, _, .own a24 (64 + u.len) c25 ((kpad (sha256 (s.l)) 54 ++ u.l).map V8) 5 1, _]) := H
    refine l_op (o_callR Tryz.func113 rfl rfl rfl (sum2_ret _ ⟨hd a24, 64 + u.len, c25, kpad (sha256 (s.l)) 54 ++ u.l⟩ (H.slOwn (i := 3) rfl) (by (try dsimp only); omega)) ?_); rintro _ w ⟨rfl, Hc⟩
    replace H : Hp _ w _ ([_, _, _, _, _]) := H.call Hc
    clear Hc
    refine l_op (o_alloc H zc24 (fun b26 w H hb26 => ?_)); replace H : Hp _ w _ ([_, _, _, _, _, .blk b26 ((List.replicate 32 (0 : UInt8)).map V8) 24]) := H
    refine l_op (o_stA (l' := sha256 (kpad (sha256 (s.l)) 54 ++ u.l)) H (i := 5) rfl rfl rfl cs24 (show (List.replicate 32 (0 : UInt8)).length = 32 from (List.length_replicate ..)) (show (sha256 (kpad (sha256 (s.l)) 54 ++ u.l)).length = 32 from sha256_len _) (fun w H => ?_)); replace H : Hp _ w _ ([_, _, _, _, _, .blk b26 ((sha256 (kpad (sha256 (s.l)) 54 ++ u.l)).map V8) 24]) := H
    refine eN ?_
    refine rG ?_; refine mV ?_; refine lV (r_slA (h := 32) (m := 32) (lv := none) (hv := none) (mv := none) rfl ar24 rfl rfl rfl (fun w => sbn w)) ?_; refine l_op (o_appB (s := (⟨some ⟨b26, 0, none⟩, 32, 32, sha256 (kpad (sha256 (s.l)) 54 ++ u.l)⟩ : Sl)) (l' := kpad (sha256 (s.l)) 92 ++ (sha256 (kpad (sha256 (s.l)) 54 ++ u.l))) (len' := 96) rfl rfl H (i := 4) rfl sl33 Tryz.underlying33 rfl rfl (H.slBlkA (i := 5) rfl 32 (show (sha256 (kpad (sha256 (s.l)) 54 ++ u.l)).length = 32 from sha256_len _) (by decide)) oM (fun a27 c28 w H => ?_)); replace H : Hp _ w _ ([_, _, _, _, .own a27 96 c28 ((kpad (sha256 (s.l)) 92 ++ (sha256 (kpad (sha256 (s.l)) 54 ++ u.l))).map V8) 5 1, _]) := H
    refine l_op (o_callR Tryz.func113 rfl rfl rfl (sum2_ret _ ⟨hd a27, 96, c28, kpad (sha256 (s.l)) 92 ++ (sha256 (kpad (sha256 (s.l)) 54 ++ u.l))⟩ (H.slOwn (i := 4) rfl) (by (try dsimp only); omega)) ?_); rintro _ w ⟨rfl, Hc⟩
    replace H : Hp _ w _ ([_, _, _, _, _, _]) := H.call Hc
    clear Hc
    refine l_op (o_stA (l' := sha256 (kpad (sha256 (s.l)) 92 ++ (sha256 (kpad (sha256 (s.l)) 54 ++ u.l)))) H (i := 0) rfl rfl rfl cs24 (show (List.replicate 32 (0 : UInt8)).length = 32 from (List.length_replicate ..)) (show (sha256 (kpad (sha256 (s.l)) 92 ++ (sha256 (kpad (sha256 (s.l)) 54 ++ u.l)))).length = 32 from sha256_len _) (fun w H => ?_)); replace H : Hp _ w _ ([.blk b1 ((sha256 (kpad (sha256 (s.l)) 92 ++ (sha256 (kpad (sha256 (s.l)) 54 ++ u.l)))).map V8) 24, _, _, _, _, _]) := H
    refine eN ?_
    refine cR ?_
    refine e_retA (l := sha256 (kpad (sha256 (s.l)) 92 ++ (sha256 (kpad (sha256 (s.l)) 54 ++ u.l)))) Tryz.results67 H (i := 0) rfl rfl rt24 (show (sha256 (kpad (sha256 (s.l)) 92 ++ (sha256 (kpad (sha256 (s.l)) 54 ++ u.l)))).length = 32 from sha256_len _) ?_
    refine ⟨_, rfl, ?_⟩
    refine ⟨?_, H.sub (List.nil_sublist _)⟩
    rw [hmac, hkey, if_pos oM]
  ·
   repeat refine c_seq ?_
   refine c_no (by exact bF hc5) ?_; refine c_skip ?_; refine rG ?_; refine aZ ?_; refine aZ ?_; refine eN ?_
   refine rG ?_; refine aZ ?_; refine eN ?_
   refine qB ?_; have hkl : (s.l).length = s.len := by first | exact sha256_len _ | exact hsl
   repeat refine c_seq ?_
   refine c_loop5 (fun (i : Nat) (a : Option Nat) (c : Nat) (a2 : Option Nat) (c2 : Nat) => [(1, u.v), (4, .pointer (some ⟨b1, 0, none⟩)), (5, .slice (hd a3) s.len c4), (7, .slice (hd a) i c), (8, .slice (hd a2) i c2), (9, VI (i : Int))])
     (fun (i : Nat) (a : Option Nat) (c : Nat) (a2 : Option Nat) (c2 : Nat) w => (i ≤ 64) ∧ Hp w0 w [] ([.blk b1 ((List.replicate 32 (0 : UInt8)).map V8) 24, .own a3 s.len c4 ((s.l).map V8) 5 1, .own a i c (((kpad (s.l) 54).take i).map V8) 5 1, .own a2 i c2 (((kpad (s.l) 92).take i).map V8) 5 1]))
     (fun (i : Nat) (a : Option Nat) (c : Nat) (a2 : Option Nat) (c2 : Nat) => 64 - i) 0 none 0 none 0 ⟨rfl, rfl, rfl, rfl, rfl, rfl, trivial⟩ ⟨Nat.zero_le _, ((H.nilEnd 5 1).nilEnd 5 1)⟩ ?_
   clear H
   rintro i a c a2 c2 τ w ⟨hi, H⟩
   refine rG ?_; refine mV ?_; refine lV (r_bin (a := (i : Int)) (b := 64) rfl rfl (fun _ => b_lss)) ?_; refine eN ?_
   by_cases hc29 : (i : Int) < 64
   ·
    repeat refine c_seq ?_
    refine c_yes (by exact bT hc29) ?_; refine c_skip ?_; refine qB ?_; refine rG ?_; refine lV (r_asV (c8 0 (by decide))) ?_; refine eN ?_
    refine rG ?_; refine mV ?_; refine mV ?_; refine lV (r_lens el33 rfl) ?_; refine lV (r_bin (a := (i : Int)) (b := (s.len : Int)) rfl rfl (fun _ => b_lss)) ?_; refine eN ?_
    by_cases hc30 : (i : Int) < (s.len : Int)
    ·
     repeat refine c_seq ?_
     refine c_yes (by exact bT hc30) ?_; refine rG ?_; refine mV ?_; refine mV ?_; have ah32 := H.ownAddr (i := 1) rfl oM
     obtain ⟨ab31, ah32⟩ := ah32
     refine lV (r_isN i rfl rfl el33 ah32 oM (by (try simp only [Sl.cut]); omega)) ?_; refine lV (r_ldB (s := ⟨hd a3, s.len, c4, s.l⟩) (k := i) (H.slOwn (i := 1) rfl) ah32 rfl ct5 (by (try simp only []); omega)) ?_; refine aZ ?_; refine eN ?_
     refine rG ?_; refine mV ?_; refine mV ?_; refine lV (r_bin rfl (c8 54 (by decide)) (fun _ => b_xor_u8)) ?_; refine l_op (o_bslB ([((s.l).getD i 0) ^^^ (54 : UInt8)]) H sl33 zc5 rfl rfl (by decide) (fun b33 w H hb33 => ?_)); replace H : Hp _ w _ ([_, _, _, _, .own (some b33) 1 1 (([((s.l).getD i 0) ^^^ (54 : UInt8)]).map V8) 5 1]) := H
     refine l_op (o_appB (s := ⟨hd (some b33), 1, 1, [((s.l).getD i 0) ^^^ (54 : UInt8)]⟩) (l' := (kpad (s.l) 54).take (i + 1)) (len' := i + 1) (kpad_step _ _ _ _ oM oM rfl) rfl H (i := 2) rfl sl33 Tryz.underlying33 rfl rfl (H.slOwn (i := 4) rfl) oM (fun a34 c35 w H => ?_)); replace H : Hp _ w _ ([_, _, .own a34 (i + 1) c35 (((kpad (s.l) 54).take (i + 1)).map V8) 5 1, _, _]) := H
     refine mV ?_; refine mV ?_; refine lV (r_bin rfl (c8 92 (by decide)) (fun _ => b_xor_u8)) ?_; refine l_op (o_bslB ([((s.l).getD i 0) ^^^ (92 : UInt8)]) H sl33 zc5 rfl rfl (by decide) (fun b36 w H hb36 => ?_)); replace H : Hp _ w _ ([_, _, _, _, _, .own (some b36) 1 1 (([((s.l).getD i 0) ^^^ (92 : UInt8)]).map V8) 5 1]) := H
     refine l_op (o_appB (s := ⟨hd (some b36), 1, 1, [((s.l).getD i 0) ^^^ (92 : UInt8)]⟩) (l' := (kpad (s.l) 92).take (i + 1)) (len' := i + 1) (kpad_step _ _ _ _ oM oM rfl) rfl H (i := 3) rfl sl33 Tryz.underlying33 rfl rfl (H.slOwn (i := 5) rfl) oM (fun a37 c38 w H => ?_)); replace H : Hp _ w _ ([_, _, _, .own a37 (i + 1) c38 (((kpad (s.l) 92).take (i + 1)).map V8) 5 1, _, _]) := H
     refine aZ ?_; refine aZ ?_; refine eN ?_
     refine rG ?_; refine mV ?_; refine lV (r_bin (a := (i : Int)) (b := 1) rfl rfl (fun _ => b_add oM oM)) ?_; refine aZ ?_; refine eN ?_
     refine round_end (i + 1, a34, c35, a37, c38) ?_ ?_ ?_
     · exact ⟨rfl, rfl, rfl, rfl, rfl, show VI ((i : Int) + 1) = VI ((i + 1 : Nat) : Int) from congrArg VI oM, trivial⟩
     · refine ⟨?_, ?_⟩
       · try dsimp only
         exact by omega
       · exact H.sub (.cons_cons _ (.cons_cons _ (.cons_cons _ (.cons_cons _ (List.nil_sublist _)))))
     · show 64 - (i + 1 : Nat) < 64 - i; omega
    ·
     repeat refine c_seq ?_
     refine c_no (by exact bF hc30) ?_; refine c_skip ?_; refine rG ?_; refine mV ?_; refine mV ?_; refine lV (r_bin rfl (c8 54 (by decide)) (fun _ => b_xor_u8)) ?_; refine l_op (o_bslB ([(0 : UInt8) ^^^ (54 : UInt8)]) H sl33 zc5 rfl rfl (by decide) (fun b39 w H hb39 => ?_)); replace H : Hp _ w _ ([_, _, _, _, .own (some b39) 1 1 (([(0 : UInt8) ^^^ (54 : UInt8)]).map V8) 5 1]) := H
     refine l_op (o_appB (s := ⟨hd (some b39), 1, 1, [(0 : UInt8) ^^^ (54 : UInt8)]⟩) (l' := (kpad (s.l) 54).take (i + 1)) (len' := i + 1) (kpad_step _ _ _ _ oM oM (getD_none _ _ oM)) rfl H (i := 2) rfl sl33 Tryz.underlying33 rfl rfl (H.slOwn (i := 4) rfl) oM (fun a40 c41 w H => ?_)); replace H : Hp _ w _ ([_, _, .own a40 (i + 1) c41 (((kpad (s.l) 54).take (i + 1)).map V8) 5 1, _, _]) := H
     refine mV ?_; refine mV ?_; refine lV (r_bin rfl (c8 92 (by decide)) (fun _ => b_xor_u8)) ?_; refine l_op (o_bslB ([(0 : UInt8) ^^^ (92 : UInt8)]) H sl33 zc5 rfl rfl (by decide) (fun b42 w H hb42 => ?_)); replace H : Hp _ w _ ([_, _, _, _, _, .own (some b42) 1 1 (([(0 : UInt8) ^^^ (92 : UInt8)]).map V8) 5 1]) := H
     refine l_op (o_appB (s := ⟨hd (some b42), 1, 1, [(0 : UInt8) ^^^ (92 : UInt8)]⟩) (l' := (kpad (s.l) 92).take (i + 1)) (len' := i + 1) (kpad_step _ _ _ _ oM oM (getD_none _ _ oM)) rfl H (i := 3) rfl sl33 Tryz.underlying33 rfl rfl (H.slOwn (i := 5) rfl) oM (fun a43 c44 w H => ?_)); replace H : Hp _ w _ ([_, _, _, .own a43 (i + 1) c44 (((kpad (s.l) 92).take (i + 1)).map V8) 5 1, _, _]) := H
     refine aZ ?_; refine aZ ?_; refine eN ?_
     refine rG ?_; refine mV ?_; refine lV (r_bin (a := (i : Int)) (b := 1) rfl rfl (fun _ => b_add oM oM)) ?_; refine aZ ?_; refine eN ?_
     refine round_end (i + 1, a40, c41, a43, c44) ?_ ?_ ?_
     · exact ⟨rfl, rfl, rfl, rfl, rfl, show VI ((i : Int) + 1) = VI ((i + 1 : Nat) : Int) from congrArg VI oM, trivial⟩
     · refine ⟨?_, ?_⟩
       · try dsimp only
         exact by omega
       · exact H.sub (.cons_cons _ (.cons_cons _ (.cons_cons _ (.cons_cons _ (List.nil_sublist _)))))
     · show 64 - (i + 1 : Nat) < 64 - i; omega
   ·
    repeat refine c_seq ?_
    refine c_no (by exact bF hc29) ?_; refine c_exit ?_; have hi2 : i = 64 := by omega
    subst hi2
    rw [kpad_all _ _ oM, kpad_all _ _ oM] at H
    replace H : Hp _ w _ ([_, _, .own a 64 c ((kpad (s.l) 54).map V8) 5 1, .own a2 64 c2 ((kpad (s.l) 92).map V8) 5 1]) := H
    refine rG ?_; refine mV ?_; refine mV ?_; refine l_op (o_appB (s := u) (l' := kpad (s.l) 54 ++ u.l) (len' := 64 + u.len) rfl rfl H (i := 2) rfl sl33 Tryz.underlying33 rfl rfl (hu.up H (fun _ => apart_nil _)) oM (fun a45 c46 w H => ?_)); replace H : Hp _ w _ ([_, _, .own a45 (64 + u.len) c46 ((kpad (s.l) 54 ++ u.l).map V8) 5 1, _]) := H
    refine l_op (o_callR Tryz.func113 rfl rfl rfl (sum2_ret _ ⟨hd a45, 64 + u.len, c46, kpad (s.l) 54 ++ u.l⟩ (H.slOwn (i := 2) rfl) (by (try dsimp only); omega)) ?_); rintro _ w ⟨rfl, Hc⟩
    replace H : Hp _ w _ ([_, _, _, _]) := H.call Hc
    clear Hc
    refine l_op (o_alloc H zc24 (fun b47 w H hb47 => ?_)); replace H : Hp _ w _ ([_, _, _, _, .blk b47 ((List.replicate 32 (0 : UInt8)).map V8) 24]) := H
    refine l_op (o_stA (l' := sha256 (kpad (s.l) 54 ++ u.l)) H (i := 4) rfl rfl rfl cs24 (show (List.replicate 32 (0 : UInt8)).length = 32 from (List.length_replicate ..)) (show (sha256 (kpad (s.l) 54 ++ u.l)).length = 32 from sha256_len _) (fun w H => ?_)); replace H : Hp _ w _ ([_, _, _, _, .blk b47 ((sha256 (kpad (s.l) 54 ++ u.l)).map V8) 24]) := H
    refine eN ?_
    refine rG ?_; refine mV ?_; refine lV (r_slA (h := 32) (m := 32) (lv := none) (hv := none) (mv := none) rfl ar24 rfl rfl rfl (fun w => sbn w)) ?_; refine l_op (o_appB (s := (⟨some ⟨b47, 0, none⟩, 32, 32, sha256 (kpad (s.l) 54 ++ u.l)⟩ : Sl)) (l' := kpad (s.l) 92 ++ (sha256 (kpad (s.l) 54 ++ u.l))) (len' := 96) rfl rfl H (i := 3) rfl sl33 Tryz.underlying33 rfl rfl (H.slBlkA (i := 4) rfl 32 (show (sha256 (kpad (s.l) 54 ++ u.l)).length = 32 from sha256_len _) (by decide)) oM (fun a48 c49 w H => ?_)); replace H : Hp _ w _ ([_, _, _, .own a48 96 c49 ((kpad (s.l) 92 ++ (sha256 (kpad (s.l) 54 ++ u.l))).map V8) 5 1, _]) := H
    refine l_op (o_callR Tryz.func113 rfl rfl rfl (sum2_ret _ ⟨hd a48, 96, c49, kpad (s.l) 92 ++ (sha256 (kpad (s.l) 54 ++ u.l))⟩ (H.slOwn (i := 3) rfl) (by (try dsimp only); omega)) ?_); rintro _ w ⟨rfl, Hc⟩
    replace H : Hp _ w _ ([_, _, _, _, _]) := H.call Hc
    clear Hc
    refine l_op (o_stA (l' := sha256 (kpad (s.l) 92 ++ (sha256 (kpad (s.l) 54 ++ u.l)))) H (i := 0) rfl rfl rfl cs24 (show (List.replicate 32 (0 : UInt8)).length = 32 from (List.length_replicate ..)) (show (sha256 (kpad (s.l) 92 ++ (sha256 (kpad (s.l) 54 ++ u.l)))).length = 32 from sha256_len _) (fun w H => ?_)); replace H : Hp _ w _ ([.blk b1 ((sha256 (kpad (s.l) 92 ++ (sha256 (kpad (s.l) 54 ++ u.l)))).map V8) 24, _, _, _, _]) := H
    refine eN ?_
    refine cR ?_
    refine e_retA (l := sha256 (kpad (s.l) 92 ++ (sha256 (kpad (s.l) 54 ++ u.l)))) Tryz.results67 H (i := 0) rfl rfl rt24 (show (sha256 (kpad (s.l) 92 ++ (sha256 (kpad (s.l) 54 ++ u.l)))).length = 32 from sha256_len _) ?_
    refine ⟨_, rfl, ?_⟩
    refine ⟨?_, H.sub (List.nil_sublist _)⟩
    rw [hmac, hkey, if_neg oM]
theorem of3_ret (w0 : World) (s : Sl) (hs : s.ok w0) (pa : Option Addr) (pl pc : Nat) (ps : List Sl) (hr : RdS w0 pa (ps.map Sl.v)) (hl : ps.length = pl) (hok : ∀ p ∈ ps, p.ok w0) (h1 : s.len ≤ 1000000) (hp63 : pl ≤ 1048576) (hB : (framed (ps.map Sl.l)).length ≤ 1000000) :
    Ret Tryz.prog 23 [s.v, .slice pa pl pc] w0 fun v w' => v = .agg ((hmac s.l (framed (ps.map Sl.l))).map V8).toArray ∧ Hp w0 w' [] [] := by
  refine ret_mk Tryz.func23 rfl Tryz.ntmps23 (by simp) ?_
  have H := Hp.refl w0 []
  refine rG ?_; refine l_op (o_alloc H zc24 (fun b1 w H hb1 => ?_)); replace H : Hp _ w _ ([.blk b1 ((List.replicate 32 (0 : UInt8)).map V8) 24]) := H
  refine eN ?_
  refine rG ?_; refine aZ ?_; refine eN ?_
  refine rG ?_; refine aZ ?_; refine eN ?_
  refine qB ?_; repeat refine c_seq ?_
  refine c_loop3 (fun (i : Nat) (a : Option Nat) (c : Nat) => [(0, s.v), (1, .slice pa pl pc), (4, .pointer (some ⟨b1, 0, none⟩)), (5, .slice (hd a) ((fr ps i).length) c), (6, VI (i : Int))])
    (fun (i : Nat) (a : Option Nat) (c : Nat) w => (i ≤ pl) ∧ Hp w0 w [] ([.blk b1 ((List.replicate 32 (0 : UInt8)).map V8) 24, .own a ((fr ps i).length) c ((fr ps i).map V8) 5 1]))
    (fun (i : Nat) (a : Option Nat) (c : Nat) => pl - i) 0 none 0 ⟨rfl, rfl, rfl, rfl, rfl, trivial⟩ ⟨Nat.zero_le _, (H.nilEnd 5 1)⟩ ?_
  clear H
  rintro i a c τ w ⟨hi, H⟩
  refine rG ?_; refine mV ?_; refine mV ?_; refine lV (r_lens el80 rfl) ?_; refine lV (r_bin (a := (i : Int)) (b := (pl : Int)) rfl rfl (fun _ => b_lss)) ?_; refine eN ?_
  by_cases hc2 : (i : Int) < (pl : Int)
  ·
   repeat refine c_seq ?_
   refine c_yes (by exact bT hc2) ?_; refine c_skip ?_; refine qB ?_; repeat refine c_seq ?_
   refine heldS H (H.sub (.cons_cons _ (List.nil_sublist _))) mixed fun H HS => ?_
   refine tK 0 rfl (fun w HS => r_mv) HS ?_; refine tK 1 rfl (fun w HS => r_mv) HS ?_; refine tK 2 rfl (fun w HS => r_mv) HS ?_; obtain ⟨ab3, ao4, ah5⟩ := (HS.rd hr (apart_nil _)).addr (by simp only [List.length_map]; omega)
   refine tK 3 rfl (fun w HS => r_isN i rfl rfl el80 ah5 oM (by (try simp only [Sl.cut]); omega)) HS ?_; obtain ⟨p6, hp7⟩ : ∃ p, ps[i]? = some p := ⟨_, List.getElem?_eq_getElem oM⟩
   have hpok8 := hok p6 (List.mem_of_getElem? hp7)
   have hpok8n := hpok8.ln
   have hpok8m := hpok8.le
   refine tK 4 rfl (fun w HS => r_ldP (k := i) (HS.rd hr (apart_nil _)) ah5 rfl ct33 hp7) HS ?_; refine tK 5 rfl (fun w HS => r_lens el33 rfl) HS ?_; refine tK 6 rfl (fun w HS => r_conv (v := ((UInt64.ofNat p6.len).toNat : Int)) Tryz.underlying3 Tryz.underlying25 rfl (w_u64_N p6.len oM)) HS ?_; refine tK 9 rfl (fun w HS => r_mv) HS ?_; refine tK 10 rfl (fun w HS => r_mv) HS ?_; refine tK 11 rfl (fun w HS => r_isN i rfl rfl el80 ah5 oM (by (try simp only [Sl.cut]); omega)) HS ?_; refine tK 12 rfl (fun w HS => r_ldP (k := i) (HS.rd hr (apart_nil _)) ah5 rfl ct33 hp7) HS ?_; refine tU 7 rfl (o_callR Tryz.func25 rfl rfl rfl (eight_ret _ (UInt64.ofNat p6.len)) ?_); rintro _ w ⟨a9, c10, rfl, Hc⟩
   replace H : Hp _ w _ ([_, _, .own a9 8 c10 ((be (UInt64.ofNat p6.len).toNat 8).map V8) 5 1]) := H.call Hc
   clear Hc
   replace HS := H.sub (.cons_cons _ (List.nil_sublist _))
   refine ⟨HS, ?_⟩
   have hs1 := fr_succ ps i p6 hp7
   have hs2 := fr_le ps (i + 1)
   have hs3 : (fr ps (i + 1)).length = (fr ps i).length + 8 + p6.l.length := by rw [hs1]; simp [be_len]; omega
   refine tU 8 rfl (o_appB (s := ⟨hd a9, 8, c10, be (UInt64.ofNat p6.len).toNat 8⟩) (l' := fr ps i ++ (be (UInt64.ofNat p6.len).toNat 8)) (len' := (fr ps i).length + 8) rfl rfl H (i := 1) rfl sl33 Tryz.underlying33 rfl rfl (H.slOwn (i := 2) rfl) oM (fun a11 c12 w H => ?_)); replace H : Hp _ w _ ([_, .own a11 ((fr ps i).length + 8) c12 ((fr ps i ++ (be (UInt64.ofNat p6.len).toNat 8)).map V8) 5 1, _]) := H
   replace HS := H.sub (.cons_cons _ (List.nil_sublist _))
   refine ⟨HS, ?_⟩
   refine tU 13 rfl (o_appB (s := p6) (l' := fr ps (i + 1)) (len' := (fr ps (i + 1)).length) (by rw [hs1, ofNat_nat _ oM, hpok8n]) oM H (i := 1) rfl sl33 Tryz.underlying33 rfl rfl (hpok8.up H (fun _ => apart_nil _)) oM (fun a13 c14 w H => ?_)); replace H : Hp _ w _ ([_, .own a13 ((fr ps (i + 1)).length) c14 ((fr ps (i + 1)).map V8) 5 1, _]) := H
   replace HS := H.sub (.cons_cons _ (List.nil_sublist _))
   refine ⟨HS, ?_⟩
   refine tK 14 rfl (fun w HS => r_as) HS ?_; refine t_done (by kernel_rfl) ?_
   clear HS
   refine rG ?_; refine mV ?_; refine lV (r_bin (a := (i : Int)) (b := 1) rfl rfl (fun _ => b_add oM oM)) ?_; refine aZ ?_; refine eN ?_
   refine round_end (i + 1, a13, c14) ?_ ?_ ?_
   · exact ⟨rfl, rfl, rfl, rfl, show VI ((i : Int) + 1) = VI ((i + 1 : Nat) : Int) from congrArg VI oM, trivial⟩
   · refine ⟨?_, ?_⟩
     · try dsimp only
       exact by omega
     · exact H.sub (.cons_cons _ (.cons_cons _ (List.nil_sublist _)))
   · show pl - (i + 1 : Nat) < pl - i; omega
  ·
   repeat refine c_seq ?_
   refine c_no (by exact bF hc2) ?_; refine c_exit ?_; have hi2 : i = pl := by omega
   subst hi2
   have hfl := fr_le ps i
   refine rG ?_; refine mV ?_; refine mV ?_; refine l_op (o_callR Tryz.func67 rfl rfl rfl (raw3_ret _ s ⟨hd a, (fr ps i).length, c, fr ps i⟩ (hs.up H (fun _ => apart_nil _)) (H.slOwn (i := 1) rfl) (by (try dsimp only); omega) (by (try dsimp only); omega)) ?_); rintro _ w ⟨rfl, Hc⟩
   replace H : Hp _ w _ ([_, _]) := H.call Hc
   clear Hc
   refine l_op (o_stA (l' := hmac (s.l) (fr ps i)) H (i := 0) rfl rfl rfl cs24 (show (List.replicate 32 (0 : UInt8)).length = 32 from (List.length_replicate ..)) (show (hmac (s.l) (fr ps i)).length = 32 from hmac_len _ _) (fun w H => ?_)); replace H : Hp _ w _ ([.blk b1 ((hmac (s.l) (fr ps i)).map V8) 24, _]) := H
   refine eN ?_
   refine cR ?_
   refine e_retA (l := hmac (s.l) (fr ps i)) Tryz.results23 H (i := 0) rfl rfl rt24 (show (hmac (s.l) (fr ps i)).length = 32 from hmac_len _ _) ?_
   refine ⟨_, rfl, ?_⟩
   rw [fr_all ps i hl]
   exact ⟨rfl, H.sub (List.nil_sublist _)⟩
end Go.Proofs.YtmiabahejnjhiaaGreatDoor
namespace Go.Proofs.YtmiabahejnjhiaaGreatDoor
open Go
set_option maxRecDepth 100000
/-- the number that bytes make, the highest first. -/
def ofbe (l : List UInt8) : Nat := l.foldl (fun a b => a * 256 + b.toNat) 0
theorem ofbe_snoc (l : List UInt8) (b : UInt8) : ofbe (l ++ [b]) = ofbe l * 256 + b.toNat := by simp [ofbe]
theorem shl_or (v : UInt64) (x : UInt8) : (v <<< UInt64.ofNat 8) ||| x.toUInt64 = v * 256 + x.toUInt64 := by
  apply UInt64.toNat_inj.1
  have hx := u8_lt x
  have e8 : (UInt64.ofNat 8).toNat % 64 = 8 := rfl
  rw [UInt64.toNat_or, UInt64.toNat_add, UInt64.toNat_mul, UInt64.toNat_shiftLeft, e8, UInt8.toNat_toUInt64, Nat.shiftLeft_eq]
  have e1 : v.toNat * 2 ^ 8 % 2 ^ 64 = (v.toNat % 2 ^ 56) * 2 ^ 8 := by omega
  have e2 : (256 : UInt64).toNat = 256 := rfl
  rw [e1, ← Nat.shiftLeft_eq, ← Nat.shiftLeft_add_eq_or_of_lt oM, Nat.shiftLeft_eq, e2]
  omega
theorem num_step (m : Nat) (x : UInt8) : UInt64.ofNat m * 256 + x.toUInt64 = UInt64.ofNat (m * 256 + x.toNat) := by
  rw [UInt64.ofNat_add, UInt64.ofNat_mul, u8_u64]; rfl
theorem take_snoc (l : List UInt8) (i : Nat) (h : i < l.length) : l.take (i + 1) = l.take i ++ [l.getD i 0] := by
  rw [List.take_add_one, List.getD_eq_getElem?_getD]; simp [h]
def num (l : List UInt8) (at_ n : Nat) : UInt64 := UInt64.ofNat (ofbe ((l.drop at_).take n))
def nump (l : List UInt8) (at_ i : Nat) : UInt64 := UInt64.ofNat (ofbe ((l.drop at_).take i))
theorem nump_succ (l : List UInt8) (a i : Nat) (h : a + i < l.length) (x : UInt8) (hx : x = l.getD (a + i) 0) : nump l a i * 256 + x.toUInt64 = nump l a (i + 1) := by
  have e : (l.drop a).getD i 0 = x := by rw [hx, List.getD_eq_getElem?_getD, List.getD_eq_getElem?_getD, List.getElem?_drop]
  rw [nump, nump, num_step, take_snoc _ _ (by simp; omega), ofbe_snoc, e]
theorem getD_cut (l : List UInt8) (a n i : Nat) (hi : i < n) : ((l.drop a).take n).getD i 0 = l.getD (a + i) 0 := by
  rw [List.getD_eq_getElem?_getD, List.getD_eq_getElem?_getD, List.getElem?_take_of_lt hi, List.getElem?_drop]
theorem at_ok (w0 : World) (s : Sl) (hs : s.ok w0) (at_ n : Nat) (h1 : 1 ≤ n) (h8 : n ≤ 8) (hat : at_ ≤ 1099511627776) (hl : at_ + n ≤ s.len) :
    Ret Tryz.prog 117 [s.v, VI (at_ : Int), VI (n : Int)] w0 fun v w' => v = .tuple #[V64 (num s.l at_ n), VI 0] ∧ Hp w0 w' [] [] := by
  refine ret_mk Tryz.func117 rfl Tryz.ntmps117 (by simp) ?_
  have H := Hp.refl w0 []
  have hsl := hs.ln
  have hle := hs.le
  have hmx := hs.mx
  refine rG ?_; refine lV (r_asV (c64 0 (by decide))) ?_; refine aZ ?_; refine eN ?_
  refine qB ?_; refine rG ?_; refine mV ?_; refine lV (r_bin (a := (n : Int)) (b := 1) rfl rfl (fun _ => b_lssB false (decide_eq_false oM))) ?_; refine mV ?_; refine l_yes rfl rfl rfl (o_val r_mv ?_); refine l_yes rfl rfl rfl (o_val (r_bin (a := (n : Int)) (b := 8) rfl rfl (fun _ => b_gtrB false (decide_eq_false oM))) ?_); refine lV (r_pick rfl) ?_; refine mV ?_; refine l_yes rfl rfl rfl (o_val r_mv ?_); refine l_yes rfl rfl rfl (o_val (r_bin (a := (at_ : Int)) (b := 0) rfl rfl (fun _ => b_lssB false (decide_eq_false oM))) ?_); refine lV (r_pick rfl) ?_; refine aZ ?_; refine eN ?_
  refine qN ?_; refine rG ?_; refine mV ?_; refine mV ?_; refine lV (r_lens el33 rfl) ?_; refine mV ?_; refine lV (r_bin (a := (s.len : Int)) (b := (n : Int)) rfl rfl (fun _ => b_sub oM oM)) ?_; refine lV (r_bin (a := (at_ : Int)) (b := (s.len : Int) - (n : Int)) rfl rfl (fun _ => b_gtrB false (decide_eq_false oM))) ?_; refine aZ ?_; refine eN ?_
  refine qN ?_; refine c_skip ?_; refine rG ?_; refine lV (r_asV (c64 0 (by decide))) ?_; refine eN ?_
  refine rG ?_; refine mV ?_; refine mV ?_; refine mV ?_; refine mV ?_; refine lV (r_bin (a := (at_ : Int)) (b := (n : Int)) rfl rfl (fun _ => b_add oM oM)) ?_; refine lV (r_slS (s := s) at_ (at_ + n) s.cap (lv := some (VI (at_ : Int))) (hv := some (VI ((at_ : Int) + (n : Int)))) (mv := none) rfl el33 rfl rfl rfl (fun w => by exact sblh at_ (at_ + n) oM oM (by (try simp only [Sl.cut]); omega) (by (try simp only [Sl.cut]); omega) w)) ?_; refine lV (r_lens el33 rfl) ?_; refine mV ?_; refine eN ?_
  refine qB ?_; repeat refine c_seq ?_
  refine c_loop (fun (i : Nat) => [(8, V64 (nump s.l at_ i)), (34, (Sl.cut s at_ (at_ + n) s.cap).v), (35, VI ((at_ + n - at_ : Nat) : Int)), (36, VI (i : Int))])
    (fun (i : Nat) w => (i ≤ n) ∧ Hp w0 w [] ([]))
    (fun (i : Nat) => n - i) 0 ⟨rfl, rfl, rfl, rfl, trivial⟩ ⟨Nat.zero_le _, H⟩ ?_
  clear H
  rintro i τ w ⟨hi, H⟩
  refine rG ?_; refine lV (r_bin (a := (i : Int)) (b := ((at_ + n - at_ : Nat) : Int)) rfl rfl (fun _ => b_lss)) ?_; refine eN ?_
  by_cases hc1 : (i : Int) < ((at_ + n - at_ : Nat) : Int)
  ·
   repeat refine c_seq ?_
   refine c_yes (by exact bT hc1) ?_; refine c_skip ?_; refine qB ?_; refine rG ?_; have ah4 := (((hs.up H (fun _ => apart_nil _)).cut (l := at_) (h := at_ + n) (m := s.cap) oM (by (try simp only [Sl.cut]); omega) oM (by (try simp only [Sl.cut]); omega))).addr (by (try simp only [Sl.cut]); omega)
   obtain ⟨ab2, ao3, ah4⟩ := ah4
   refine lV (r_isN i rfl rfl el33 ah4 oM (by (try simp only [Sl.cut]); omega)) ?_; refine lV (r_ldB (s := (Sl.cut s at_ (at_ + n) s.cap)) (k := i) ((hs.up H (fun _ => apart_nil _)).cut (l := at_) (h := at_ + n) (m := s.cap) oM (by (try simp only [Sl.cut]); omega) oM (by (try simp only [Sl.cut]); omega)) ah4 rfl ct5 (by (try simp only [Sl.cut]); omega)) ?_; refine aZ ?_; refine eN ?_
   refine rG ?_; refine mV ?_; refine lV (r_shift rfl rfl (.inl rfl) (fun _ => b_shl_u64N 8 oM)) ?_; refine mV ?_; refine lV (r_conv Tryz.underlying5 Tryz.underlying25 rfl (w_u64_8 _)) ?_; refine lV (r_bin rfl rfl (fun _ => b_or_u64)) ?_; refine aZ ?_; refine eN ?_
   refine rG ?_; refine lV (r_bin (a := (i : Int)) (b := 1) rfl rfl (fun _ => b_add oM oM)) ?_; refine mV ?_; refine eN ?_
   refine round_end (i + 1) ?_ ?_ ?_
   · exact ⟨show V64 (((nump s.l at_ i) <<< UInt64.ofNat 8) ||| (((((s.l).drop at_).take (at_ + n - at_)).getD i 0).toUInt64)) = V64 (nump s.l at_ (i + 1 : Nat)) from congrArg V64 (by rw [shl_or, getD_cut _ _ _ _ oM]; exact nump_succ _ _ _ oM _ rfl), rfl, rfl, show VI ((i : Int) + 1) = VI ((i + 1 : Nat) : Int) from congrArg VI oM, trivial⟩
   · refine ⟨?_, ?_⟩
     · try dsimp only
       exact by omega
     · exact H
   · show n - (i + 1 : Nat) < n - i; omega
  ·
   repeat refine c_seq ?_
   refine c_no (by exact bF hc1) ?_; refine c_exit ?_; refine rG ?_; refine mV ?_; refine aZ ?_; refine aZ ?_; refine eN ?_
   refine cR ?_
   refine e_retN (vs := [V64 (nump s.l at_ i), VI 0]) _ Tryz.results117 rfl (resT (v := V64 (nump s.l at_ i)) rfl (resT (v := VI 0) rfl (resZ))) ?_
   refine ⟨_, rfl, ?_⟩
   have hin : i = n := by omega
   subst hin
   exact ⟨by rw [num, ← nump], H⟩
end Go.Proofs.YtmiabahejnjhiaaGreatDoor
namespace Go.Proofs.YtmiabahejnjhiaaGreatDoor
open Go
set_option maxRecDepth 100000
/-- an entry, as a world has it. -/
structure Ent where
  seq : Int
  tick : Int
  serial : UInt64
  tenant : List UInt8
  do_ : Int
  status : Int
  of_ : List UInt8
deriving DecidableEq
def entE (e : Ent) : List Value := [VI e.seq, VI e.tick, V64 e.serial, .string ⟨e.tenant.toArray⟩, VI e.do_, VI e.status] ++ e.of_.map V8
theorem entE_len (e : Ent) : (entE e).length = 38 ↔ e.of_.length = 32 := by simp [entE]
theorem ent_len {e : Ent} (h : e.of_.length = 32) : (entE e).length = 38 := (entE_len e).2 h
theorem ent_all (e : Ent) : (entE e).all (·.oneCell') = true := all_tail rfl
/-- numbers are such as int64 has. -/
def Ent.bd (e : Ent) : Prop := e.seq ≤ 9223372036854775807 ∧ e.tick ≤ 9223372036854775807
def mayE (e : Ent) : Bool := decide (0 ≤ e.seq ∧ 0 ≤ e.tick ∧ 0 ≤ e.do_ ∧ e.do_ ≤ 255 ∧ 0 ≤ e.status ∧ e.status ≤ 999 ∧ e.tenant.length ≤ 16)
theorem mayE_iff (e : Ent) : mayE e = true ↔ 0 ≤ e.seq ∧ 0 ≤ e.tick ∧ 0 ≤ e.do_ ∧ e.do_ ≤ 255 ∧ 0 ≤ e.status ∧ e.status ≤ 999 ∧ e.tenant.length ≤ 16 := by simp [mayE]
def entB (e : Ent) : List UInt8 := be e.seq.toNat 8 ++ be e.tick.toNat 8 ++ be e.serial.toNat 8 ++ [UInt8.ofNat e.tenant.length] ++ e.tenant ++ be e.do_.toNat 1 ++ be e.status.toNat 2 ++ e.of_
theorem entB_len (e : Ent) (h : e.of_.length = 32) : (entB e).length = 60 + e.tenant.length := by simp [entB, be_len, h]; omega
theorem au_cnt (n : Nat) (h : n ≤ 127) : cnt n = [UInt8.ofNat n] := by rw [cnt, if_neg oM]
def linkF (h : List UInt8) (e : Ent) : List UInt8 := sha256 (h ++ entB e)
theorem linkF_len (h : List UInt8) (e : Ent) : (linkF h e).length = 32 := sha256_len _
theorem aMay_ret (w0 : World) (e : Ent) (_he : e.of_.length = 32) :
    Ret Tryz.prog 109 [.agg ([VI e.seq, VI e.tick, V64 e.serial, .string ⟨(e.tenant).toArray⟩, VI e.do_, VI e.status] ++ (e.of_).map V8).toArray] w0 fun v w' => v = .bool (mayE e) ∧ Hp w0 w' [] [] := by
  refine ret_mk Tryz.func109 rfl Tryz.ntmps109 (by simp) ?_
  have H := Hp.refl w0 []
  refine rG ?_; refine l_op (o_box (v := .agg ([VI e.seq, VI e.tick, V64 e.serial, .string ⟨(e.tenant).toArray⟩, VI e.do_, VI e.status] ++ (e.of_).map V8).toArray) H rfl (fun b1 w H hb1 => ?_)); replace H : Hp _ w _ ([.blk b1 ([VI e.seq, VI e.tick, V64 e.serial, .string ⟨(e.tenant).toArray⟩, VI e.do_, VI e.status] ++ (e.of_).map V8) 60]) := H
  refine aZ ?_; refine eN ?_
  refine rG ?_; refine lV (r_fa rfl fo60_0) ?_; refine lV (r_ld (v := VI e.seq) H (i := 0) rfl rfl ct2 rfl) ?_; refine lV (r_bin (a := e.seq) (b := 0) rfl rfl (fun _ => b_geq)) ?_; refine mV ?_
  by_cases hc2 : 0 ≤ e.seq
  ·
   refine l_yes rfl rfl (by exact bT hc2) (o_val (r_fa rfl fo60_1) ?_); refine l_yes rfl rfl (by exact bT hc2) (o_val (r_ld (v := VI e.tick) H (i := 0) rfl rfl ct2 rfl) ?_); refine l_yes rfl rfl (by exact bT hc2) (o_val (r_bin (a := e.tick) (b := 0) rfl rfl (fun _ => b_geq)) ?_); refine lV (r_pick (b := true) (bT hc2)) ?_; refine mV ?_
   by_cases hc3 : 0 ≤ e.tick
   ·
    refine l_yes rfl rfl (by exact bT hc3) (o_val (r_fa rfl fo60_4) ?_); refine l_yes rfl rfl (by exact bT hc3) (o_val (r_ld (v := VI e.do_) H (i := 0) rfl rfl ct3 rfl) ?_); refine l_yes rfl rfl (by exact bT hc3) (o_val (r_bin (a := e.do_) (b := 0) rfl rfl (fun _ => b_geq)) ?_); refine lV (r_pick (b := true) (bT hc3)) ?_; refine mV ?_
    by_cases hc4 : 0 ≤ e.do_
    ·
     refine l_yes rfl rfl (by exact bT hc4) (o_val (r_fa rfl fo60_4) ?_); refine l_yes rfl rfl (by exact bT hc4) (o_val (r_ld (v := VI e.do_) H (i := 0) rfl rfl ct3 rfl) ?_); refine l_yes rfl rfl (by exact bT hc4) (o_val (r_bin (a := e.do_) (b := 255) rfl rfl (fun _ => b_leq)) ?_); refine lV (r_pick (b := true) (bT hc4)) ?_; refine mV ?_
     by_cases hc5 : e.do_ ≤ 255
     ·
      refine l_yes rfl rfl (by exact bT hc5) (o_val (r_fa rfl fo60_5) ?_); refine l_yes rfl rfl (by exact bT hc5) (o_val (r_ld (v := VI e.status) H (i := 0) rfl rfl ct3 rfl) ?_); refine l_yes rfl rfl (by exact bT hc5) (o_val (r_bin (a := e.status) (b := 0) rfl rfl (fun _ => b_geq)) ?_); refine lV (r_pick (b := true) (bT hc5)) ?_; refine mV ?_
      by_cases hc6 : 0 ≤ e.status
      ·
       refine l_yes rfl rfl (by exact bT hc6) (o_val (r_fa rfl fo60_5) ?_); refine l_yes rfl rfl (by exact bT hc6) (o_val (r_ld (v := VI e.status) H (i := 0) rfl rfl ct3 rfl) ?_); refine l_yes rfl rfl (by exact bT hc6) (o_val (r_bin (a := e.status) (b := 999) rfl rfl (fun _ => b_leq)) ?_); refine lV (r_pick (b := true) (bT hc6)) ?_; refine mV ?_
       by_cases hc7 : e.status ≤ 999
       ·
        refine l_yes rfl rfl (by exact bT hc7) (o_val (r_fa rfl fo60_3) ?_); refine l_yes rfl rfl (by exact bT hc7) (o_val (r_ld (v := .string ⟨(e.tenant).toArray⟩) H (i := 0) rfl rfl ct9 rfl) ?_); refine l_yes rfl rfl (by exact bT hc7) (o_val (r_lenstr (s := ⟨(e.tenant).toArray⟩) Tryz.underlying9 rfl) ?_); refine l_yes rfl rfl (by exact bT hc7) (o_val (r_bin (a := ((e.tenant).length : Int)) (b := 16) rfl rfl (fun _ => b_leq)) ?_); refine lV (r_pick (b := true) (bT hc7)) ?_; refine aZ ?_; refine eN ?_
        refine cR ?_
        refine e_ret1 (v := .bool (decide (((e.tenant).length : Int) ≤ 16))) Tryz.results109 rfl ?_
        refine ⟨_, rfl, ?_⟩
        refine ⟨?_, H.sub (List.nil_sublist _)⟩
        congr 1
        exact decide_eq_decide.2 oM
       ·
        refine l_no rfl rfl (by exact bF hc7) rfl ?_; refine l_no rfl rfl (by exact bF hc7) rfl ?_; refine l_no rfl rfl (by exact bF hc7) rfl ?_; refine l_no rfl rfl (by exact bF hc7) rfl ?_; refine lV (r_pick (b := false) (bF hc7)) ?_; refine aZ ?_; refine eN ?_
        refine cR ?_
        refine e_ret1 (v := .bool false) Tryz.results109 rfl ?_
        refine ⟨_, rfl, ?_⟩
        refine ⟨?_, H.sub (List.nil_sublist _)⟩
        have e1 : mayE e = false := decide_eq_false oM
        rw [e1]
      ·
       refine l_no rfl rfl (by exact bF hc6) rfl ?_; refine l_no rfl rfl (by exact bF hc6) rfl ?_; refine l_no rfl rfl (by exact bF hc6) rfl ?_; refine lV (r_pick (b := false) (bF hc6)) ?_; refine mV ?_; refine l_no rfl rfl rfl rfl ?_; refine l_no rfl rfl rfl rfl ?_; refine l_no rfl rfl rfl rfl ?_; refine l_no rfl rfl rfl rfl ?_; refine lV (r_pick rfl) ?_; refine aZ ?_; refine eN ?_
       refine cR ?_
       refine e_ret1 (v := .bool false) Tryz.results109 rfl ?_
       refine ⟨_, rfl, ?_⟩
       refine ⟨?_, H.sub (List.nil_sublist _)⟩
       have e1 : mayE e = false := decide_eq_false oM
       rw [e1]
     ·
      refine l_no rfl rfl (by exact bF hc5) rfl ?_; refine l_no rfl rfl (by exact bF hc5) rfl ?_; refine l_no rfl rfl (by exact bF hc5) rfl ?_; refine lV (r_pick (b := false) (bF hc5)) ?_; refine mV ?_; refine l_no rfl rfl rfl rfl ?_; refine l_no rfl rfl rfl rfl ?_; refine l_no rfl rfl rfl rfl ?_; refine lV (r_pick rfl) ?_; refine mV ?_; refine l_no rfl rfl rfl rfl ?_; refine l_no rfl rfl rfl rfl ?_; refine l_no rfl rfl rfl rfl ?_; refine l_no rfl rfl rfl rfl ?_; refine lV (r_pick rfl) ?_; refine aZ ?_; refine eN ?_
      refine cR ?_
      refine e_ret1 (v := .bool false) Tryz.results109 rfl ?_
      refine ⟨_, rfl, ?_⟩
      refine ⟨?_, H.sub (List.nil_sublist _)⟩
      have e1 : mayE e = false := decide_eq_false oM
      rw [e1]
    ·
     refine l_no rfl rfl (by exact bF hc4) rfl ?_; refine l_no rfl rfl (by exact bF hc4) rfl ?_; refine l_no rfl rfl (by exact bF hc4) rfl ?_; refine lV (r_pick (b := false) (bF hc4)) ?_; refine mV ?_; refine l_no rfl rfl rfl rfl ?_; refine l_no rfl rfl rfl rfl ?_; refine l_no rfl rfl rfl rfl ?_; refine lV (r_pick rfl) ?_; refine mV ?_; refine l_no rfl rfl rfl rfl ?_; refine l_no rfl rfl rfl rfl ?_; refine l_no rfl rfl rfl rfl ?_; refine lV (r_pick rfl) ?_; refine mV ?_; refine l_no rfl rfl rfl rfl ?_; refine l_no rfl rfl rfl rfl ?_; refine l_no rfl rfl rfl rfl ?_; refine l_no rfl rfl rfl rfl ?_; refine lV (r_pick rfl) ?_; refine aZ ?_; refine eN ?_
     refine cR ?_
     refine e_ret1 (v := .bool false) Tryz.results109 rfl ?_
     refine ⟨_, rfl, ?_⟩
     refine ⟨?_, H.sub (List.nil_sublist _)⟩
     have e1 : mayE e = false := decide_eq_false oM
     rw [e1]
   ·
    refine l_no rfl rfl (by exact bF hc3) rfl ?_; refine l_no rfl rfl (by exact bF hc3) rfl ?_; refine l_no rfl rfl (by exact bF hc3) rfl ?_; refine lV (r_pick (b := false) (bF hc3)) ?_; refine mV ?_; refine l_no rfl rfl rfl rfl ?_; refine l_no rfl rfl rfl rfl ?_; refine l_no rfl rfl rfl rfl ?_; refine lV (r_pick rfl) ?_; refine mV ?_; refine l_no rfl rfl rfl rfl ?_; refine l_no rfl rfl rfl rfl ?_; refine l_no rfl rfl rfl rfl ?_; refine lV (r_pick rfl) ?_; refine mV ?_; refine l_no rfl rfl rfl rfl ?_; refine l_no rfl rfl rfl rfl ?_; refine l_no rfl rfl rfl rfl ?_; refine lV (r_pick rfl) ?_; refine mV ?_; refine l_no rfl rfl rfl rfl ?_; refine l_no rfl rfl rfl rfl ?_; refine l_no rfl rfl rfl rfl ?_; refine l_no rfl rfl rfl rfl ?_; refine lV (r_pick rfl) ?_; refine aZ ?_; refine eN ?_
    refine cR ?_
    refine e_ret1 (v := .bool false) Tryz.results109 rfl ?_
    refine ⟨_, rfl, ?_⟩
    refine ⟨?_, H.sub (List.nil_sublist _)⟩
    have e1 : mayE e = false := decide_eq_false oM
    rw [e1]
  ·
   refine l_no rfl rfl (by exact bF hc2) rfl ?_; refine l_no rfl rfl (by exact bF hc2) rfl ?_; refine l_no rfl rfl (by exact bF hc2) rfl ?_; refine lV (r_pick (b := false) (bF hc2)) ?_; refine mV ?_; refine l_no rfl rfl rfl rfl ?_; refine l_no rfl rfl rfl rfl ?_; refine l_no rfl rfl rfl rfl ?_; refine lV (r_pick rfl) ?_; refine mV ?_; refine l_no rfl rfl rfl rfl ?_; refine l_no rfl rfl rfl rfl ?_; refine l_no rfl rfl rfl rfl ?_; refine lV (r_pick rfl) ?_; refine mV ?_; refine l_no rfl rfl rfl rfl ?_; refine l_no rfl rfl rfl rfl ?_; refine l_no rfl rfl rfl rfl ?_; refine lV (r_pick rfl) ?_; refine mV ?_; refine l_no rfl rfl rfl rfl ?_; refine l_no rfl rfl rfl rfl ?_; refine l_no rfl rfl rfl rfl ?_; refine lV (r_pick rfl) ?_; refine mV ?_; refine l_no rfl rfl rfl rfl ?_; refine l_no rfl rfl rfl rfl ?_; refine l_no rfl rfl rfl rfl ?_; refine l_no rfl rfl rfl rfl ?_; refine lV (r_pick rfl) ?_; refine aZ ?_; refine eN ?_
   refine cR ?_
   refine e_ret1 (v := .bool false) Tryz.results109 rfl ?_
   refine ⟨_, rfl, ?_⟩
   refine ⟨?_, H.sub (List.nil_sublist _)⟩
   have e1 : mayE e = false := decide_eq_false oM
   rw [e1]
theorem aBytes_ok (w0 : World) (e : Ent) (he : e.of_.length = 32) (hb : e.bd) (hm : mayE e = true) :
    Ret Tryz.prog 65 [.agg ([VI e.seq, VI e.tick, V64 e.serial, .string ⟨(e.tenant).toArray⟩, VI e.do_, VI e.status] ++ (e.of_).map V8).toArray] w0 fun v w' => ∃ a n k, v = .tuple #[.slice (hd a) n k, VI 0] ∧ (entB e).length = n ∧ Hp w0 w' [] [.own a n k ((entB e).map V8) 5 1] := by
  refine ret_mk Tryz.func65 rfl Tryz.ntmps65 (by simp) ?_
  have H := Hp.refl w0 []
  have hm2 := (mayE_iff e).1 hm
  have hb1 := hb.1
  have hb2 := hb.2
  have q1 : (UInt64.ofNat e.seq.toNat).toNat = e.seq.toNat := ofNat_nat _ oM
  have q2 : (UInt64.ofNat e.tick.toNat).toNat = e.tick.toNat := ofNat_nat _ oM
  have q3 : (UInt64.ofNat e.do_.toNat).toNat = e.do_.toNat := ofNat_nat _ oM
  have q4 : (UInt64.ofNat e.status.toNat).toNat = e.status.toNat := ofNat_nat _ oM
  refine rG ?_; refine l_op (o_box (v := .agg ([VI e.seq, VI e.tick, V64 e.serial, .string ⟨(e.tenant).toArray⟩, VI e.do_, VI e.status] ++ (e.of_).map V8).toArray) H rfl (fun b1 w H hb1 => ?_)); replace H : Hp _ w _ ([.blk b1 ([VI e.seq, VI e.tick, V64 e.serial, .string ⟨(e.tenant).toArray⟩, VI e.do_, VI e.status] ++ (e.of_).map V8) 60]) := H
  refine aZ ?_; refine aZ ?_; refine eN ?_
  refine rG ?_; refine lV (r_ldA (C := [VI e.seq, VI e.tick, V64 e.serial, .string ⟨(e.tenant).toArray⟩, VI e.do_, VI e.status] ++ (e.of_).map V8) H (i := 0) rfl rfl rt60 (by rw [List.length_append, List.length_map, (show (e.of_).length = 32 from he)]; rfl)) ?_; refine l_op (o_callR Tryz.func109 rfl rfl rfl (aMay_ret _ e (show (e.of_).length = 32 from he)) ?_); rintro _ w ⟨rfl, Hc⟩
  replace H : Hp _ w _ ([_]) := H.call Hc
  clear Hc
  have hk2 : (mayE e) = true := hm
  refine lV (r_not rfl) ?_; refine eN ?_
  repeat refine c_seq ?_
  refine c_no (by exact congrArg Value.bool (congrArg not hk2)) ?_; refine c_skip ?_; refine rG ?_; refine lV (r_fa rfl fo60_0) ?_; refine lV (r_ld (v := VI e.seq) H (i := 0) rfl rfl ct2 rfl) ?_; refine lV (r_conv (v := ((UInt64.ofNat (e.seq).toNat).toNat : Int)) Tryz.underlying2 Tryz.underlying25 rfl (w_u64_N (e.seq).toNat oM)) ?_; refine l_op (o_callR Tryz.func70 rfl rfl rfl (put0_ret _ (UInt64.ofNat (e.seq).toNat) 8 oM oM (.inl rfl)) ?_); rintro _ w ⟨a3, c4, rfl, Hc⟩
  replace H : Hp _ w _ ([_, .own a3 8 c4 ((be (UInt64.ofNat (e.seq).toNat).toNat 8).map V8) 5 1]) := H.call Hc
  clear Hc
  refine mV ?_; refine lV (r_ext rfl rfl) ?_; refine lV (r_ext rfl rfl) ?_; refine aZ ?_; refine aZ ?_; refine eN ?_
  refine rG ?_; refine mV ?_; refine lV (r_fa rfl fo60_1) ?_; refine lV (r_ld (v := VI e.tick) H (i := 0) rfl rfl ct2 rfl) ?_; refine lV (r_conv (v := ((UInt64.ofNat (e.tick).toNat).toNat : Int)) Tryz.underlying2 Tryz.underlying25 rfl (w_u64_N (e.tick).toNat oM)) ?_; refine l_op (o_callR Tryz.func70 rfl rfl rfl (put_ret _ ⟨hd a3, 8, c4, be (UInt64.ofNat (e.seq).toNat).toNat 8⟩ (H.slOwn (i := 1) rfl) (UInt64.ofNat (e.tick).toNat) 8 oM oM (.inl rfl) (by (try dsimp only); omega)) ?_); rintro _ w ⟨a5, c6, rfl, Hc⟩
  replace H : Hp _ w _ ([_, _, .own a5 (8 + 8) c6 ((be (UInt64.ofNat (e.seq).toNat).toNat 8 ++ be (UInt64.ofNat (e.tick).toNat).toNat 8).map V8) 5 1]) := H.call Hc
  clear Hc
  refine mV ?_; refine lV (r_ext rfl rfl) ?_; refine lV (r_ext rfl rfl) ?_; refine aZ ?_; refine eN ?_
  refine rG ?_; refine mV ?_; refine lV (r_fa rfl fo60_2) ?_; refine lV (r_ld (v := V64 e.serial) H (i := 0) rfl rfl ct25 rfl) ?_; refine l_op (o_callR Tryz.func70 rfl rfl rfl (put_ret _ ⟨hd a5, 8 + 8, c6, be (UInt64.ofNat (e.seq).toNat).toNat 8 ++ be (UInt64.ofNat (e.tick).toNat).toNat 8⟩ (H.slOwn (i := 2) rfl) (e.serial) 8 oM oM (.inl rfl) (by (try dsimp only); omega)) ?_); rintro _ w ⟨a7, c8, rfl, Hc⟩
  replace H : Hp _ w _ ([_, _, _, .own a7 (8 + 8 + 8) c8 ((be (UInt64.ofNat (e.seq).toNat).toNat 8 ++ be (UInt64.ofNat (e.tick).toNat).toNat 8 ++ be (e.serial).toNat 8).map V8) 5 1]) := H.call Hc
  clear Hc
  refine mV ?_; refine lV (r_ext rfl rfl) ?_; refine lV (r_ext rfl rfl) ?_; refine aZ ?_; refine eN ?_
  refine rG ?_; refine mV ?_; refine lV (r_fa rfl fo60_3) ?_; refine lV (r_ld (v := .string ⟨(e.tenant).toArray⟩) H (i := 0) rfl rfl ct9 rfl) ?_; refine l_op (o_s2B (l := e.tenant) H Tryz.underlying9 Tryz.underlying33 Tryz.underlying5 rfl oM (fun b9 c10 ob11 w H hb9 hr12 => ?_)); replace H : Hp _ w _ ([_, _, _, _, .obj b9 ob11]) := H
  refine l_op (o_callR Tryz.func72 rfl rfl rfl (text_ret _ ⟨hd a7, 8 + 8 + 8, c8, be (UInt64.ofNat (e.seq).toNat).toNat 8 ++ be (UInt64.ofNat (e.tick).toNat).toNat 8 ++ be (e.serial).toNat 8⟩ (⟨some ⟨b9, 0, none⟩, (e.tenant).length, c10, e.tenant⟩ : Sl) (H.slOwn (i := 3) rfl) (hr12 _ (H.has (.obj b9 ob11) (by simp))) (by (try simp only []); omega) (by (try simp only []); omega)) ?_); rintro _ w ⟨a13, n14, c15, rfl, hn16, Hc⟩
  replace H : Hp _ w _ ([_, _, _, _, _, .own a13 n14 c15 ((be (UInt64.ofNat (e.seq).toNat).toNat 8 ++ be (UInt64.ofNat (e.tick).toNat).toNat 8 ++ be (e.serial).toNat 8 ++ cnt ((e.tenant).length) ++ e.tenant).map V8) 5 1]) := H.call Hc
  clear Hc
  try dsimp only at hn16
  refine mV ?_; refine lV (r_ext rfl rfl) ?_; refine lV (r_ext rfl rfl) ?_; refine aZ ?_; refine eN ?_
  refine rG ?_; refine mV ?_; refine lV (r_fa rfl fo60_4) ?_; refine lV (r_ld (v := VI e.do_) H (i := 0) rfl rfl ct3 rfl) ?_; refine lV (r_conv (v := ((UInt64.ofNat (e.do_).toNat).toNat : Int)) Tryz.underlying3 Tryz.underlying25 rfl (w_u64_N (e.do_).toNat oM)) ?_; refine l_op (o_callR Tryz.func70 rfl rfl rfl (put_ret _ ⟨hd a13, n14, c15, be (UInt64.ofNat (e.seq).toNat).toNat 8 ++ be (UInt64.ofNat (e.tick).toNat).toNat 8 ++ be (e.serial).toNat 8 ++ cnt ((e.tenant).length) ++ e.tenant⟩ (H.slOwn (i := 5) rfl) (UInt64.ofNat (e.do_).toNat) 1 oM oM (.inr (by rw [ofNat_nat _ oM]; first | exact Nat.lt_of_le_of_lt (m := 255) oM (by decide) | exact Nat.lt_of_le_of_lt (m := 999) oM (by decide))) (by (try dsimp only); omega)) ?_); rintro _ w ⟨a17, c18, rfl, Hc⟩
  replace H : Hp _ w _ ([_, _, _, _, _, _, .own a17 (n14 + 1) c18 ((be (UInt64.ofNat (e.seq).toNat).toNat 8 ++ be (UInt64.ofNat (e.tick).toNat).toNat 8 ++ be (e.serial).toNat 8 ++ cnt ((e.tenant).length) ++ e.tenant ++ be (UInt64.ofNat (e.do_).toNat).toNat 1).map V8) 5 1]) := H.call Hc
  clear Hc
  refine mV ?_; refine lV (r_ext rfl rfl) ?_; refine lV (r_ext rfl rfl) ?_; refine aZ ?_; refine eN ?_
  refine rG ?_; refine mV ?_; refine lV (r_fa rfl fo60_5) ?_; refine lV (r_ld (v := VI e.status) H (i := 0) rfl rfl ct3 rfl) ?_; refine lV (r_conv (v := ((UInt64.ofNat (e.status).toNat).toNat : Int)) Tryz.underlying3 Tryz.underlying25 rfl (w_u64_N (e.status).toNat oM)) ?_; refine l_op (o_callR Tryz.func70 rfl rfl rfl (put_ret _ ⟨hd a17, n14 + 1, c18, be (UInt64.ofNat (e.seq).toNat).toNat 8 ++ be (UInt64.ofNat (e.tick).toNat).toNat 8 ++ be (e.serial).toNat 8 ++ cnt ((e.tenant).length) ++ e.tenant ++ be (UInt64.ofNat (e.do_).toNat).toNat 1⟩ (H.slOwn (i := 6) rfl) (UInt64.ofNat (e.status).toNat) 2 oM oM (.inr (by rw [ofNat_nat _ oM]; first | exact Nat.lt_of_le_of_lt (m := 255) oM (by decide) | exact Nat.lt_of_le_of_lt (m := 999) oM (by decide))) (by (try dsimp only); omega)) ?_); rintro _ w ⟨a19, c20, rfl, Hc⟩
  replace H : Hp _ w _ ([_, _, _, _, _, _, _, .own a19 (n14 + 1 + 2) c20 ((be (UInt64.ofNat (e.seq).toNat).toNat 8 ++ be (UInt64.ofNat (e.tick).toNat).toNat 8 ++ be (e.serial).toNat 8 ++ cnt ((e.tenant).length) ++ e.tenant ++ be (UInt64.ofNat (e.do_).toNat).toNat 1 ++ be (UInt64.ofNat (e.status).toNat).toNat 2).map V8) 5 1]) := H.call Hc
  clear Hc
  refine mV ?_; refine lV (r_ext rfl rfl) ?_; refine lV (r_ext rfl rfl) ?_; refine aZ ?_; refine eN ?_
  refine rG ?_; refine mV ?_; refine lV (r_fa rfl fo60_6) ?_; refine lV (r_slAo (o := 6) (h := 32) (m := 32) (lv := none) (hv := none) (mv := none) rfl ar24 rfl rfl rfl (fun w => sbn w)) ?_; refine l_op (o_appB (s := (⟨some ⟨b1, 6, none⟩, 32, 32, e.of_⟩ : Sl)) (l' := be (UInt64.ofNat (e.seq).toNat).toNat 8 ++ be (UInt64.ofNat (e.tick).toNat).toNat 8 ++ be (e.serial).toNat 8 ++ cnt ((e.tenant).length) ++ e.tenant ++ be (UInt64.ofNat (e.do_).toNat).toNat 1 ++ be (UInt64.ofNat (e.status).toNat).toNat 2 ++ e.of_) (len' := n14 + 1 + 2 + 32) rfl rfl H (i := 7) rfl sl33 Tryz.underlying33 rfl rfl (H.slTail (i := 0) (o := 6) (pre := [VI e.seq, VI e.tick, V64 e.serial, .string ⟨(e.tenant).toArray⟩, VI e.do_, VI e.status]) rfl rfl (show (e.of_).length = 32 from he) (by decide)) oM (fun a21 c22 w H => ?_)); replace H : Hp _ w _ ([_, _, _, _, _, _, _, .own a21 (n14 + 1 + 2 + 32) c22 ((be (UInt64.ofNat (e.seq).toNat).toNat 8 ++ be (UInt64.ofNat (e.tick).toNat).toNat 8 ++ be (e.serial).toNat 8 ++ cnt ((e.tenant).length) ++ e.tenant ++ be (UInt64.ofNat (e.do_).toNat).toNat 1 ++ be (UInt64.ofNat (e.status).toNat).toNat 2 ++ e.of_).map V8) 5 1]) := H
  refine aZ ?_; refine aZ ?_; refine eN ?_
  refine cR ?_
  refine e_retN (vs := [.slice (hd a21) (n14 + 1 + 2 + 32) c22, VI 0]) _ Tryz.results65 rfl (resT (v := .slice (hd a21) (n14 + 1 + 2 + 32) c22) rfl (resT (v := VI 0) rfl (resZ))) ?_
  refine ⟨_, rfl, ?_⟩
  have e1 : be (UInt64.ofNat (e.seq).toNat).toNat 8 ++ be (UInt64.ofNat (e.tick).toNat).toNat 8 ++ be (e.serial).toNat 8 ++ cnt ((e.tenant).length) ++ e.tenant ++ be (UInt64.ofNat (e.do_).toNat).toNat 1 ++ be (UInt64.ofNat (e.status).toNat).toNat 2 ++ e.of_ = entB e := by
    rw [q1, q2, q3, q4, au_cnt _ (show e.tenant.length ≤ 127 by omega), entB] <;> simp
  rw [e1] at H
  have hh := (H.ownLen (i := 7) rfl).1
  exact ⟨_, _, _, rfl, by simpa using hh, H.sub (.cons _ (.cons _ (.cons _ (.cons _ (.cons _ (.cons _ (.cons _ (.cons_cons _ (List.nil_sublist _)))))))))⟩
theorem aLink_ok (w0 : World) (h : List UInt8) (hh : h.length = 32) (e : Ent) (he : e.of_.length = 32) (hb : e.bd) (hm : mayE e = true) :
    Ret Tryz.prog 22 [.agg ((h).map V8).toArray, .agg ([VI e.seq, VI e.tick, V64 e.serial, .string ⟨(e.tenant).toArray⟩, VI e.do_, VI e.status] ++ (e.of_).map V8).toArray] w0 fun v w' => v = .tuple #[.agg ((linkF h e).map V8).toArray, VI 0] ∧ Hp w0 w' [] [] := by
  refine ret_mk Tryz.func22 rfl Tryz.ntmps22 (by simp) ?_
  have H := Hp.refl w0 []
  have hm2 := (mayE_iff e).1 hm
  have hbl := entB_len e he
  refine rG ?_; refine l_op (o_box (v := .agg ((h).map V8).toArray) H rfl (fun b1 w H hb1 => ?_)); replace H : Hp _ w _ ([.blk b1 ((h).map V8) 24]) := H
  refine l_op (o_box (v := .agg ([VI e.seq, VI e.tick, V64 e.serial, .string ⟨(e.tenant).toArray⟩, VI e.do_, VI e.status] ++ (e.of_).map V8).toArray) H rfl (fun b2 w H hb2 => ?_)); replace H : Hp _ w _ ([_, .blk b2 ([VI e.seq, VI e.tick, V64 e.serial, .string ⟨(e.tenant).toArray⟩, VI e.do_, VI e.status] ++ (e.of_).map V8) 60]) := H
  refine l_op (o_alloc H zc24 (fun b3 w H hb3 => ?_)); replace H : Hp _ w _ ([_, _, .blk b3 ((List.replicate 32 (0 : UInt8)).map V8) 24]) := H
  refine aZ ?_; refine eN ?_
  refine rG ?_; refine lV (r_ldA (C := [VI e.seq, VI e.tick, V64 e.serial, .string ⟨(e.tenant).toArray⟩, VI e.do_, VI e.status] ++ (e.of_).map V8) H (i := 1) rfl rfl rt60 (by rw [List.length_append, List.length_map, (show (e.of_).length = 32 from he)]; rfl)) ?_; have hk4 : (mayE e) = true := hm
  refine l_op (o_callR Tryz.func65 rfl rfl rfl (aBytes_ok _ e (show (e.of_).length = 32 from he) hb hk4) ?_); rintro _ w ⟨a5, n6, c7, rfl, hn8, Hc⟩
  replace H : Hp _ w _ ([_, _, _, .own a5 n6 c7 ((entB e).map V8) 5 1]) := H.call Hc
  clear Hc
  refine mV ?_; refine lV (r_ext rfl rfl) ?_; refine lV (r_ext rfl rfl) ?_; refine aZ ?_; refine aZ ?_; refine eN ?_
  refine rG ?_; refine mV ?_; refine lV (r_bin (a := 0) (b := 0) rfl rfl (fun _ => b_neqB false (decide_eq_false (by decide)))) ?_; refine eN ?_
  refine qN ?_; refine c_skip ?_; refine rG ?_; refine lV (r_slA (h := 32) (m := 32) (lv := none) (hv := none) (mv := none) rfl ar24 rfl rfl rfl (fun w => sbn w)) ?_; refine mV ?_; refine l_op (o_bslV ([(⟨some ⟨b1, 0, none⟩, 32, 32, h⟩ : Sl).v, .slice (hd a5) n6 c7]) H sl80 zc33 rfl (by simp [Value.oneCell', Sl.v]) rfl (by decide) (fun b9 w H hb9 => ?_)); replace H : Hp _ w _ ([_, _, _, _, .own (some b9) 2 2 ([(⟨some ⟨b1, 0, none⟩, 32, 32, h⟩ : Sl).v, .slice (hd a5) n6 c7]) 33 1]) := H
  refine l_op (o_callR Tryz.func66 rfl rfl rfl (sha2_ret _ _ (⟨some ⟨b1, 0, none⟩, 32, 32, h⟩ : Sl) (⟨hd a5, n6, c7, entB e⟩) (H.own (i := 4) rfl) (H.slBlkA (i := 0) rfl 32 (show (h).length = 32 from hh) (by decide)) (H.slOwn (i := 3) rfl)) ?_); rintro _ w ⟨rfl, Hc⟩
  replace H : Hp _ w _ ([_, _, _, _, _]) := H.call Hc
  clear Hc
  refine l_op (o_stA (l' := sha256 (h ++ (entB e))) H (i := 2) rfl rfl rfl cs24 (show (List.replicate 32 (0 : UInt8)).length = 32 from (List.length_replicate ..)) (show (sha256 (h ++ (entB e))).length = 32 from sha256_len _) (fun w H => ?_)); replace H : Hp _ w _ ([_, _, .blk b3 ((sha256 (h ++ (entB e))).map V8) 24, _, _]) := H
  refine aZ ?_; refine eN ?_
  refine cR ?_
  refine e_retN (vs := [.agg ((sha256 (h ++ (entB e))).map V8).toArray, VI 0]) _ Tryz.results22 rfl (H.resA (l := sha256 (h ++ (entB e))) (i := 2) rfl rfl rt24 (show (sha256 (h ++ (entB e))).length = 32 from sha256_len _) (resT (v := VI 0) rfl (resZ))) ?_
  refine ⟨_, rfl, ?_⟩
  exact ⟨rfl, H.sub (List.nil_sublist _)⟩
end Go.Proofs.YtmiabahejnjhiaaGreatDoor
namespace Go.Proofs.YtmiabahejnjhiaaGreatDoor
open Go
set_option maxRecDepth 100000
/-- 32 zeros. -/
def zId : Id32 := ⟨List.replicate 32 0, List.length_replicate⟩
structure Bl where
  of : Id32
  data : Sl
def blE (x : Bl) : List Value := (x.of.1).map V8 ++ (([x.data.v] : List Value))
theorem blE_len (x : Bl) : (blE x).length = 33 := by
  show ((x.of.1).map V8 ++ (([x.data.v] : List Value))).length = 33
  exact (by simp only [List.length_append, List.length_map, List.length_cons, List.length_nil, (show (x.of.1).length = 32 from x.of.2)])
theorem blE_all (x : Bl) : (blE x).all (·.oneCell') = true := by
  show ((x.of.1).map V8 ++ (([x.data.v] : List Value))).all (·.oneCell') = true
  simp only [List.all_append, List.all_cons, List.all_nil, List.all_map]; simp [Value.oneCell', Function.comp_def, Sl.v]
theorem blE_c0 (x : Bl) : Cut3 (blE x) (([] : List Value)) ((x.of.1).map V8) (([x.data.v] : List Value)) 0 32 :=
  ⟨by simp only [blE, List.nil_append], (by rfl), (by simp only [List.length_map, (show (x.of.1).length = 32 from x.of.2)])⟩
theorem blE_p0 (x : Bl) (v : Id32) : Put3 (blE x) (blE ⟨v, x.data⟩) ((x.of.1).map V8) ((v.1).map V8) 0 32 :=
  .of (blE_c0 x) (by simp only [blE, List.nil_append]) (by simp only [List.length_map, (show (v.1).length = 32 from v.2)])
theorem blE_c1 (x : Bl) : Cut3 (blE x) ((x.of.1).map V8) (([x.data.v] : List Value)) (([] : List Value)) 32 1 :=
  ⟨by simp only [blE, List.append_nil], (by simp only [List.length_map, (show (x.of.1).length = 32 from x.of.2)]), (by rfl)⟩
theorem blE_p1 (x : Bl) (v : Sl) : Put3 (blE x) (blE ⟨x.of, v⟩) (([x.data.v] : List Value)) (([v.v] : List Value)) 32 1 :=
  .of (blE_c1 x) (by simp only [blE, List.append_nil]) (by rfl)
structure Mf where
  root : Id32
  time : Int
  label : List UInt8
deriving DecidableEq
def mfE (x : Mf) : List Value := (x.root.1).map V8 ++ (([VI x.time, .string ⟨(x.label).toArray⟩] : List Value))
theorem mfE_len (x : Mf) : (mfE x).length = 34 := by
  show ((x.root.1).map V8 ++ (([VI x.time, .string ⟨(x.label).toArray⟩] : List Value))).length = 34
  exact (by simp only [List.length_append, List.length_map, List.length_cons, List.length_nil, (show (x.root.1).length = 32 from x.root.2)])
theorem mfE_all (x : Mf) : (mfE x).all (·.oneCell') = true := by
  show ((x.root.1).map V8 ++ (([VI x.time, .string ⟨(x.label).toArray⟩] : List Value))).all (·.oneCell') = true
  simp only [List.all_append, List.all_cons, List.all_nil, List.all_map]; simp [Value.oneCell', Function.comp_def]
theorem mfE_c0 (x : Mf) : Cut3 (mfE x) (([] : List Value)) ((x.root.1).map V8) (([VI x.time, .string ⟨(x.label).toArray⟩] : List Value)) 0 32 :=
  ⟨by simp only [mfE, List.nil_append], (by rfl), (by simp only [List.length_map, (show (x.root.1).length = 32 from x.root.2)])⟩
theorem mfE_p0 (x : Mf) (v : Id32) : Put3 (mfE x) (mfE ⟨v, x.time, x.label⟩) ((x.root.1).map V8) ((v.1).map V8) 0 32 :=
  .of (mfE_c0 x) (by simp only [mfE, List.nil_append]) (by simp only [List.length_map, (show (v.1).length = 32 from v.2)])
theorem mfE_c1 (x : Mf) : Cut3 (mfE x) ((x.root.1).map V8) (([VI x.time] : List Value)) (([.string ⟨(x.label).toArray⟩] : List Value)) 32 1 :=
  ⟨by simp only [mfE, List.cons_append, List.nil_append], (by simp only [List.length_map, (show (x.root.1).length = 32 from x.root.2)]), (by rfl)⟩
theorem mfE_p1 (x : Mf) (v : Int) : Put3 (mfE x) (mfE ⟨x.root, v, x.label⟩) (([VI x.time] : List Value)) (([VI v] : List Value)) 32 1 :=
  .of (mfE_c1 x) (by simp only [mfE, List.cons_append, List.nil_append]) (by rfl)
theorem mfE_c2 (x : Mf) : Cut3 (mfE x) ((x.root.1).map V8 ++ (([VI x.time] : List Value))) (([.string ⟨(x.label).toArray⟩] : List Value)) (([] : List Value)) 33 1 :=
  ⟨by simp only [mfE, List.append_assoc, List.cons_append, List.nil_append, List.append_nil], (by simp only [List.length_append, List.length_map, List.length_cons, List.length_nil, (show (x.root.1).length = 32 from x.root.2)]), (by rfl)⟩
theorem mfE_p2 (x : Mf) (v : List UInt8) : Put3 (mfE x) (mfE ⟨x.root, x.time, v⟩) (([.string ⟨(x.label).toArray⟩] : List Value)) (([.string ⟨(v).toArray⟩] : List Value)) 33 1 :=
  .of (mfE_c2 x) (by simp only [mfE, List.append_assoc, List.cons_append, List.nil_append, List.append_nil]) (by rfl)
structure Sn where
  number : Int
  mf : Mf
  doom : Int
def snE (x : Sn) : List Value := ([VI x.number] : List Value) ++ (mfE x.mf ++ (([VI x.doom] : List Value)))
theorem snE_len (x : Sn) : (snE x).length = 36 := by
  show (([VI x.number] : List Value) ++ (mfE x.mf ++ (([VI x.doom] : List Value)))).length = 36
  exact (by simp only [List.length_append, List.length_cons, List.length_nil, mfE_len])
theorem snE_all (x : Sn) : (snE x).all (·.oneCell') = true := by
  show (([VI x.number] : List Value) ++ (mfE x.mf ++ (([VI x.doom] : List Value)))).all (·.oneCell') = true
  simp only [List.all_append, List.all_cons, List.all_nil, mfE_all]; simp [Value.oneCell']
theorem snE_c0 (x : Sn) : Cut3 (snE x) (([] : List Value)) (([VI x.number] : List Value)) (mfE x.mf ++ (([VI x.doom] : List Value))) 0 1 :=
  ⟨by simp only [snE, List.cons_append, List.nil_append], (by rfl), (by rfl)⟩
theorem snE_p0 (x : Sn) (v : Int) : Put3 (snE x) (snE ⟨v, x.mf, x.doom⟩) (([VI x.number] : List Value)) (([VI v] : List Value)) 0 1 :=
  .of (snE_c0 x) (by simp only [snE, List.cons_append, List.nil_append]) (by rfl)
theorem snE_c1 (x : Sn) : Cut3 (snE x) (([VI x.number] : List Value)) (mfE x.mf) (([VI x.doom] : List Value)) 1 34 :=
  ⟨by simp only [snE, List.cons_append, List.nil_append], (by rfl), (by simp only [mfE_len])⟩
theorem snE_p1 (x : Sn) (v : Mf) : Put3 (snE x) (snE ⟨x.number, v, x.doom⟩) (mfE x.mf) (mfE v) 1 34 :=
  .of (snE_c1 x) (by simp only [snE, List.cons_append, List.nil_append]) (by simp only [mfE_len])
theorem snE_c2 (x : Sn) : Cut3 (snE x) (([VI x.number] : List Value) ++ (mfE x.mf)) (([VI x.doom] : List Value)) (([] : List Value)) 35 1 :=
  ⟨by simp only [snE, List.cons_append, List.nil_append, List.append_nil], (by simp only [List.length_append, List.length_cons, List.length_nil, mfE_len]), (by rfl)⟩
theorem snE_p2 (x : Sn) (v : Int) : Put3 (snE x) (snE ⟨x.number, x.mf, v⟩) (([VI x.doom] : List Value)) (([VI v] : List Value)) 35 1 :=
  .of (snE_c2 x) (by simp only [snE, List.cons_append, List.nil_append, List.append_nil]) (by rfl)
structure Dm where
  of : Id32
  doom : Int
deriving DecidableEq
structure Tn where
  name : List UInt8
  key : Id32
  quota : Int
  next : Int
  blobs : Gl Bl
  snaps : Gl Sn
  doomed : Gl Dm
def tnE (x : Tn) : List Value := ([.string ⟨(x.name).toArray⟩] : List Value) ++ ((x.key.1).map V8 ++ (([VI x.quota, VI x.next, x.blobs.v, x.snaps.v, x.doomed.v] : List Value)))
theorem tnE_len (x : Tn) : (tnE x).length = 38 := by
  show (([.string ⟨(x.name).toArray⟩] : List Value) ++ ((x.key.1).map V8 ++ (([VI x.quota, VI x.next, x.blobs.v, x.snaps.v, x.doomed.v] : List Value)))).length = 38
  exact (by simp only [List.length_append, List.length_map, List.length_cons, List.length_nil, (show (x.key.1).length = 32 from x.key.2)])
theorem tnE_all (x : Tn) : (tnE x).all (·.oneCell') = true := by
  show (([.string ⟨(x.name).toArray⟩] : List Value) ++ ((x.key.1).map V8 ++ (([VI x.quota, VI x.next, x.blobs.v, x.snaps.v, x.doomed.v] : List Value)))).all (·.oneCell') = true
  simp only [List.all_append, List.all_cons, List.all_nil, List.all_map]; simp [Value.oneCell', Function.comp_def, Gl.v]
theorem tnE_c0 (x : Tn) : Cut3 (tnE x) (([] : List Value)) (([.string ⟨(x.name).toArray⟩] : List Value)) ((x.key.1).map V8 ++ (([VI x.quota, VI x.next, x.blobs.v, x.snaps.v, x.doomed.v] : List Value))) 0 1 :=
  ⟨by simp only [tnE, List.cons_append, List.nil_append], (by rfl), (by rfl)⟩
theorem tnE_p0 (x : Tn) (v : List UInt8) : Put3 (tnE x) (tnE ⟨v, x.key, x.quota, x.next, x.blobs, x.snaps, x.doomed⟩) (([.string ⟨(x.name).toArray⟩] : List Value)) (([.string ⟨(v).toArray⟩] : List Value)) 0 1 :=
  .of (tnE_c0 x) (by simp only [tnE, List.cons_append, List.nil_append]) (by rfl)
theorem tnE_c1 (x : Tn) : Cut3 (tnE x) (([.string ⟨(x.name).toArray⟩] : List Value)) ((x.key.1).map V8) (([VI x.quota, VI x.next, x.blobs.v, x.snaps.v, x.doomed.v] : List Value)) 1 32 :=
  ⟨by simp only [tnE, List.cons_append, List.nil_append], (by rfl), (by simp only [List.length_map, (show (x.key.1).length = 32 from x.key.2)])⟩
theorem tnE_p1 (x : Tn) (v : Id32) : Put3 (tnE x) (tnE ⟨x.name, v, x.quota, x.next, x.blobs, x.snaps, x.doomed⟩) ((x.key.1).map V8) ((v.1).map V8) 1 32 :=
  .of (tnE_c1 x) (by simp only [tnE, List.cons_append, List.nil_append]) (by simp only [List.length_map, (show (v.1).length = 32 from v.2)])
theorem tnE_c2 (x : Tn) : Cut3 (tnE x) (([.string ⟨(x.name).toArray⟩] : List Value) ++ ((x.key.1).map V8)) (([VI x.quota] : List Value)) (([VI x.next, x.blobs.v, x.snaps.v, x.doomed.v] : List Value)) 33 1 :=
  ⟨by simp only [tnE, List.cons_append, List.nil_append], (by simp only [List.length_append, List.length_map, List.length_cons, List.length_nil, (show (x.key.1).length = 32 from x.key.2)]), (by rfl)⟩
theorem tnE_p2 (x : Tn) (v : Int) : Put3 (tnE x) (tnE ⟨x.name, x.key, v, x.next, x.blobs, x.snaps, x.doomed⟩) (([VI x.quota] : List Value)) (([VI v] : List Value)) 33 1 :=
  .of (tnE_c2 x) (by simp only [tnE, List.cons_append, List.nil_append]) (by rfl)
theorem tnE_c3 (x : Tn) : Cut3 (tnE x) (([.string ⟨(x.name).toArray⟩] : List Value) ++ ((x.key.1).map V8 ++ (([VI x.quota] : List Value)))) (([VI x.next] : List Value)) (([x.blobs.v, x.snaps.v, x.doomed.v] : List Value)) 34 1 :=
  ⟨by simp only [tnE, List.append_assoc, List.cons_append, List.nil_append], (by simp only [List.length_append, List.length_map, List.length_cons, List.length_nil, (show (x.key.1).length = 32 from x.key.2)]), (by rfl)⟩
theorem tnE_p3 (x : Tn) (v : Int) : Put3 (tnE x) (tnE ⟨x.name, x.key, x.quota, v, x.blobs, x.snaps, x.doomed⟩) (([VI x.next] : List Value)) (([VI v] : List Value)) 34 1 :=
  .of (tnE_c3 x) (by simp only [tnE, List.append_assoc, List.cons_append, List.nil_append]) (by rfl)
theorem tnE_c4 (x : Tn) : Cut3 (tnE x) (([.string ⟨(x.name).toArray⟩] : List Value) ++ ((x.key.1).map V8 ++ (([VI x.quota, VI x.next] : List Value)))) (([x.blobs.v] : List Value)) (([x.snaps.v, x.doomed.v] : List Value)) 35 1 :=
  ⟨by simp only [tnE, List.append_assoc, List.cons_append, List.nil_append], (by simp only [List.length_append, List.length_map, List.length_cons, List.length_nil, (show (x.key.1).length = 32 from x.key.2)]), (by rfl)⟩
theorem tnE_p4 (x : Tn) (v : Gl Bl) : Put3 (tnE x) (tnE ⟨x.name, x.key, x.quota, x.next, v, x.snaps, x.doomed⟩) (([x.blobs.v] : List Value)) (([v.v] : List Value)) 35 1 :=
  .of (tnE_c4 x) (by simp only [tnE, List.append_assoc, List.cons_append, List.nil_append]) (by rfl)
theorem tnE_c5 (x : Tn) : Cut3 (tnE x) (([.string ⟨(x.name).toArray⟩] : List Value) ++ ((x.key.1).map V8 ++ (([VI x.quota, VI x.next, x.blobs.v] : List Value)))) (([x.snaps.v] : List Value)) (([x.doomed.v] : List Value)) 36 1 :=
  ⟨by simp only [tnE, List.append_assoc, List.cons_append, List.nil_append], (by simp only [List.length_append, List.length_map, List.length_cons, List.length_nil, (show (x.key.1).length = 32 from x.key.2)]), (by rfl)⟩
theorem tnE_p5 (x : Tn) (v : Gl Sn) : Put3 (tnE x) (tnE ⟨x.name, x.key, x.quota, x.next, x.blobs, v, x.doomed⟩) (([x.snaps.v] : List Value)) (([v.v] : List Value)) 36 1 :=
  .of (tnE_c5 x) (by simp only [tnE, List.append_assoc, List.cons_append, List.nil_append]) (by rfl)
theorem tnE_c6 (x : Tn) : Cut3 (tnE x) (([.string ⟨(x.name).toArray⟩] : List Value) ++ ((x.key.1).map V8 ++ (([VI x.quota, VI x.next, x.blobs.v, x.snaps.v] : List Value)))) (([x.doomed.v] : List Value)) (([] : List Value)) 37 1 :=
  ⟨by simp only [tnE, List.append_assoc, List.cons_append, List.nil_append, List.append_nil], (by simp only [List.length_append, List.length_map, List.length_cons, List.length_nil, (show (x.key.1).length = 32 from x.key.2)]), (by rfl)⟩
theorem tnE_p6 (x : Tn) (v : Gl Dm) : Put3 (tnE x) (tnE ⟨x.name, x.key, x.quota, x.next, x.blobs, x.snaps, v⟩) (([x.doomed.v] : List Value)) (([v.v] : List Value)) 37 1 :=
  .of (tnE_c6 x) (by simp only [tnE, List.append_assoc, List.cons_append, List.nil_append, List.append_nil]) (by rfl)
structure Sta where
  root : Id32
  delay : Int
  serial : UInt64
  tenants : Gl Tn
  revoked : Gl UInt64
  log : Gl Ent
  head : Id32
def staE (x : Sta) : List Value := (x.root.1).map V8 ++ (([VI x.delay, V64 x.serial, x.tenants.v, x.revoked.v, x.log.v] : List Value) ++ ((x.head.1).map V8))
theorem staE_len (x : Sta) : (staE x).length = 69 := by
  show ((x.root.1).map V8 ++ (([VI x.delay, V64 x.serial, x.tenants.v, x.revoked.v, x.log.v] : List Value) ++ ((x.head.1).map V8))).length = 69
  exact (by simp only [List.length_append, List.length_map, List.length_cons, List.length_nil, (show (x.root.1).length = 32 from x.root.2), (show (x.head.1).length = 32 from x.head.2)])
theorem staE_all (x : Sta) : (staE x).all (·.oneCell') = true := by
  show ((x.root.1).map V8 ++ (([VI x.delay, V64 x.serial, x.tenants.v, x.revoked.v, x.log.v] : List Value) ++ ((x.head.1).map V8))).all (·.oneCell') = true
  simp only [List.all_append, List.all_cons, List.all_nil, List.all_map]; simp [Value.oneCell', Function.comp_def, Gl.v]
theorem staE_c0 (x : Sta) : Cut3 (staE x) (([] : List Value)) ((x.root.1).map V8) (([VI x.delay, V64 x.serial, x.tenants.v, x.revoked.v, x.log.v] : List Value) ++ ((x.head.1).map V8)) 0 32 :=
  ⟨by simp only [staE, List.cons_append, List.nil_append], (by rfl), (by simp only [List.length_map, (show (x.root.1).length = 32 from x.root.2)])⟩
theorem staE_p0 (x : Sta) (v : Id32) : Put3 (staE x) (staE ⟨v, x.delay, x.serial, x.tenants, x.revoked, x.log, x.head⟩) ((x.root.1).map V8) ((v.1).map V8) 0 32 :=
  .of (staE_c0 x) (by simp only [staE, List.cons_append, List.nil_append]) (by simp only [List.length_map, (show (v.1).length = 32 from v.2)])
theorem staE_c1 (x : Sta) : Cut3 (staE x) ((x.root.1).map V8) (([VI x.delay] : List Value)) (([V64 x.serial, x.tenants.v, x.revoked.v, x.log.v] : List Value) ++ ((x.head.1).map V8)) 32 1 :=
  ⟨by simp only [staE, List.cons_append, List.nil_append], (by simp only [List.length_map, (show (x.root.1).length = 32 from x.root.2)]), (by rfl)⟩
theorem staE_p1 (x : Sta) (v : Int) : Put3 (staE x) (staE ⟨x.root, v, x.serial, x.tenants, x.revoked, x.log, x.head⟩) (([VI x.delay] : List Value)) (([VI v] : List Value)) 32 1 :=
  .of (staE_c1 x) (by simp only [staE, List.cons_append, List.nil_append]) (by rfl)
theorem staE_c3 (x : Sta) : Cut3 (staE x) ((x.root.1).map V8 ++ (([VI x.delay, V64 x.serial] : List Value))) (([x.tenants.v] : List Value)) (([x.revoked.v, x.log.v] : List Value) ++ ((x.head.1).map V8)) 34 1 :=
  ⟨by simp only [staE, List.append_assoc, List.cons_append, List.nil_append], (by simp only [List.length_append, List.length_map, List.length_cons, List.length_nil, (show (x.root.1).length = 32 from x.root.2)]), (by rfl)⟩
theorem staE_p3 (x : Sta) (v : Gl Tn) : Put3 (staE x) (staE ⟨x.root, x.delay, x.serial, v, x.revoked, x.log, x.head⟩) (([x.tenants.v] : List Value)) (([v.v] : List Value)) 34 1 :=
  .of (staE_c3 x) (by simp only [staE, List.append_assoc, List.cons_append, List.nil_append]) (by rfl)
theorem staE_c4 (x : Sta) : Cut3 (staE x) ((x.root.1).map V8 ++ (([VI x.delay, V64 x.serial, x.tenants.v] : List Value))) (([x.revoked.v] : List Value)) (([x.log.v] : List Value) ++ ((x.head.1).map V8)) 35 1 :=
  ⟨by simp only [staE, List.append_assoc, List.cons_append, List.nil_append], (by simp only [List.length_append, List.length_map, List.length_cons, List.length_nil, (show (x.root.1).length = 32 from x.root.2)]), (by rfl)⟩
theorem staE_p4 (x : Sta) (v : Gl UInt64) : Put3 (staE x) (staE ⟨x.root, x.delay, x.serial, x.tenants, v, x.log, x.head⟩) (([x.revoked.v] : List Value)) (([v.v] : List Value)) 35 1 :=
  .of (staE_c4 x) (by simp only [staE, List.append_assoc, List.cons_append, List.nil_append]) (by rfl)
theorem staE_c5 (x : Sta) : Cut3 (staE x) ((x.root.1).map V8 ++ (([VI x.delay, V64 x.serial, x.tenants.v, x.revoked.v] : List Value))) (([x.log.v] : List Value)) ((x.head.1).map V8) 36 1 :=
  ⟨by simp only [staE, List.append_assoc, List.cons_append, List.nil_append], (by simp only [List.length_append, List.length_map, List.length_cons, List.length_nil, (show (x.root.1).length = 32 from x.root.2)]), (by rfl)⟩
theorem staE_p5 (x : Sta) (v : Gl Ent) : Put3 (staE x) (staE ⟨x.root, x.delay, x.serial, x.tenants, x.revoked, v, x.head⟩) (([x.log.v] : List Value)) (([v.v] : List Value)) 36 1 :=
  .of (staE_c5 x) (by simp only [staE, List.append_assoc, List.cons_append, List.nil_append]) (by rfl)
theorem staE_c6 (x : Sta) : Cut3 (staE x) ((x.root.1).map V8 ++ (([VI x.delay, V64 x.serial, x.tenants.v, x.revoked.v, x.log.v] : List Value))) ((x.head.1).map V8) (([] : List Value)) 37 32 :=
  ⟨by simp only [staE, List.append_assoc, List.cons_append, List.nil_append, List.append_nil], (by simp only [List.length_append, List.length_map, List.length_cons, List.length_nil, (show (x.root.1).length = 32 from x.root.2)]), (by simp only [List.length_map, (show (x.head.1).length = 32 from x.head.2)])⟩
theorem staE_p6 (x : Sta) (v : Id32) : Put3 (staE x) (staE ⟨x.root, x.delay, x.serial, x.tenants, x.revoked, x.log, v⟩) ((x.head.1).map V8) ((v.1).map V8) 37 32 :=
  .of (staE_c6 x) (by simp only [staE, List.append_assoc, List.cons_append, List.nil_append, List.append_nil]) (by simp only [List.length_map, (show (v.1).length = 32 from v.2)])
end Go.Proofs.YtmiabahejnjhiaaGreatDoor
namespace Go.Proofs.YtmiabahejnjhiaaGreatDoor
open Go
theorem Hp.shrinkV {w0 w : World} {S : List Nat} {L : List Ch} (H : Hp w0 w S L) {i n c m sz : Nat} {a : Option Nat} {xs : List Value} {T : TypeId} (hi : L[i]? = some (.own a n c xs T sz)) (hm : m ≤ n) : Hp w0 w S (L.set i (.own a m c (xs.take (m * sz)) T sz)) := by
  have h := H.has _ (List.mem_of_getElem? hi)
  refine H.turn hi (c' := .own a m c (xs.take (m * sz)) T sz) ?_ (fun b hb => .inl ?_) rfl rfl rfl (Nat.le_refl _) (fun _ _ _ => rfl)
  · cases a with
    | none =>
      obtain ⟨h1, h2, h3⟩ := h
      exact ⟨by omega, h2, by rw [h3]; simp⟩
    | some b =>
      obtain ⟨q1, q2, q3, rest, hw, q5⟩ := h
      refine ⟨?_, by omega, q3, xs.drop (m * sz) ++ rest, ?_, ?_⟩
      · rw [List.length_take, q1]; exact Nat.min_eq_left (Nat.mul_le_mul_right sz hm)
      · rw [← List.append_assoc, List.take_append_drop]; exact hw
      · rw [← List.append_assoc, List.take_append_drop]; exact q5
  · cases a with
    | none => cases hb
    | some b' => exact hb
section
variable {P : Program} {Q : Exit → Act → World → Prop} {n : Nat} {σ : Nat → Value} {w w0 : World} {K : Act → World → Prop}
  {ty : TypeId} {pos : String} {aft : Array Edge} {g : Option (Nat × Bool)} {d : Nat} {t : TypeId} {x y : Operand} {S : List Nat} {L : List Ch}
end
section
variable {P : Program} {Q : Exit → Act → World → Prop} {n : Nat} {σ : Nat → Value} {w w0 : World} {K : Act → World → Prop}
  {ty : TypeId} {pos : String} {aft : Array Edge} {g : Option (Nat × Bool)} {d : Nat} {t : TypeId} {S : List Nat} {L : List Ch}
end
end Go.Proofs.YtmiabahejnjhiaaGreatDoor
namespace Go.Proofs.YtmiabahejnjhiaaGreatDoor
open Go
section
variable {P : Program} {Q : Exit → Act → World → Prop} {n : Nat} {σ : Nat → Value} {w w0 : World} {K : Act → World → Prop}
  {ty : TypeId} {pos : String} {aft : Array Edge} {g : Option (Nat × Bool)} {d : Nat} {t tx : TypeId} {x y : Operand} {S : List Nat} {L : List Ch}
theorem r_mkfn {f : FuncId} {xs : Array Operand} {vs : List Value} (hx : evs n σ xs.toList = vs) : (execOp (ev n σ) ⟨some d, .makeFunc (.func f) #[] xs, ty, pos, aft, g⟩).run P w = .ok (.value (.func (.func f) #[] vs.toArray)) w := by
  have h : xs.map (ev n σ) = vs.toArray := by apply Array.ext'; rw [← hx, evs_eq]; simp
  simp [execOp, h, Instr.makeFunc]
theorem r_mx {k : IntKind} {a b c : Int} {ats : Array TypeId} (hx : ev n σ x = .int k a) (hy : ev n σ y = .int k b) (hc : (if a < b then b else a) = c) :
    (execOp (ev n σ) ⟨some d, .call ⟨.builtin .max, #[x, y], ats⟩, ty, pos, aft, g⟩).run P w = .ok (.value (.int k c)) w := by
  rw [← hc]; exact r_max hx hy
end
end Go.Proofs.YtmiabahejnjhiaaGreatDoor
