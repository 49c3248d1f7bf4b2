import Derived.Test.YtjmbbhnpfmblpaaK5
/- octet.own, octet.Put; sums of one text and of two, and what the hash is of. -/
namespace Go.Proofs.Ytjmbbhnpfmblpaa
open Go
set_option maxRecDepth 100000
/-- the hash of a text. -/
def sha256 (l : List UInt8) : List UInt8 := digest (absorb HS.init l)
theorem sha256_len (l : List UInt8) : (sha256 l).length = 32 := digest_length _
theorem sha1_ret (w0 : World) (a : Option Addr) (s : Sl) (hr : RdS w0 a [s.v]) (hs : s.ok w0) :
    Ret Try.prog 37 [.slice a 1 1] w0 fun v w' => v = .agg ((sha256 s.l).map V8).toArray ∧ Hp w0 w' [] [] := by
  have h := of_ret w0 a 1 1 [s] hr rfl (all1 hs) (by decide)
  rw [show cat [s] = s.l by simp [cat]] at h
  exact h
theorem sha2_ret (w0 : World) (a : Option Addr) (s u : Sl) (hr : RdS w0 a [s.v, u.v]) (hs : s.ok w0) (hu : u.ok w0) :
    Ret Try.prog 37 [.slice a 2 2] w0 fun v w' => v = .agg ((sha256 (s.l ++ u.l)).map V8).toArray ∧ Hp w0 w' [] [] := by
  have h := of_ret w0 a 2 2 [s, u] hr rfl (all2 hs hu) (by decide)
  rw [show cat [s, u] = s.l ++ u.l by simp [cat]] at h
  exact h
theorem sha256_eq (l : List UInt8) : sha256 l = digest (absorb HS.init l) := rfl
theorem shaN_ret (w0 : World) (pa : Option Addr) (len cap : Nat) (ps : List Sl) (hr : RdS w0 pa (ps.map Sl.v)) (hl : ps.length = len) (hok : ∀ p ∈ ps, p.ok w0) (hmx : len < 9223372036854775807) :
    Ret Try.prog 37 [.slice pa len cap] w0 fun v w' => v = .agg ((sha256 (cat ps)).map V8).toArray ∧ Hp w0 w' [] [] := of_ret w0 pa len cap ps hr hl hok hmx
/-- a hash of which it is known what it was told. -/
def hashX (x : List UInt8) : List Value := hashH (absorb HS.init x)
theorem hnew_ret (w0 : World) : Ret Try.prog 34 [] w0 fun v w' => ∃ b, v = .pointer (some ⟨b, 0, none⟩) ∧ Hp w0 w' [] [.blk b (hashX []) 52] :=
  (new_ret w0).mono fun v w' ⟨b, hv, H⟩ => ⟨b, hv, by rw [initH] at H; exact H⟩
theorem hwrite_ret {w0 w : World} {S : List Nat} {L : List Ch} {hb i : Nat} {x : List UInt8} {s : Sl} (H : Hp w0 w S L) (hi : L[i]? = some (.blk hb (hashX x) 52)) (hs : s.ok w) (hap : s.l ≠ [] → Apart s.a [hb]) :
    Ret Try.prog 35 [.pointer (some ⟨hb, 0, none⟩), s.v] w fun v w' => v = .tuple #[] ∧ Hp w0 w' S (L.set i (.blk hb (hashX (x ++ s.l)) 52)) := by
  have h := writeS H hi (absorb64 x) hs hap
  rw [← absorb_append] at h
  exact h
theorem hsum_ret (w0 : World) (hb : Nat) (x : List UInt8) (h : w0.heap[hb]? = some (.cells (hashX x).toArray 52 (0, 0))) :
    Ret Try.prog 38 [.pointer (some ⟨hb, 0, none⟩)] w0 fun v w' => v = .agg ((sha256 x).map V8).toArray ∧ Hp w0 w' [] [] := sum_ret w0 hb _ (absorb64 x) h
theorem hlen_ret (w0 : World) (hb : Nat) (x : List UInt8) (h : w0.heap[hb]? = some (.cells (hashX x).toArray 52 (0, 0))) :
    Ret Try.prog 39 [.pointer (some ⟨hb, 0, none⟩)] w0 fun v w' => v = V64 (UInt64.ofNat x.length) ∧ w' = w0 :=
  (len_ret w0 hb _ (absorb64 x) h).mono fun v w' ⟨hv, hw⟩ => ⟨by rw [hv, absorb_m, show HS.init.m = 0 from rfl, UInt64.zero_add], hw⟩
attribute [irreducible] sha256 hashX
/-- v in n bytes, the highest first. -/
def be (v : Nat) : Nat → List UInt8
  | 0 => []
  | i + 1 => UInt8.ofNat (v / 256 ^ i) :: be v i
theorem be_len (v : Nat) : ∀ n, (be v n).length = n
  | 0 => rfl
  | n + 1 => by simp [be, be_len v n]
theorem shr_be (v : UInt64) (k : Nat) (h : k < 8) : (v >>> UInt64.ofNat (8 * k)).toUInt8 = UInt8.ofNat (v.toNat / 256 ^ k) := by
  apply UInt8.toNat_inj.1
  have e : (UInt64.ofNat (8 * k)).toNat % 64 = 8 * k := by rw [UInt64.toNat_ofNat']; omega
  rw [UInt64.toNat_toUInt8, UInt64.toNat_shiftRight, e, Nat.shiftRight_eq_div_pow, UInt8.toNat_ofNat', Nat.pow_mul]
theorem shr_fit (v : UInt64) (k : Nat) (h : k < 8) (hv : v.toNat < 256 ^ k) : v >>> UInt64.ofNat (8 * k) = 0 := by
  apply UInt64.toNat_inj.1
  have e : (UInt64.ofNat (8 * k)).toNat % 64 = 8 * k := by rw [UInt64.toNat_ofNat']; omega
  rw [UInt64.toNat_shiftRight, e, Nat.shiftRight_eq_div_pow, Nat.pow_mul]
  exact Nat.div_eq_of_lt hv
theorem own_ret (w0 : World) (s : Sl) (hs : s.ok w0) (n : Nat) (hm : s.len + n ≤ 1099511627776) :
    Ret Try.prog 140 [s.v, VI (n : Int)] w0 fun v w' => ∃ a cap, v = .slice (hd a) s.len cap ∧ Hp w0 w' [] [.own a s.len cap (s.l.map V8) 5 1] := by
  refine ret_mk Try.func140 rfl Try.ntmps140 (by simp) ?_
  have H := Hp.refl w0 []
  repeat refine c_seq ?_
  refine c_region ?_
  refine l_op (o_val (r_as) ?_)
  first | refine l_end ?_ | refine l_nil ?_
  repeat refine c_seq ?_
  refine c_region ?_
  refine l_op (o_val (r_mv) ?_)
  refine l_op (o_val (r_lens el29 rfl) ?_)
  refine l_op (o_val (r_mv) ?_)
  refine l_op (o_val (r_bin (a := (s.len : Int)) (b := (n : Int)) rfl rfl (fun _ => b_add (by omega) (by omega))) ?_)
  refine l_op (o_makeB0 (s.len + n) H sl29 zc5 rfl rfl rfl (by omega) (by omega) (fun b1 w H hb1 => ?_))
  replace H : Hp w0 w [] ([.own (some b1) 0 (s.len + n) ((([] : List UInt8)).map V8) 5 1]) := H
  refine l_op (o_val (r_mv) ?_)
  refine l_op (o_appB (s := s) (l' := s.l) (len' := s.len) rfl (Nat.zero_add _) H (i := 0) rfl sl29 Try.underlying29 rfl rfl (hs.up H (fun _ => apart_nil _)) (by omega) (fun a2 c3 w H => ?_))
  replace H : Hp w0 w [] ([.own a2 s.len c3 ((s.l).map V8) 5 1]) := H
  refine l_op (o_val (r_as) ?_)
  first | refine l_end ?_ | refine l_nil ?_
  refine c_ret ?_
  try dsimp only [Exit.then, Exit.inBlock]
  refine e_ret1 (v := .slice (hd a2) s.len c3) Try.results140 rfl ?_
  refine ⟨_, rfl, ?_⟩
  exact ⟨_, _, rfl, H⟩
theorem put_ret (w0 : World) (s : Sl) (hs : s.ok w0) (u : UInt64) (n : Nat) (h1 : 1 ≤ n) (h8 : n ≤ 8) (hf : n = 8 ∨ u.toNat < 256 ^ n) (hm : s.len ≤ 1048576) :
    Ret Try.prog 109 [s.v, V64 u, VI (n : Int)] w0 fun v w' => ∃ a cap, v = .tuple #[.slice (hd a) (s.len + n) cap, VI 0] ∧ Hp w0 w' [] [.own a (s.len + n) cap ((s.l ++ be u.toNat n).map V8) 5 1] := by
  refine ret_mk Try.func109 rfl Try.ntmps109 (by simp) ?_
  have H := Hp.refl w0 []
  repeat refine c_seq ?_
  refine c_region ?_
  refine l_op (o_val (r_as) ?_)
  refine l_op (o_val (r_as) ?_)
  first | refine l_end ?_ | refine l_nil ?_
  repeat refine c_seq ?_
  refine c_block ?_
  repeat refine c_seq ?_
  refine c_region ?_
  refine l_op (o_val (r_mv) ?_)
  refine l_op (o_val (r_bin (a := (n : Int)) (b := 1) rfl rfl (fun _ => b_lssB false (decide_eq_false (by omega)))) ?_)
  refine l_op (o_val (r_mv) ?_)
  refine l_yes rfl rfl rfl (o_val (r_mv) ?_)
  refine l_yes rfl rfl rfl (o_val (r_bin (a := (n : Int)) (b := 8) rfl rfl (fun _ => b_gtrB false (decide_eq_false (by omega)))) ?_)
  refine l_op (o_val (r_pick rfl) ?_)
  refine l_op (o_val (r_as) ?_)
  first | refine l_end ?_ | refine l_nil ?_
  repeat refine c_seq ?_
  refine c_no rfl ?_
  repeat refine c_seq ?_
  refine c_region ?_
  refine l_op (o_val (r_mv) ?_)
  refine l_op (o_val (r_bin (a := (n : Int)) (b := 8) rfl rfl (fun _ => b_lss)) ?_)
  refine l_op (o_val (r_mv) ?_)
  by_cases hc1 : (n : Int) < 8
  · skip
    refine l_yes rfl rfl (by exact congrArg Value.bool (decide_eq_true hc1)) (o_val (r_mv) ?_)
    refine l_yes rfl rfl (by exact congrArg Value.bool (decide_eq_true hc1)) (o_val (r_mv) ?_)
    refine l_yes rfl rfl (by exact congrArg Value.bool (decide_eq_true hc1)) (o_val (r_conv (v := ((UInt64.ofNat n).toNat : Int)) Try.underlying3 Try.underlying118 rfl (w_u64_N n (by omega))) ?_)
    refine l_yes rfl rfl (by exact congrArg Value.bool (decide_eq_true hc1)) (o_val (r_bin (c64 8 (by decide)) rfl (fun _ => b_mul_u64N)) ?_)
    refine l_yes rfl rfl (by exact congrArg Value.bool (decide_eq_true hc1)) (o_val (r_shift rfl rfl (.inr rfl) (fun _ => b_shr_u64N (8 * n) (by omega))) ?_)
    refine l_yes rfl rfl (by exact congrArg Value.bool (decide_eq_true hc1)) (o_val (r_bin (a := ((u >>> UInt64.ofNat (8 * n)).toNat : Int)) (b := 0) rfl rfl (fun _ => b_neqB false (decide_eq_false (fun hne => hne (by rw [shr_fit u n (by omega) (by omega)]; rfl))))) ?_)
    refine l_op (o_val (r_pick (b := true) (congrArg Value.bool (decide_eq_true hc1))) ?_)
    refine l_op (o_val (r_as) ?_)
    first | refine l_end ?_ | refine l_nil ?_
    repeat refine c_seq ?_
    refine c_no rfl ?_
    refine c_skip ?_
    repeat refine c_seq ?_
    refine c_region ?_
    refine l_op (o_val (r_mv) ?_)
    refine l_op (o_val (r_mv) ?_)
    refine l_op (o_callR Try.func140 rfl rfl rfl (own_ret _ s (hs.up H (fun _ => apart_nil _)) n (by omega)) ?_)
    rintro _ w ⟨a2, c3, rfl, Hc⟩
    replace H : Hp w0 w [] ([.own a2 s.len c3 ((s.l).map V8) 5 1]) := H.call Hc
    clear Hc
    refine l_op (o_val (r_as) ?_)
    first | refine l_end ?_ | refine l_nil ?_
    repeat refine c_seq ?_
    refine c_region ?_
    refine l_op (o_val (r_mv) ?_)
    refine l_op (o_val (r_bin (a := (n : Int)) (b := 1) rfl rfl (fun _ => b_sub (by omega) (by omega))) ?_)
    refine l_op (o_val (r_as) ?_)
    first | refine l_end ?_ | refine l_nil ?_
    repeat refine c_seq ?_
    refine c_block ?_
    repeat refine c_seq ?_
    refine c_loop5 (fun (k : Nat) (l : List UInt8) (a : Option Nat) (ln : Nat) (c : Nat) => [(1, V64 u), (8, .slice (hd a) ln c), (9, VI ((k : Int) - 1))])
      (fun (k : Nat) (l : List UInt8) (a : Option Nat) (ln : Nat) (c : Nat) w => (k ≤ n ∧ l ++ be u.toNat k = s.l ++ be u.toNat n ∧ ln + k = s.len + n) ∧ Hp w0 w [] ([.own a ln c ((l).map V8) 5 1]))
      (fun (k : Nat) (l : List UInt8) (a : Option Nat) (ln : Nat) (c : Nat) => k) n s.l _ s.len _ ⟨rfl, rfl, rfl, trivial⟩ ⟨⟨Nat.le_refl _, rfl, rfl⟩, H⟩ ?_
    clear H
    rintro k l a ln c τ w ⟨⟨hk, hl, hln⟩, H⟩
    repeat refine c_seq ?_
    refine c_region ?_
    refine l_op (o_val (r_mv) ?_)
    refine l_op (o_val (r_bin (a := ((k : Int) - 1)) (b := 0) rfl rfl (fun _ => b_geq)) ?_)
    first | refine l_end ?_ | refine l_nil ?_
    by_cases hc4 : 0 ≤ ((k : Int) - 1)
    · skip
      repeat refine c_seq ?_
      refine c_yes (by exact congrArg Value.bool (decide_eq_true hc4)) ?_
      refine c_skip ?_
      repeat refine c_seq ?_
      refine c_block ?_
      have hk1 : k = (k - 1) + 1 := by omega
      rw [hk1, be] at hl
      repeat refine c_seq ?_
      refine c_region ?_
      refine l_op (o_val (r_mv) ?_)
      refine l_op (o_val (r_mv) ?_)
      refine l_op (o_val (r_mv) ?_)
      refine l_op (o_val (r_conv (v := ((UInt64.ofNat (k - 1)).toNat : Int)) Try.underlying3 Try.underlying118 rfl (w_u64_N (k - 1) (by omega))) ?_)
      refine l_op (o_val (r_bin (c64 8 (by decide)) rfl (fun _ => b_mul_u64N)) ?_)
      refine l_op (o_val (r_shift rfl rfl (.inr rfl) (fun _ => b_shr_u64N (8 * (k - 1)) (by omega))) ?_)
      refine l_op (o_val (r_conv Try.underlying35 Try.underlying5 rfl (w_u8_64 _)) ?_)
      refine l_op (o_bslB ([(u >>> UInt64.ofNat (8 * (k - 1))).toUInt8]) H sl29 zc5 rfl rfl (by decide) (fun b5 w H hb5 => ?_))
      replace H : Hp w0 w [] ([.own a ln c ((l).map V8) 5 1, .own (some b5) 1 1 (([(u >>> UInt64.ofNat (8 * (k - 1))).toUInt8]).map V8) 5 1]) := H
      refine l_op (o_appB (s := ⟨hd (some b5), 1, 1, [(u >>> UInt64.ofNat (8 * (k - 1))).toUInt8]⟩) (l' := l ++ [UInt8.ofNat (u.toNat / 256 ^ (k - 1))]) (len' := ln + 1) (by rw [← shr_be u (k - 1) (by omega)]) rfl H (i := 0) rfl sl29 Try.underlying29 rfl rfl (H.slOwn (i := 1) rfl) (by omega) (fun a6 c7 w H => ?_))
      replace H : Hp w0 w [] ([.own a6 (ln + 1) c7 ((l ++ [UInt8.ofNat (u.toNat / 256 ^ (k - 1))]).map V8) 5 1, .own (some b5) 1 1 (([(u >>> UInt64.ofNat (8 * (k - 1))).toUInt8]).map V8) 5 1]) := H
      refine l_op (o_val (r_as) ?_)
      first | refine l_end ?_ | refine l_nil ?_
      repeat refine c_seq ?_
      refine c_region ?_
      refine l_op (o_val (r_mv) ?_)
      refine l_op (o_val (r_bin (a := ((k : Int) - 1)) (b := 1) rfl rfl (fun _ => b_sub (by omega) (by omega))) ?_)
      refine l_op (o_val (r_as) ?_)
      first | refine l_end ?_ | refine l_nil ?_
      refine round_end (k - 1, l ++ [UInt8.ofNat (u.toNat / 256 ^ (k - 1))], a6, ln + 1, c7) ?_ ?_ ?_
      · exact ⟨rfl, rfl, show VI (((k : Int) - 1) - 1) = VI (((k - 1 : Nat) : Int) - 1) from congrArg VI (by omega), trivial⟩
      · refine ⟨?_, ?_⟩
        · try dsimp only
          exact ⟨by omega, by simpa using hl, by omega⟩
        · exact H.sub (.cons_cons _ (List.nil_sublist _))
      · show (k - 1 : Nat) < k; omega
    · skip
      repeat refine c_seq ?_
      refine c_no (by exact congrArg Value.bool (decide_eq_false hc4)) ?_
      refine c_exit ?_
      repeat refine c_seq ?_
      refine c_region ?_
      refine l_op (o_val (r_mv) ?_)
      refine l_op (o_val (r_as) ?_)
      refine l_op (o_val (r_as) ?_)
      first | refine l_end ?_ | refine l_nil ?_
      refine c_ret ?_
      try dsimp only [Exit.then, Exit.inBlock]
      refine e_retN (vs := [.slice (hd a) ln c, VI 0]) _ Try.results109 rfl (resT (v := .slice (hd a) ln c) rfl (resT (v := VI 0) rfl (resZ))) ?_
      refine ⟨_, rfl, ?_⟩
      have hk0 : k = 0 := by omega
      subst hk0
      simp only [be, List.append_nil, Nat.add_zero] at hl hln
      subst hl hln
      exact ⟨_, _, rfl, H⟩
  · skip
    refine l_no rfl rfl (by exact congrArg Value.bool (decide_eq_false hc1)) rfl ?_
    refine l_no rfl rfl (by exact congrArg Value.bool (decide_eq_false hc1)) rfl ?_
    refine l_no rfl rfl (by exact congrArg Value.bool (decide_eq_false hc1)) rfl ?_
    refine l_no rfl rfl (by exact congrArg Value.bool (decide_eq_false hc1)) rfl ?_
    refine l_no rfl rfl (by exact congrArg Value.bool (decide_eq_false hc1)) rfl ?_
    refine l_no rfl rfl (by exact congrArg Value.bool (decide_eq_false hc1)) rfl ?_
    refine l_op (o_val (r_pick (b := false) (congrArg Value.bool (decide_eq_false hc1))) ?_)
    refine l_op (o_val (r_as) ?_)
    first | refine l_end ?_ | refine l_nil ?_
    repeat refine c_seq ?_
    refine c_no rfl ?_
    refine c_skip ?_
    repeat refine c_seq ?_
    refine c_region ?_
    refine l_op (o_val (r_mv) ?_)
    refine l_op (o_val (r_mv) ?_)
    refine l_op (o_callR Try.func140 rfl rfl rfl (own_ret _ s (hs.up H (fun _ => apart_nil _)) n (by omega)) ?_)
    rintro _ w ⟨a8, c9, rfl, Hc⟩
    replace H : Hp w0 w [] ([.own a8 s.len c9 ((s.l).map V8) 5 1]) := H.call Hc
    clear Hc
    refine l_op (o_val (r_as) ?_)
    first | refine l_end ?_ | refine l_nil ?_
    repeat refine c_seq ?_
    refine c_region ?_
    refine l_op (o_val (r_mv) ?_)
    refine l_op (o_val (r_bin (a := (n : Int)) (b := 1) rfl rfl (fun _ => b_sub (by omega) (by omega))) ?_)
    refine l_op (o_val (r_as) ?_)
    first | refine l_end ?_ | refine l_nil ?_
    repeat refine c_seq ?_
    refine c_block ?_
    repeat refine c_seq ?_
    refine c_loop5 (fun (k : Nat) (l : List UInt8) (a : Option Nat) (ln : Nat) (c : Nat) => [(1, V64 u), (8, .slice (hd a) ln c), (9, VI ((k : Int) - 1))])
      (fun (k : Nat) (l : List UInt8) (a : Option Nat) (ln : Nat) (c : Nat) w => (k ≤ n ∧ l ++ be u.toNat k = s.l ++ be u.toNat n ∧ ln + k = s.len + n) ∧ Hp w0 w [] ([.own a ln c ((l).map V8) 5 1]))
      (fun (k : Nat) (l : List UInt8) (a : Option Nat) (ln : Nat) (c : Nat) => k) n s.l _ s.len _ ⟨rfl, rfl, rfl, trivial⟩ ⟨⟨Nat.le_refl _, rfl, rfl⟩, H⟩ ?_
    clear H
    rintro k l a ln c τ w ⟨⟨hk, hl, hln⟩, H⟩
    repeat refine c_seq ?_
    refine c_region ?_
    refine l_op (o_val (r_mv) ?_)
    refine l_op (o_val (r_bin (a := ((k : Int) - 1)) (b := 0) rfl rfl (fun _ => b_geq)) ?_)
    first | refine l_end ?_ | refine l_nil ?_
    by_cases hc10 : 0 ≤ ((k : Int) - 1)
    · skip
      repeat refine c_seq ?_
      refine c_yes (by exact congrArg Value.bool (decide_eq_true hc10)) ?_
      refine c_skip ?_
      repeat refine c_seq ?_
      refine c_block ?_
      have hk1 : k = (k - 1) + 1 := by omega
      rw [hk1, be] at hl
      repeat refine c_seq ?_
      refine c_region ?_
      refine l_op (o_val (r_mv) ?_)
      refine l_op (o_val (r_mv) ?_)
      refine l_op (o_val (r_mv) ?_)
      refine l_op (o_val (r_conv (v := ((UInt64.ofNat (k - 1)).toNat : Int)) Try.underlying3 Try.underlying118 rfl (w_u64_N (k - 1) (by omega))) ?_)
      refine l_op (o_val (r_bin (c64 8 (by decide)) rfl (fun _ => b_mul_u64N)) ?_)
      refine l_op (o_val (r_shift rfl rfl (.inr rfl) (fun _ => b_shr_u64N (8 * (k - 1)) (by omega))) ?_)
      refine l_op (o_val (r_conv Try.underlying35 Try.underlying5 rfl (w_u8_64 _)) ?_)
      refine l_op (o_bslB ([(u >>> UInt64.ofNat (8 * (k - 1))).toUInt8]) H sl29 zc5 rfl rfl (by decide) (fun b11 w H hb11 => ?_))
      replace H : Hp w0 w [] ([.own a ln c ((l).map V8) 5 1, .own (some b11) 1 1 (([(u >>> UInt64.ofNat (8 * (k - 1))).toUInt8]).map V8) 5 1]) := H
      refine l_op (o_appB (s := ⟨hd (some b11), 1, 1, [(u >>> UInt64.ofNat (8 * (k - 1))).toUInt8]⟩) (l' := l ++ [UInt8.ofNat (u.toNat / 256 ^ (k - 1))]) (len' := ln + 1) (by rw [← shr_be u (k - 1) (by omega)]) rfl H (i := 0) rfl sl29 Try.underlying29 rfl rfl (H.slOwn (i := 1) rfl) (by omega) (fun a12 c13 w H => ?_))
      replace H : Hp w0 w [] ([.own a12 (ln + 1) c13 ((l ++ [UInt8.ofNat (u.toNat / 256 ^ (k - 1))]).map V8) 5 1, .own (some b11) 1 1 (([(u >>> UInt64.ofNat (8 * (k - 1))).toUInt8]).map V8) 5 1]) := H
      refine l_op (o_val (r_as) ?_)
      first | refine l_end ?_ | refine l_nil ?_
      repeat refine c_seq ?_
      refine c_region ?_
      refine l_op (o_val (r_mv) ?_)
      refine l_op (o_val (r_bin (a := ((k : Int) - 1)) (b := 1) rfl rfl (fun _ => b_sub (by omega) (by omega))) ?_)
      refine l_op (o_val (r_as) ?_)
      first | refine l_end ?_ | refine l_nil ?_
      refine round_end (k - 1, l ++ [UInt8.ofNat (u.toNat / 256 ^ (k - 1))], a12, ln + 1, c13) ?_ ?_ ?_
      · exact ⟨rfl, rfl, show VI (((k : Int) - 1) - 1) = VI (((k - 1 : Nat) : Int) - 1) from congrArg VI (by omega), trivial⟩
      · refine ⟨?_, ?_⟩
        · try dsimp only
          exact ⟨by omega, by simpa using hl, by omega⟩
        · exact H.sub (.cons_cons _ (List.nil_sublist _))
      · show (k - 1 : Nat) < k; omega
    · skip
      repeat refine c_seq ?_
      refine c_no (by exact congrArg Value.bool (decide_eq_false hc10)) ?_
      refine c_exit ?_
      repeat refine c_seq ?_
      refine c_region ?_
      refine l_op (o_val (r_mv) ?_)
      refine l_op (o_val (r_as) ?_)
      refine l_op (o_val (r_as) ?_)
      first | refine l_end ?_ | refine l_nil ?_
      refine c_ret ?_
      try dsimp only [Exit.then, Exit.inBlock]
      refine e_retN (vs := [.slice (hd a) ln c, VI 0]) _ Try.results109 rfl (resT (v := .slice (hd a) ln c) rfl (resT (v := VI 0) rfl (resZ))) ?_
      refine ⟨_, rfl, ?_⟩
      have hk0 : k = 0 := by omega
      subst hk0
      simp only [be, List.append_nil, Nat.add_zero] at hl hln
      subst hl hln
      exact ⟨_, _, rfl, H⟩
end Go.Proofs.Ytjmbbhnpfmblpaa
