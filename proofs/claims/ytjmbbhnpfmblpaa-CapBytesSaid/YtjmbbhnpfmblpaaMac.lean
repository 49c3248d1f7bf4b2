import Derived.Test.YtjmbbhnpfmblpaaOct
/- mac: Equal, padded, Raw, Of, Derive. -/
namespace Go.Proofs.Ytjmbbhnpfmblpaa
open Go
set_option maxRecDepth 100000
theorem or_xor_zero (x a b : UInt8) : x ||| (a ^^^ b) = 0 ↔ x = 0 ∧ a = b := by
  constructor
  · intro h
    have h1 := congrArg UInt8.toBitVec h
    simp only [UInt8.toBitVec_or, UInt8.toBitVec_xor] at h1
    have hx : x.toBitVec = 0#8 := by
      apply BitVec.eq_of_getElem_eq
      intro i hi
      have := congrArg (·[i]) h1
      simp at this
      simp [this.1]
    have hab : a.toBitVec = b.toBitVec := by
      apply BitVec.eq_of_getElem_eq
      intro i hi
      have := congrArg (·[i]) h1
      simp at this
      exact this.2
    exact ⟨UInt8.toBitVec_inj.1 hx, UInt8.toBitVec_inj.1 hab⟩
  · rintro ⟨rfl, rfl⟩; simp
theorem take_succ_eq {a b : List UInt8} (i : Nat) (ha : i < a.length) (hb : i < b.length) : a.take (i + 1) = b.take (i + 1) ↔ a.take i = b.take i ∧ a.getD i 0 = b.getD i 0 := by
  have e : ∀ l : List UInt8, i < l.length → l.take (i + 1) = l.take i ++ [l.getD i 0] := fun l hl => by
    rw [List.take_add_one, List.getD_eq_getElem?_getD]; simp [hl]
  rw [e a ha, e b hb]
  constructor
  · intro h
    have := List.append_inj h (by simp; omega)
    exact ⟨this.1, by simpa using this.2⟩
  · rintro ⟨h1, h2⟩; rw [h1, h2]
theorem equal_ret (w0 : World) (s u : Sl) (hs : s.ok w0) (hu : u.ok w0) :
    Ret Try.prog 48 [s.v, u.v] w0 fun v w' => v = .bool (decide (s.l = u.l)) ∧ Hp w0 w' [] [] := by
  refine ret_mk Try.func48 rfl Try.ntmps48 (by simp) ?_
  have H := Hp.refl w0 []
  have hsl := hs.ln
  have hul := hu.ln
  have hmx := hs.mx
  repeat refine c_seq ?_
  refine c_region ?_
  refine l_op (o_val (r_as) ?_)
  first | refine l_end ?_ | refine l_nil ?_
  repeat refine c_seq ?_
  refine c_region ?_
  refine l_op (o_val (r_mv) ?_)
  refine l_op (o_val (r_lens el29 rfl) ?_)
  refine l_op (o_val (r_mv) ?_)
  refine l_op (o_val (r_lens el29 rfl) ?_)
  refine l_op (o_val (r_bin (a := (s.len : Int)) (b := (u.len : Int)) rfl rfl (fun _ => b_neq)) ?_)
  first | refine l_end ?_ | refine l_nil ?_
  by_cases hc1 : (s.len : Int) ≠ (u.len : Int)
  · skip
    repeat refine c_seq ?_
    refine c_yes (by exact congrArg Value.bool (decide_eq_true hc1)) ?_
    repeat refine c_seq ?_
    refine c_region ?_
    refine l_op (o_val (r_as) ?_)
    first | refine l_end ?_ | refine l_nil ?_
    refine c_ret ?_
    try dsimp only [Exit.then, Exit.inBlock]
    refine e_ret1 (v := .bool false) Try.results48 rfl ?_
    refine ⟨_, rfl, ?_⟩
    refine ⟨?_, H⟩
    have e : ¬ s.l = u.l := fun e => by rw [e] at hsl; omega
    rw [decide_eq_false e]
  · skip
    repeat refine c_seq ?_
    refine c_no (by exact congrArg Value.bool (decide_eq_false hc1)) ?_
    refine c_skip ?_
    repeat refine c_seq ?_
    refine c_region ?_
    refine l_op (o_val (r_asV (c8 0 (by decide))) ?_)
    first | refine l_end ?_ | refine l_nil ?_
    repeat refine c_seq ?_
    refine c_region ?_
    refine l_op (o_val (r_mv) ?_)
    refine l_op (o_val (r_lens el29 rfl) ?_)
    refine l_op (o_val (r_mv) ?_)
    first | refine l_end ?_ | refine l_nil ?_
    repeat refine c_seq ?_
    refine c_block ?_
    repeat refine c_seq ?_
    refine c_loop2 (fun (i : Nat) (x : UInt8) => [(0, s.v), (1, u.v), (5, V8 x), (13, VI (s.len : Int)), (14, VI (i : Int))])
      (fun (i : Nat) (x : UInt8) w => (i ≤ s.len ∧ (x = 0 ↔ s.l.take i = u.l.take i)) ∧ Hp w0 w [] ([]))
      (fun (i : Nat) (x : UInt8) => s.len - i) 0 (UInt8.ofNat 0) ⟨rfl, rfl, rfl, rfl, rfl, trivial⟩ ⟨⟨Nat.zero_le _, by simp⟩, H⟩ ?_
    clear H
    rintro i x τ w ⟨⟨hi, hx⟩, H⟩
    repeat refine c_seq ?_
    refine c_region ?_
    refine l_op (o_val (r_bin (a := (i : Int)) (b := (s.len : Int)) rfl rfl (fun _ => b_lss)) ?_)
    first | refine l_end ?_ | refine l_nil ?_
    by_cases hc2 : (i : Int) < (s.len : Int)
    · skip
      repeat refine c_seq ?_
      refine c_yes (by exact congrArg Value.bool (decide_eq_true hc2)) ?_
      refine c_skip ?_
      repeat refine c_seq ?_
      refine c_block ?_
      repeat refine c_seq ?_
      refine c_region ?_
      refine l_op (o_val (r_mv) ?_)
      refine l_op (o_val (r_as) ?_)
      first | refine l_end ?_ | refine l_nil ?_
      repeat refine c_seq ?_
      refine c_still mixed (by kernel_rfl) ?_
      replace H := H.drew
      refine s_op (r_mv) ?_
      refine s_op (r_mv) ?_
      refine s_op (r_mv) ?_
      have ah5 := ((hs.up H (fun _ => apart_nil _))).addr (by (try simp only [Sl.cut]); omega)
      obtain ⟨ab3, ao4, ah5⟩ := ah5
      refine s_op (r_isN i rfl rfl el29 ah5 (by omega) (by (try simp only [Sl.cut]); omega)) ?_
      refine s_op (r_ldB (s := s) (k := i) (hs.up H (fun _ => apart_nil _)) ah5 rfl ct5 (by (try simp only [Sl.cut]); omega)) ?_
      refine s_op (r_mv) ?_
      refine s_op (r_mv) ?_
      have ah8 := ((hu.up H (fun _ => apart_nil _))).addr (by (try simp only [Sl.cut]); omega)
      obtain ⟨ab6, ao7, ah8⟩ := ah8
      refine s_op (r_isN i rfl rfl el29 ah8 (by omega) (by (try simp only [Sl.cut]); omega)) ?_
      refine s_op (r_ldB (s := u) (k := i) (hu.up H (fun _ => apart_nil _)) ah8 rfl ct5 (by (try simp only [Sl.cut]); omega)) ?_
      refine s_op (r_bin rfl rfl (fun _ => b_xor_u8)) ?_
      refine s_op (r_bin rfl rfl (fun _ => b_or_u8)) ?_
      refine s_op (r_as) ?_
      refine s_nil ?_
      repeat refine c_seq ?_
      refine c_region ?_
      refine l_op (o_val (r_bin (a := (i : Int)) (b := 1) rfl rfl (fun _ => b_add (by omega) (by omega))) ?_)
      refine l_op (o_val (r_mv) ?_)
      first | refine l_end ?_ | refine l_nil ?_
      refine round_end (i + 1, x ||| (((s.l).getD i 0) ^^^ ((u.l).getD i 0))) ?_ ?_ ?_
      · exact ⟨rfl, rfl, show V8 (x ||| (((s.l).getD i 0) ^^^ ((u.l).getD i 0))) = V8 (x ||| (((s.l).getD i 0) ^^^ ((u.l).getD i 0)) : UInt8) from congrArg V8 rfl, rfl, show VI ((i : Int) + 1) = VI ((i + 1 : Nat) : Int) from congrArg VI (by omega), trivial⟩
      · refine ⟨?_, ?_⟩
        · try dsimp only
          exact ⟨by omega, by rw [or_xor_zero, hx, take_succ_eq i (by omega) (by omega)]⟩
        · exact H
      · show s.len - (i + 1 : Nat) < s.len - i; omega
    · skip
      repeat refine c_seq ?_
      refine c_no (by exact congrArg Value.bool (decide_eq_false hc2)) ?_
      refine c_exit ?_
      repeat refine c_seq ?_
      refine c_region ?_
      refine l_op (o_val (r_mv) ?_)
      refine l_op (o_val (r_bin (a := (x.toNat : Int)) (b := 0) rfl rfl (fun _ => b_eql)) ?_)
      refine l_op (o_val (r_as) ?_)
      first | refine l_end ?_ | refine l_nil ?_
      refine c_ret ?_
      try dsimp only [Exit.then, Exit.inBlock]
      refine e_ret1 (v := .bool (decide ((x.toNat : Int) = 0))) Try.results48 rfl ?_
      refine ⟨_, rfl, ?_⟩
      refine ⟨?_, H⟩
      congr 1
      have hi2 : i = s.len := by omega
      subst hi2
      rw [List.take_of_length_le (by omega), List.take_of_length_le (by omega)] at hx
      rw [decide_eq_decide, ← hx, ← UInt8.toNat_inj]
      have z : (0 : UInt8).toNat = 0 := rfl
      rw [z]
      omega
/-- a key's bytes, and zeros to a block. -/
def padk (k : List UInt8) : List UInt8 := k ++ List.replicate (64 - k.length) 0
def hkey (k : List UInt8) : List UInt8 := if 64 < k.length then sha256 k else k
def kpad (k : List UInt8) (m : UInt8) : List UInt8 := (padk k).map (· ^^^ m)
def hmac (k b : List UInt8) : List UInt8 := sha256 (kpad (hkey k) 92 ++ sha256 (kpad (hkey k) 54 ++ b))
theorem hmac_len (k b : List UInt8) : (hmac k b).length = 32 := by simp [hmac, sha256_len]
theorem padk_len (k : List UInt8) (h : k.length ≤ 64) : (padk k).length = 64 := by simp [padk]; omega
theorem hkey_len (k : List UInt8) : (hkey k).length ≤ 64 := by
  unfold hkey; split
  · simp [sha256_len]
  · omega
theorem copy_pad (k : List UInt8) (n : Nat) (hn : k.length = n) (h : n ≤ 64) : k.take (min n 64) ++ (List.replicate 64 (0 : UInt8)).drop (min n 64) = padk k := by
  rw [Nat.min_eq_left h, List.take_of_length_le (by omega), List.drop_replicate, padk, hn]
def xpart (l : List UInt8) (m : UInt8) (i : Nat) : List UInt8 := (l.take i).map (· ^^^ m) ++ l.drop i
theorem xpart_len (l : List UInt8) (m : UInt8) (i : Nat) (h : i ≤ l.length) : (xpart l m i).length = l.length := by simp [xpart]; omega
theorem xpart_hd (l : List UInt8) (m : UInt8) (i : Nat) (h : i ≤ l.length) : ((l.take i).map (· ^^^ m)).length = i := by simp; omega
theorem xpart_get (l : List UInt8) (m : UInt8) (i : Nat) (h : i < l.length) : (xpart l m i).getD i 0 = l.getD i 0 := by
  have hl := xpart_hd l m i (by omega)
  rw [xpart, List.getD_eq_getElem?_getD, List.getD_eq_getElem?_getD, List.getElem?_append_right (by omega), hl, Nat.sub_self, List.getElem?_drop, Nat.add_zero]
theorem xpart_set (l : List UInt8) (m : UInt8) (i : Nat) (h : i < l.length) : (xpart l m i).set i ((xpart l m i).getD i 0 ^^^ m) = xpart l m (i + 1) := by
  have hl := xpart_hd l m i (by omega)
  rw [xpart_get l m i h]
  unfold xpart
  rw [List.set_append_right _ _ (by omega), hl, Nat.sub_self, List.drop_eq_getElem_cons h, List.set_cons_zero, List.take_add_one, List.map_append, List.append_assoc]
  simp [List.getD_eq_getElem?_getD, h]
theorem padded_ret (w0 : World) (s : Sl) (hs : s.ok w0) (m : UInt8) :
    Ret Try.prog 108 [s.v, V8 m] w0 fun v w' => ∃ b, v = .slice (hd (some b)) 64 64 ∧ Hp w0 w' [] [.own (some b) 64 64 ((kpad (hkey s.l) m).map V8) 5 1] := by
  refine ret_mk Try.func108 rfl Try.ntmps108 (by simp) ?_
  have H := Hp.refl w0 []
  have hsl := hs.ln
  have hmx := hs.mx
  repeat refine c_seq ?_
  refine c_region ?_
  refine l_op (o_val (r_as) ?_)
  first | refine l_end ?_ | refine l_nil ?_
  repeat refine c_seq ?_
  refine c_region ?_
  refine l_op (o_val (r_mv) ?_)
  refine l_op (o_val (r_lens el29 rfl) ?_)
  refine l_op (o_val (r_bin (a := (s.len : Int)) (b := 64) rfl rfl (fun _ => b_gtr)) ?_)
  first | refine l_end ?_ | refine l_nil ?_
  by_cases hc1 : 64 < (s.len : Int)
  · skip
    repeat refine c_seq ?_
    refine c_yes (by exact congrArg Value.bool (decide_eq_true hc1)) ?_
    repeat refine c_seq ?_
    refine c_region ?_
    refine l_op (o_val (r_mv) ?_)
    refine l_op (o_bslV ([s.v]) H sl22 zc29 rfl (by simp [Value.oneCell', Sl.v]) rfl (by decide) (fun b2 w H hb2 => ?_))
    replace H : Hp w0 w [] ([.own (some b2) 1 1 ([s.v]) 29 1]) := H
    refine l_op (o_callR Try.func37 rfl rfl rfl (sha1_ret _ _ s (H.own (i := 0) rfl) (hs.up H (fun _ => apart_nil _))) ?_)
    rintro _ w ⟨rfl, Hc⟩
    replace H : Hp w0 w [] ([.own (some b2) 1 1 ([s.v]) 29 1]) := H.call Hc
    clear Hc
    refine l_op (o_alloc H zc31 (fun b3 w H hb3 => ?_))
    replace H : Hp w0 w [] ([.own (some b2) 1 1 ([s.v]) 29 1, .blk b3 ((List.replicate 32 (0 : UInt8)).map V8) 31]) := H
    refine l_op (o_stA (l' := sha256 (s.l)) H (i := 1) rfl rfl rfl cs31 (show (List.replicate 32 (0 : UInt8)).length = 32 from (List.length_replicate ..)) (show (sha256 (s.l)).length = 32 from sha256_len _) (fun w H => ?_))
    replace H : Hp w0 w [] ([.own (some b2) 1 1 ([s.v]) 29 1, .blk b3 ((sha256 (s.l)).map V8) 31]) := H
    first | refine l_end ?_ | refine l_nil ?_
    repeat refine c_seq ?_
    refine c_region ?_
    refine l_op (o_val (r_slA (h := 32) (m := 32) (lv := none) (hv := none) (mv := none) rfl ar31 rfl rfl rfl (fun w => sbn w)) ?_)
    refine l_op (o_val (r_as) ?_)
    first | refine l_end ?_ | refine l_nil ?_
    repeat refine c_seq ?_
    refine c_region ?_
    refine l_op (o_makeB 64 H sl29 zc5 rfl rfl (by omega) (by omega) (by omega) (fun b4 w H hb4 => ?_))
    replace H : Hp w0 w [] ([.own (some b2) 1 1 ([s.v]) 29 1, .blk b3 ((sha256 (s.l)).map V8) 31, .own (some b4) 64 64 ((List.replicate 64 (0 : UInt8)).map V8) 5 1]) := H
    refine l_op (o_val (r_as) ?_)
    first | refine l_end ?_ | refine l_nil ?_
    repeat refine c_seq ?_
    refine c_region ?_
    refine l_op (o_val (r_mv) ?_)
    refine l_op (o_val (r_mv) ?_)
    refine l_op (o_copyB (s := (⟨some ⟨b3, 0, none⟩, 32, 32, sha256 (s.l)⟩ : Sl)) H (i := 2) rfl Try.underlying29 Try.underlying29 cs5 rfl rfl (H.slBlkA (i := 1) rfl 32 (show (sha256 (s.l)).length = 32 from sha256_len _) (by decide)) (by omega) (fun w H => ?_))
    replace H : Hp w0 w [] ([.own (some b2) 1 1 ([s.v]) 29 1, .blk b3 ((sha256 (s.l)).map V8) 31, .own (some b4) 64 64 (((sha256 (s.l)).take (min 32 64) ++ (List.replicate 64 (0 : UInt8)).drop (min 32 64)).map V8) 5 1]) := H
    first | refine l_end ?_ | refine l_nil ?_
    have hkl : (sha256 (s.l)).length ≤ 64 := by first | omega | simp [sha256_len]
    have en : (sha256 (s.l)).take (min 32 64) ++ (List.replicate 64 (0 : UInt8)).drop (min 32 64) = padk (sha256 (s.l)) := copy_pad _ _ (by first | omega | simp [sha256_len]) (by omega)
    rw [en] at H; clear en
    replace H : Hp w0 w [] ([.own (some b2) 1 1 ([s.v]) 29 1, .blk b3 ((sha256 (s.l)).map V8) 31, .own (some b4) 64 64 ((padk (sha256 (s.l))).map V8) 5 1]) := H
    repeat refine c_seq ?_
    refine c_region ?_
    refine l_op (o_val (r_mv) ?_)
    refine l_op (o_val (r_lens el29 rfl) ?_)
    refine l_op (o_val (r_mv) ?_)
    first | refine l_end ?_ | refine l_nil ?_
    repeat refine c_seq ?_
    refine c_block ?_
    repeat refine c_seq ?_
    refine c_loop (fun (i : Nat) => [(1, V8 m), (6, .slice (hd (some b4)) 64 64), (20, VI 64), (21, VI (i : Int))])
      (fun (i : Nat) w => (i ≤ 64) ∧ Hp w0 w [] ([.own (some b2) 1 1 ([s.v]) 29 1, .blk b3 ((sha256 (s.l)).map V8) 31, .own (some b4) 64 64 ((xpart (padk (sha256 (s.l))) m i).map V8) 5 1]))
      (fun (i : Nat) => 64 - i) 0 ⟨rfl, rfl, rfl, rfl, trivial⟩ ⟨by omega, H⟩ ?_
    clear H
    rintro i τ w ⟨hi, H⟩
    have hpl := padk_len (sha256 (s.l)) hkl
    have hxl := xpart_len (padk (sha256 (s.l))) m i (by omega)
    repeat refine c_seq ?_
    refine c_region ?_
    refine l_op (o_val (r_bin (a := (i : Int)) (b := 64) rfl rfl (fun _ => b_lss)) ?_)
    first | refine l_end ?_ | refine l_nil ?_
    by_cases hc5 : (i : Int) < 64
    · skip
      repeat refine c_seq ?_
      refine c_yes (by exact congrArg Value.bool (decide_eq_true hc5)) ?_
      refine c_skip ?_
      repeat refine c_seq ?_
      refine c_block ?_
      repeat refine c_seq ?_
      refine c_region ?_
      refine l_op (o_val (r_mv) ?_)
      refine l_op (o_val (r_as) ?_)
      first | refine l_end ?_ | refine l_nil ?_
      repeat refine c_seq ?_
      refine c_region ?_
      refine l_op (o_val (r_mv) ?_)
      refine l_op (o_val (r_mv) ?_)
      obtain ⟨ab6, ah7⟩ := H.ownAddr (i := 2) rfl (by omega)
      refine l_op (o_val (r_isN i rfl rfl el29 ah7 (by omega) (by (try simp only [Sl.cut]); omega)) ?_)
      refine l_op (o_val (r_ldB (s := ⟨hd (some b4), 64, 64, xpart (padk (sha256 (s.l))) m i⟩) (k := i) (H.slOwn (i := 2) rfl) ah7 rfl ct5 (by (try simp only [Sl.cut]); omega)) ?_)
      refine l_op (o_val (r_mv) ?_)
      refine l_op (o_val (r_bin rfl rfl (fun _ => b_xor_u8)) ?_)
      refine l_op (o_val (r_isN i rfl rfl el29 ah7 (by omega) (by (try simp only [Sl.cut]); omega)) ?_)
      refine l_op (o_stB (u := ((xpart (padk (sha256 (s.l))) m i).getD i 0) ^^^ m) (k := i) H (i := 2) rfl rfl ah7 rfl cs5 (by omega) (fun w H => ?_))
      replace H : Hp w0 w [] ([.own (some b2) 1 1 ([s.v]) 29 1, .blk b3 ((sha256 (s.l)).map V8) 31, .own (some b4) 64 64 (((xpart (padk (sha256 (s.l))) m i).set i (((xpart (padk (sha256 (s.l))) m i).getD i 0) ^^^ m)).map V8) 5 1]) := H
      first | refine l_end ?_ | refine l_nil ?_
      repeat refine c_seq ?_
      refine c_region ?_
      refine l_op (o_val (r_bin (a := (i : Int)) (b := 1) rfl rfl (fun _ => b_add (by omega) (by omega))) ?_)
      refine l_op (o_val (r_mv) ?_)
      first | refine l_end ?_ | refine l_nil ?_
      have en := xpart_set (padk (sha256 (s.l))) m i (by omega)
      rw [en] at H; clear en
      refine round_end (i + 1) ?_ ?_ ?_
      · exact ⟨rfl, rfl, rfl, show VI ((i : Int) + 1) = VI ((i + 1 : Nat) : Int) from congrArg VI (by omega), trivial⟩
      · refine ⟨?_, ?_⟩
        · try dsimp only
          exact by omega
        · exact H
      · show 64 - (i + 1 : Nat) < 64 - i; omega
    · skip
      repeat refine c_seq ?_
      refine c_no (by exact congrArg Value.bool (decide_eq_false hc5)) ?_
      refine c_exit ?_
      repeat refine c_seq ?_
      refine c_region ?_
      refine l_op (o_val (r_mv) ?_)
      refine l_op (o_val (r_as) ?_)
      first | refine l_end ?_ | refine l_nil ?_
      refine c_ret ?_
      try dsimp only [Exit.then, Exit.inBlock]
      refine e_ret1 (v := .slice (hd (some b4)) 64 64) Try.results108 rfl ?_
      refine ⟨_, rfl, ?_⟩
      have hi2 : i = 64 := by omega
      subst hi2
      have e2 : xpart (padk (sha256 (s.l))) m 64 = kpad (hkey s.l) m := by
        rw [xpart, List.take_of_length_le (by omega), List.drop_of_length_le (by omega), List.append_nil, hkey, if_pos (by omega), kpad]
      rw [e2] at H
      exact ⟨_, rfl, H.sub (.cons _ (.cons _ (.cons_cons _ (List.nil_sublist _))))⟩
  · skip
    repeat refine c_seq ?_
    refine c_no (by exact congrArg Value.bool (decide_eq_false hc1)) ?_
    refine c_skip ?_
    repeat refine c_seq ?_
    refine c_region ?_
    refine l_op (o_makeB 64 H sl29 zc5 rfl rfl (by omega) (by omega) (by omega) (fun b8 w H hb8 => ?_))
    replace H : Hp w0 w [] ([.own (some b8) 64 64 ((List.replicate 64 (0 : UInt8)).map V8) 5 1]) := H
    refine l_op (o_val (r_as) ?_)
    first | refine l_end ?_ | refine l_nil ?_
    repeat refine c_seq ?_
    refine c_region ?_
    refine l_op (o_val (r_mv) ?_)
    refine l_op (o_val (r_mv) ?_)
    refine l_op (o_copyB (s := s) H (i := 0) rfl Try.underlying29 Try.underlying29 cs5 rfl rfl (hs.up H (fun _ => apart_nil _)) (by omega) (fun w H => ?_))
    replace H : Hp w0 w [] ([.own (some b8) 64 64 (((s.l).take (min s.len 64) ++ (List.replicate 64 (0 : UInt8)).drop (min s.len 64)).map V8) 5 1]) := H
    first | refine l_end ?_ | refine l_nil ?_
    have hkl : (s.l).length ≤ 64 := by first | omega | simp [sha256_len]
    have en : (s.l).take (min s.len 64) ++ (List.replicate 64 (0 : UInt8)).drop (min s.len 64) = padk (s.l) := copy_pad _ _ (by first | omega | simp [sha256_len]) (by omega)
    rw [en] at H; clear en
    replace H : Hp w0 w [] ([.own (some b8) 64 64 ((padk (s.l)).map V8) 5 1]) := H
    repeat refine c_seq ?_
    refine c_region ?_
    refine l_op (o_val (r_mv) ?_)
    refine l_op (o_val (r_lens el29 rfl) ?_)
    refine l_op (o_val (r_mv) ?_)
    first | refine l_end ?_ | refine l_nil ?_
    repeat refine c_seq ?_
    refine c_block ?_
    repeat refine c_seq ?_
    refine c_loop (fun (i : Nat) => [(1, V8 m), (6, .slice (hd (some b8)) 64 64), (20, VI 64), (21, VI (i : Int))])
      (fun (i : Nat) w => (i ≤ 64) ∧ Hp w0 w [] ([.own (some b8) 64 64 ((xpart (padk (s.l)) m i).map V8) 5 1]))
      (fun (i : Nat) => 64 - i) 0 ⟨rfl, rfl, rfl, rfl, trivial⟩ ⟨by omega, H⟩ ?_
    clear H
    rintro i τ w ⟨hi, H⟩
    have hpl := padk_len (s.l) hkl
    have hxl := xpart_len (padk (s.l)) m i (by omega)
    repeat refine c_seq ?_
    refine c_region ?_
    refine l_op (o_val (r_bin (a := (i : Int)) (b := 64) rfl rfl (fun _ => b_lss)) ?_)
    first | refine l_end ?_ | refine l_nil ?_
    by_cases hc9 : (i : Int) < 64
    · skip
      repeat refine c_seq ?_
      refine c_yes (by exact congrArg Value.bool (decide_eq_true hc9)) ?_
      refine c_skip ?_
      repeat refine c_seq ?_
      refine c_block ?_
      repeat refine c_seq ?_
      refine c_region ?_
      refine l_op (o_val (r_mv) ?_)
      refine l_op (o_val (r_as) ?_)
      first | refine l_end ?_ | refine l_nil ?_
      repeat refine c_seq ?_
      refine c_region ?_
      refine l_op (o_val (r_mv) ?_)
      refine l_op (o_val (r_mv) ?_)
      obtain ⟨ab10, ah11⟩ := H.ownAddr (i := 0) rfl (by omega)
      refine l_op (o_val (r_isN i rfl rfl el29 ah11 (by omega) (by (try simp only [Sl.cut]); omega)) ?_)
      refine l_op (o_val (r_ldB (s := ⟨hd (some b8), 64, 64, xpart (padk (s.l)) m i⟩) (k := i) (H.slOwn (i := 0) rfl) ah11 rfl ct5 (by (try simp only [Sl.cut]); omega)) ?_)
      refine l_op (o_val (r_mv) ?_)
      refine l_op (o_val (r_bin rfl rfl (fun _ => b_xor_u8)) ?_)
      refine l_op (o_val (r_isN i rfl rfl el29 ah11 (by omega) (by (try simp only [Sl.cut]); omega)) ?_)
      refine l_op (o_stB (u := ((xpart (padk (s.l)) m i).getD i 0) ^^^ m) (k := i) H (i := 0) rfl rfl ah11 rfl cs5 (by omega) (fun w H => ?_))
      replace H : Hp w0 w [] ([.own (some b8) 64 64 (((xpart (padk (s.l)) m i).set i (((xpart (padk (s.l)) m i).getD i 0) ^^^ m)).map V8) 5 1]) := H
      first | refine l_end ?_ | refine l_nil ?_
      repeat refine c_seq ?_
      refine c_region ?_
      refine l_op (o_val (r_bin (a := (i : Int)) (b := 1) rfl rfl (fun _ => b_add (by omega) (by omega))) ?_)
      refine l_op (o_val (r_mv) ?_)
      first | refine l_end ?_ | refine l_nil ?_
      have en := xpart_set (padk (s.l)) m i (by omega)
      rw [en] at H; clear en
      refine round_end (i + 1) ?_ ?_ ?_
      · exact ⟨rfl, rfl, rfl, show VI ((i : Int) + 1) = VI ((i + 1 : Nat) : Int) from congrArg VI (by omega), trivial⟩
      · refine ⟨?_, ?_⟩
        · try dsimp only
          exact by omega
        · exact H
      · show 64 - (i + 1 : Nat) < 64 - i; omega
    · skip
      repeat refine c_seq ?_
      refine c_no (by exact congrArg Value.bool (decide_eq_false hc9)) ?_
      refine c_exit ?_
      repeat refine c_seq ?_
      refine c_region ?_
      refine l_op (o_val (r_mv) ?_)
      refine l_op (o_val (r_as) ?_)
      first | refine l_end ?_ | refine l_nil ?_
      refine c_ret ?_
      try dsimp only [Exit.then, Exit.inBlock]
      refine e_ret1 (v := .slice (hd (some b8)) 64 64) Try.results108 rfl ?_
      refine ⟨_, rfl, ?_⟩
      have hi2 : i = 64 := by omega
      subst hi2
      have e2 : xpart (padk (s.l)) m 64 = kpad (hkey s.l) m := by
        rw [xpart, List.take_of_length_le (by omega), List.drop_of_length_le (by omega), List.append_nil, hkey, if_neg (by omega), kpad]
      rw [e2] at H
      exact ⟨_, rfl, H.sub (.cons_cons _ (List.nil_sublist _))⟩
end Go.Proofs.Ytjmbbhnpfmblpaa
