import Derived.Test.YtjmbbhnpfmblpaaLaw0
/- the document's sums under a key: numbers in bytes, Raw, Of, Derive. -/
namespace Go.Proofs.Ytjmbbhnpfmblpaa
open Go
set_option maxRecDepth 100000
theorem rem_be (v : UInt64) (m : Nat) (h : v.toNat = m) : (v % 256).toUInt8 = UInt8.ofNat m := by
  apply UInt8.toNat_inj.1
  rw [UInt64.toNat_toUInt8, UInt64.toNat_mod, UInt8.toNat_ofNat', h]
  have : (256 : UInt64).toNat = 256 := rfl
  rw [this]; omega
theorem quo_be (v : UInt64) (x i : Nat) (h : v.toNat = x / 256 ^ i) : (v / 256).toNat = x / 256 ^ (i + 1) := by
  rw [UInt64.toNat_div, h, Nat.pow_succ, Nat.div_div_eq_div_mul]; rfl
theorem put1_ret (w0 : World) (s : Sl) (hs : s.ok w0) (u : UInt64) (n : Nat) (h1 : 1 ≤ n) (h8 : n ≤ 8) (hf : u.toNat < 256 ^ n) (hm : s.len ≤ 1048576) :
    Ret Try.prog 110 [s.v, V64 u, VI (n : Int)] w0 fun v w' => ∃ a cap, v = .tuple #[.slice (hd a) (s.len + n) cap, VI 0] ∧ Hp w0 w' [] [.own a (s.len + n) cap ((s.l ++ be u.toNat n).map V8) 5 1] := by
  refine ret_mk Try.func110 rfl Try.ntmps110 (by simp) ?_
  have H := Hp.refl w0 []
  repeat refine c_seq ?_
  refine c_region ?_
  refine l_op (o_val (r_as) ?_)
  refine l_op (o_val (r_as) ?_)
  first | refine l_end ?_ | refine l_nil ?_
  repeat refine c_seq ?_
  refine c_region ?_
  refine l_op (o_val (r_mv) ?_)
  refine l_op (o_val (r_bin (a := (n : Int)) (b := 1) rfl rfl (fun _ => b_lssB false (decide_eq_false (by omega)))) ?_)
  refine l_op (o_val (r_mv) ?_)
  refine l_yes rfl rfl rfl (o_val (r_mv) ?_)
  refine l_yes rfl rfl rfl (o_val (r_bin (a := (n : Int)) (b := 8) rfl rfl (fun _ => b_gtrB false (decide_eq_false (by omega)))) ?_)
  refine l_op (o_val (r_pick rfl) ?_)
  first | refine l_end ?_ | refine l_nil ?_
  repeat refine c_seq ?_
  refine c_no rfl ?_
  refine c_skip ?_
  repeat refine c_seq ?_
  refine c_region ?_
  refine l_op (o_val (r_as) ?_)
  first | refine l_end ?_ | refine l_nil ?_
  repeat refine c_seq ?_
  refine c_region ?_
  refine l_op (o_val (r_as) ?_)
  first | refine l_end ?_ | refine l_nil ?_
  repeat refine c_seq ?_
  refine c_block ?_
  repeat refine c_seq ?_
  refine c_loop4 (fun (i : Nat) (x : UInt64) (a : Option Nat) (c : Nat) => [(0, s.v), (1, V64 x), (2, VI (n : Int)), (8, .slice (hd a) i c), (9, VI (i : Int))])
    (fun (i : Nat) (x : UInt64) (a : Option Nat) (c : Nat) w => (i ≤ n ∧ x.toNat = u.toNat / 256 ^ i) ∧ Hp w0 w [] ([.own a i c ((be u.toNat i).map V8) 5 1]))
    (fun (i : Nat) (x : UInt64) (a : Option Nat) (c : Nat) => n - i) 0 u none 0 ⟨rfl, rfl, rfl, rfl, rfl, trivial⟩ ⟨⟨Nat.zero_le _, by simp⟩, (H.nilEnd 5 1)⟩ ?_
  clear H
  rintro i x a c τ w ⟨⟨hi, hx⟩, H⟩
  repeat refine c_seq ?_
  refine c_region ?_
  refine l_op (o_val (r_mv) ?_)
  refine l_op (o_val (r_mv) ?_)
  refine l_op (o_val (r_bin (a := (i : Int)) (b := (n : Int)) rfl rfl (fun _ => b_lss)) ?_)
  first | refine l_end ?_ | refine l_nil ?_
  by_cases hc1 : (i : Int) < (n : Int)
  · skip
    repeat refine c_seq ?_
    refine c_yes (by exact congrArg Value.bool (decide_eq_true hc1)) ?_
    refine c_skip ?_
    repeat refine c_seq ?_
    refine c_block ?_
    repeat refine c_seq ?_
    refine c_region ?_
    refine l_op (o_val (r_mv) ?_)
    refine l_op (o_val (r_bin rfl (c64 256 (by decide)) (fun _ => b_rem_u64 (by decide))) ?_)
    refine l_op (o_val (r_conv Try.underlying35 Try.underlying5 rfl (w_u8_64 _)) ?_)
    refine l_op (o_bslB ([(x % (256 : UInt64)).toUInt8]) H sl29 zc5 rfl rfl (by decide) (fun b2 w H hb2 => ?_))
    replace H : Hp w0 w [] ([.own a i c ((be u.toNat i).map V8) 5 1, .own (some b2) 1 1 (([(x % (256 : UInt64)).toUInt8]).map V8) 5 1]) := H
    refine l_op (o_val (r_mv) ?_)
    refine l_op (o_appB (s := ⟨hd a, i, c, be u.toNat i⟩) (l' := be u.toNat (i + 1)) (len' := i + 1) (by rw [be, rem_be x _ hx]; rfl) (by (try dsimp only); omega) H (i := 1) rfl sl29 Try.underlying29 rfl rfl (H.slOwn (i := 0) rfl) (by omega) (fun a3 c4 w H => ?_))
    replace H : Hp w0 w [] ([.own a i c ((be u.toNat i).map V8) 5 1, .own a3 (i + 1) c4 ((be u.toNat (i + 1)).map V8) 5 1]) := H
    refine l_op (o_val (r_as) ?_)
    first | refine l_end ?_ | refine l_nil ?_
    repeat refine c_seq ?_
    refine c_region ?_
    refine l_op (o_val (r_mv) ?_)
    refine l_op (o_val (r_bin rfl (c64 256 (by decide)) (fun _ => b_quo_u64 (by decide))) ?_)
    refine l_op (o_val (r_as) ?_)
    first | refine l_end ?_ | refine l_nil ?_
    repeat refine c_seq ?_
    refine c_region ?_
    refine l_op (o_val (r_mv) ?_)
    refine l_op (o_val (r_bin (a := (i : Int)) (b := 1) rfl rfl (fun _ => b_add (by omega) (by omega))) ?_)
    refine l_op (o_val (r_as) ?_)
    first | refine l_end ?_ | refine l_nil ?_
    refine round_end (i + 1, x / (256 : UInt64), a3, c4) ?_ ?_ ?_
    · exact ⟨rfl, show V64 (x / (256 : UInt64)) = V64 (x / (256 : UInt64) : UInt64) from congrArg V64 rfl, rfl, rfl, show VI ((i : Int) + 1) = VI ((i + 1 : Nat) : Int) from congrArg VI (by omega), trivial⟩
    · refine ⟨?_, ?_⟩
      · try dsimp only
        exact ⟨by omega, quo_be _ _ _ hx⟩
      · exact H.sub (.cons _ (.cons_cons _ (List.nil_sublist _)))
    · show n - (i + 1 : Nat) < n - i; omega
  · skip
    repeat refine c_seq ?_
    refine c_no (by exact congrArg Value.bool (decide_eq_false hc1)) ?_
    refine c_exit ?_
    have hx0 : x.toNat = 0 := by
      have hi2 : i = n := by omega
      rw [hx, hi2]; exact Nat.div_eq_of_lt hf
    repeat refine c_seq ?_
    refine c_region ?_
    refine l_op (o_val (r_mv) ?_)
    refine l_op (o_val (r_bin (a := (x.toNat : Int)) (b := 0) rfl rfl (fun _ => b_gtrB false (decide_eq_false (by omega)))) ?_)
    first | refine l_end ?_ | refine l_nil ?_
    repeat refine c_seq ?_
    refine c_no rfl ?_
    refine c_skip ?_
    repeat refine c_seq ?_
    refine c_region ?_
    refine l_op (o_bslB (([] : List UInt8)) H sl29 zc5 rfl rfl (by decide) (fun b5 w H hb5 => ?_))
    replace H : Hp w0 w [] ([.own a i c ((be u.toNat i).map V8) 5 1, .own (some b5) 0 0 ((([] : List UInt8)).map V8) 5 1]) := H
    refine l_op (o_val (r_mv) ?_)
    refine l_op (o_appB (s := s) (l' := s.l) (len' := s.len) rfl (Nat.zero_add _) H (i := 1) rfl sl29 Try.underlying29 rfl rfl (hs.up H (fun _ => apart_nil _)) (by omega) (fun a6 c7 w H => ?_))
    replace H : Hp w0 w [] ([.own a i c ((be u.toNat i).map V8) 5 1, .own a6 s.len c7 ((s.l).map V8) 5 1]) := H
    refine l_op (o_val (r_mv) ?_)
    refine l_op (o_appB (s := ⟨hd a, i, c, be u.toNat i⟩) (l' := s.l ++ (be u.toNat i)) (len' := s.len + i) rfl rfl H (i := 1) rfl sl29 Try.underlying29 rfl rfl (H.slOwn (i := 0) rfl) (by omega) (fun a8 c9 w H => ?_))
    replace H : Hp w0 w [] ([.own a i c ((be u.toNat i).map V8) 5 1, .own a8 (s.len + i) c9 ((s.l ++ (be u.toNat i)).map V8) 5 1]) := H
    refine l_op (o_val (r_as) ?_)
    refine l_op (o_val (r_as) ?_)
    first | refine l_end ?_ | refine l_nil ?_
    refine c_ret ?_
    try dsimp only [Exit.then, Exit.inBlock]
    refine e_retN (vs := [.slice (hd a8) (s.len + i) c9, VI 0]) _ Try.results110 rfl (resT (v := .slice (hd a8) (s.len + i) c9) rfl (resT (v := VI 0) rfl (resZ))) ?_
    refine ⟨_, rfl, ?_⟩
    have hi2 : i = n := by omega
    subst hi2
    exact ⟨_, _, rfl, H.sub (.cons _ (.cons_cons _ (List.nil_sublist _)))⟩
theorem u64_fit8 (u : UInt64) : u.toNat < 256 ^ 8 := u.toNat_lt
theorem put1z_ret (w0 : World) (u : UInt64) (n : Nat) (h1 : 1 ≤ n) (h8 : n ≤ 8) (hf : u.toNat < 256 ^ n) :
    Ret Try.prog 110 [.slice none 0 0, V64 u, VI (n : Int)] w0 fun v w' => ∃ a cap, v = .tuple #[.slice (hd a) n cap, VI 0] ∧ Hp w0 w' [] [.own a n cap ((be u.toNat n).map V8) 5 1] :=
  (put1_ret w0 ⟨none, 0, 0, []⟩ (Sl.ok_nil _) u n h1 h8 hf (by simp)).mono fun v w' ⟨a, c, hv, H⟩ => ⟨a, c, by simpa using hv, by simpa using H⟩
theorem eight_ret (w0 : World) (u : UInt64) :
    Ret Try.prog 55 [V64 u] w0 fun v w' => ∃ a cap, v = .slice (hd a) 8 cap ∧ Hp w0 w' [] [.own a 8 cap ((be u.toNat 8).map V8) 5 1] := by
  refine ret_mk Try.func55 rfl Try.ntmps55 (by simp) ?_
  have H := Hp.refl w0 []
  repeat refine c_seq ?_
  refine c_region ?_
  refine l_op (o_val (r_as) ?_)
  first | refine l_end ?_ | refine l_nil ?_
  repeat refine c_seq ?_
  refine c_region ?_
  refine l_op (o_val (r_mv) ?_)
  refine l_op (o_callR Try.func110 rfl rfl rfl (put1z_ret _ (u) 8 (by omega) (by omega) (u64_fit8 _)) ?_)
  rintro _ w ⟨a1, c2, rfl, Hc⟩
  replace H : Hp w0 w [] ([.own a1 8 c2 ((be (u).toNat 8).map V8) 5 1]) := H.call Hc
  clear Hc
  refine l_op (o_val (r_mv) ?_)
  refine l_op (o_val (r_ext rfl rfl) ?_)
  refine l_op (o_val (r_ext rfl rfl) ?_)
  refine l_op (o_val (r_as) ?_)
  refine l_op (o_val (r_as) ?_)
  first | refine l_end ?_ | refine l_nil ?_
  repeat refine c_seq ?_
  refine c_region ?_
  refine l_op (o_val (r_mv) ?_)
  refine l_op (o_val (r_as) ?_)
  first | refine l_end ?_ | refine l_nil ?_
  refine c_ret ?_
  try dsimp only [Exit.then, Exit.inBlock]
  refine e_ret1 (v := .slice (hd a1) 8 c2) Try.results55 rfl ?_
  refine ⟨_, rfl, ?_⟩
  exact ⟨_, _, rfl, H⟩
theorem kpad_len (K : List UInt8) (m : UInt8) (hK : K.length ≤ 64) : (kpad K m).length = 64 := by rw [kpad, List.length_map, padk_len K hK]
theorem kpad_step (K : List UInt8) (m c : UInt8) (i : Nat) (h : i < 64) (hK : K.length ≤ 64) (hc : c = K.getD i 0) : (kpad K m).take i ++ [c ^^^ m] = (kpad K m).take (i + 1) := by
  have hg : (padk K)[i]? = some c := by
    rw [hc, padk]
    by_cases hi : i < K.length
    · rw [List.getElem?_append_left hi, List.getD_eq_getElem?_getD]; simp [hi]
    · rw [List.getElem?_append_right (by omega), List.getElem?_replicate, if_pos (by omega), List.getD_eq_getElem?_getD, List.getElem?_eq_none (by omega)]; rfl
  have hk : (kpad K m)[i]? = some (c ^^^ m) := by rw [kpad, List.getElem?_map, hg]; rfl
  rw [List.take_add_one, hk]; rfl
theorem kpad_all (K : List UInt8) (m : UInt8) (hK : K.length ≤ 64) : (kpad K m).take 64 = kpad K m := List.take_of_length_le (Nat.le_of_eq (kpad_len K m hK))
theorem getD_none (K : List UInt8) (i : Nat) (h : K.length ≤ i) : (0 : UInt8) = K.getD i 0 := by
  rw [List.getD_eq_getElem?_getD, List.getElem?_eq_none h]; rfl
theorem raw3_ret (w0 : World) (s u : Sl) (hs : s.ok w0) (hu : u.ok w0) (h1 : s.len ≤ 1000000) (h2 : u.len ≤ 1000000) :
    Ret Try.prog 50 [s.v, u.v] w0 fun v w' => v = .agg ((hmac s.l u.l).map V8).toArray ∧ Hp w0 w' [] [] := by
  refine ret_mk Try.func50 rfl Try.ntmps50 (by simp) ?_
  have H := Hp.refl w0 []
  have hsl := hs.ln
  have hul := hu.ln
  repeat refine c_seq ?_
  refine c_region ?_
  refine l_op (o_alloc H zc31 (fun b1 w H hb1 => ?_))
  replace H : Hp w0 w [] ([.blk b1 ((List.replicate 32 (0 : UInt8)).map V8) 31]) := H
  first | refine l_end ?_ | refine l_nil ?_
  repeat refine c_seq ?_
  refine c_region ?_
  refine l_op (o_bslB (([] : List UInt8)) H sl29 zc5 rfl rfl (by decide) (fun b2 w H hb2 => ?_))
  replace H : Hp w0 w [] ([.blk b1 ((List.replicate 32 (0 : UInt8)).map V8) 31, .own (some b2) 0 0 ((([] : List UInt8)).map V8) 5 1]) := H
  refine l_op (o_val (r_mv) ?_)
  refine l_op (o_appB (s := s) (l' := s.l) (len' := s.len) rfl (Nat.zero_add _) H (i := 1) rfl sl29 Try.underlying29 rfl rfl (hs.up H (fun _ => apart_nil _)) (by omega) (fun a3 c4 w H => ?_))
  replace H : Hp w0 w [] ([.blk b1 ((List.replicate 32 (0 : UInt8)).map V8) 31, .own a3 s.len c4 ((s.l).map V8) 5 1]) := H
  refine l_op (o_val (r_as) ?_)
  first | refine l_end ?_ | refine l_nil ?_
  repeat refine c_seq ?_
  refine c_region ?_
  refine l_op (o_val (r_mv) ?_)
  refine l_op (o_val (r_lens el29 rfl) ?_)
  refine l_op (o_val (r_bin (a := (s.len : Int)) (b := 64) rfl rfl (fun _ => b_gtr)) ?_)
  first | refine l_end ?_ | refine l_nil ?_
  by_cases hc5 : 64 < (s.len : Int)
  · skip
    repeat refine c_seq ?_
    refine c_yes (by exact congrArg Value.bool (decide_eq_true hc5)) ?_
    repeat refine c_seq ?_
    refine c_region ?_
    refine l_op (o_val (r_mv) ?_)
    refine l_op (o_callR Try.func45 rfl rfl rfl (sum2_ret _ ⟨hd a3, s.len, c4, s.l⟩ (H.slOwn (i := 1) rfl) (by (try dsimp only); omega)) ?_)
    rintro _ w ⟨rfl, Hc⟩
    replace H : Hp w0 w [] ([.blk b1 ((List.replicate 32 (0 : UInt8)).map V8) 31, .own a3 s.len c4 ((s.l).map V8) 5 1]) := H.call Hc
    clear Hc
    refine l_op (o_alloc H zc31 (fun b6 w H hb6 => ?_))
    replace H : Hp w0 w [] ([.blk b1 ((List.replicate 32 (0 : UInt8)).map V8) 31, .own a3 s.len c4 ((s.l).map V8) 5 1, .blk b6 ((List.replicate 32 (0 : UInt8)).map V8) 31]) := H
    refine l_op (o_stA (l' := sha256 (s.l)) H (i := 2) rfl rfl rfl cs31 (show (List.replicate 32 (0 : UInt8)).length = 32 from (List.length_replicate ..)) (show (sha256 (s.l)).length = 32 from sha256_len _) (fun w H => ?_))
    replace H : Hp w0 w [] ([.blk b1 ((List.replicate 32 (0 : UInt8)).map V8) 31, .own a3 s.len c4 ((s.l).map V8) 5 1, .blk b6 ((sha256 (s.l)).map V8) 31]) := H
    first | refine l_end ?_ | refine l_nil ?_
    repeat refine c_seq ?_
    refine c_region ?_
    refine l_op (o_val (r_slA (h := 32) (m := 32) (lv := none) (hv := none) (mv := none) rfl ar31 rfl rfl rfl (fun w => sbn w)) ?_)
    refine l_op (o_val (r_as) ?_)
    first | refine l_end ?_ | refine l_nil ?_
    repeat refine c_seq ?_
    refine c_region ?_
    refine l_op (o_val (r_as) ?_)
    refine l_op (o_val (r_as) ?_)
    first | refine l_end ?_ | refine l_nil ?_
    repeat refine c_seq ?_
    refine c_region ?_
    refine l_op (o_val (r_as) ?_)
    first | refine l_end ?_ | refine l_nil ?_
    repeat refine c_seq ?_
    refine c_block ?_
    have hkl : (sha256 (s.l)).length = 32 := by first | exact sha256_len _ | exact hsl
    repeat refine c_seq ?_
    refine c_loop5 (fun (i : Nat) (a : Option Nat) (c : Nat) (a2 : Option Nat) (c2 : Nat) => [(1, u.v), (4, .pointer (some ⟨b1, 0, none⟩)), (5, (⟨some ⟨b6, 0, none⟩, 32, 32, sha256 (s.l)⟩ : Sl).v), (7, .slice (hd a) i c), (8, .slice (hd a2) i c2), (9, VI (i : Int))])
      (fun (i : Nat) (a : Option Nat) (c : Nat) (a2 : Option Nat) (c2 : Nat) w => (i ≤ 64) ∧ Hp w0 w [] ([.blk b1 ((List.replicate 32 (0 : UInt8)).map V8) 31, .own a3 s.len c4 ((s.l).map V8) 5 1, .blk b6 ((sha256 (s.l)).map V8) 31, .own a i c (((kpad (sha256 (s.l)) 54).take i).map V8) 5 1, .own a2 i c2 (((kpad (sha256 (s.l)) 92).take i).map V8) 5 1]))
      (fun (i : Nat) (a : Option Nat) (c : Nat) (a2 : Option Nat) (c2 : Nat) => 64 - i) 0 none 0 none 0 ⟨rfl, rfl, rfl, rfl, rfl, rfl, trivial⟩ ⟨Nat.zero_le _, ((H.nilEnd 5 1).nilEnd 5 1)⟩ ?_
    clear H
    rintro i a c a2 c2 τ w ⟨hi, H⟩
    repeat refine c_seq ?_
    refine c_region ?_
    refine l_op (o_val (r_mv) ?_)
    refine l_op (o_val (r_bin (a := (i : Int)) (b := 64) rfl rfl (fun _ => b_lss)) ?_)
    first | refine l_end ?_ | refine l_nil ?_
    by_cases hc7 : (i : Int) < 64
    · skip
      repeat refine c_seq ?_
      refine c_yes (by exact congrArg Value.bool (decide_eq_true hc7)) ?_
      refine c_skip ?_
      repeat refine c_seq ?_
      refine c_block ?_
      repeat refine c_seq ?_
      refine c_region ?_
      refine l_op (o_val (r_asV (c8 0 (by decide))) ?_)
      first | refine l_end ?_ | refine l_nil ?_
      repeat refine c_seq ?_
      refine c_region ?_
      refine l_op (o_val (r_mv) ?_)
      refine l_op (o_val (r_mv) ?_)
      refine l_op (o_val (r_lens el29 rfl) ?_)
      refine l_op (o_val (r_bin (a := (i : Int)) (b := 32) rfl rfl (fun _ => b_lss)) ?_)
      first | refine l_end ?_ | refine l_nil ?_
      by_cases hc8 : (i : Int) < 32
      · skip
        repeat refine c_seq ?_
        refine c_yes (by exact congrArg Value.bool (decide_eq_true hc8)) ?_
        repeat refine c_seq ?_
        refine c_region ?_
        refine l_op (o_val (r_mv) ?_)
        refine l_op (o_val (r_mv) ?_)
        have ah11 := ((H.slBlkA (i := 2) rfl 32 (show (sha256 (s.l)).length = 32 from sha256_len _) (by decide))).addr (by (try simp only [Sl.cut]); omega)
        obtain ⟨ab9, ao10, ah11⟩ := ah11
        refine l_op (o_val (r_isN i rfl rfl el29 ah11 (by omega) (by (try simp only [Sl.cut]); omega)) ?_)
        refine l_op (o_val (r_ldB (s := (⟨some ⟨b6, 0, none⟩, 32, 32, sha256 (s.l)⟩ : Sl)) (k := i) (H.slBlkA (i := 2) rfl 32 (show (sha256 (s.l)).length = 32 from sha256_len _) (by decide)) ah11 rfl ct5 (by (try simp only [Sl.cut]); omega)) ?_)
        refine l_op (o_val (r_as) ?_)
        first | refine l_end ?_ | refine l_nil ?_
        repeat refine c_seq ?_
        refine c_region ?_
        refine l_op (o_val (r_mv) ?_)
        refine l_op (o_val (r_mv) ?_)
        refine l_op (o_val (r_bin rfl (c8 54 (by decide)) (fun _ => b_xor_u8)) ?_)
        refine l_op (o_bslB ([((sha256 (s.l)).getD i 0) ^^^ (54 : UInt8)]) H sl29 zc5 rfl rfl (by decide) (fun b12 w H hb12 => ?_))
        replace H : Hp w0 w [] ([.blk b1 ((List.replicate 32 (0 : UInt8)).map V8) 31, .own a3 s.len c4 ((s.l).map V8) 5 1, .blk b6 ((sha256 (s.l)).map V8) 31, .own a i c (((kpad (sha256 (s.l)) 54).take i).map V8) 5 1, .own a2 i c2 (((kpad (sha256 (s.l)) 92).take i).map V8) 5 1, .own (some b12) 1 1 (([((sha256 (s.l)).getD i 0) ^^^ (54 : UInt8)]).map V8) 5 1]) := H
        refine l_op (o_appB (s := ⟨hd (some b12), 1, 1, [((sha256 (s.l)).getD i 0) ^^^ (54 : UInt8)]⟩) (l' := (kpad (sha256 (s.l)) 54).take (i + 1)) (len' := i + 1) (kpad_step _ _ _ _ (by omega) (by omega) rfl) rfl H (i := 3) rfl sl29 Try.underlying29 rfl rfl (H.slOwn (i := 5) rfl) (by omega) (fun a13 c14 w H => ?_))
        replace H : Hp w0 w [] ([.blk b1 ((List.replicate 32 (0 : UInt8)).map V8) 31, .own a3 s.len c4 ((s.l).map V8) 5 1, .blk b6 ((sha256 (s.l)).map V8) 31, .own a13 (i + 1) c14 (((kpad (sha256 (s.l)) 54).take (i + 1)).map V8) 5 1, .own a2 i c2 (((kpad (sha256 (s.l)) 92).take i).map V8) 5 1, .own (some b12) 1 1 (([((sha256 (s.l)).getD i 0) ^^^ (54 : UInt8)]).map V8) 5 1]) := H
        refine l_op (o_val (r_mv) ?_)
        refine l_op (o_val (r_mv) ?_)
        refine l_op (o_val (r_bin rfl (c8 92 (by decide)) (fun _ => b_xor_u8)) ?_)
        refine l_op (o_bslB ([((sha256 (s.l)).getD i 0) ^^^ (92 : UInt8)]) H sl29 zc5 rfl rfl (by decide) (fun b15 w H hb15 => ?_))
        replace H : Hp w0 w [] ([.blk b1 ((List.replicate 32 (0 : UInt8)).map V8) 31, .own a3 s.len c4 ((s.l).map V8) 5 1, .blk b6 ((sha256 (s.l)).map V8) 31, .own a13 (i + 1) c14 (((kpad (sha256 (s.l)) 54).take (i + 1)).map V8) 5 1, .own a2 i c2 (((kpad (sha256 (s.l)) 92).take i).map V8) 5 1, .own (some b12) 1 1 (([((sha256 (s.l)).getD i 0) ^^^ (54 : UInt8)]).map V8) 5 1, .own (some b15) 1 1 (([((sha256 (s.l)).getD i 0) ^^^ (92 : UInt8)]).map V8) 5 1]) := H
        refine l_op (o_appB (s := ⟨hd (some b15), 1, 1, [((sha256 (s.l)).getD i 0) ^^^ (92 : UInt8)]⟩) (l' := (kpad (sha256 (s.l)) 92).take (i + 1)) (len' := i + 1) (kpad_step _ _ _ _ (by omega) (by omega) rfl) rfl H (i := 4) rfl sl29 Try.underlying29 rfl rfl (H.slOwn (i := 6) rfl) (by omega) (fun a16 c17 w H => ?_))
        replace H : Hp w0 w [] ([.blk b1 ((List.replicate 32 (0 : UInt8)).map V8) 31, .own a3 s.len c4 ((s.l).map V8) 5 1, .blk b6 ((sha256 (s.l)).map V8) 31, .own a13 (i + 1) c14 (((kpad (sha256 (s.l)) 54).take (i + 1)).map V8) 5 1, .own a16 (i + 1) c17 (((kpad (sha256 (s.l)) 92).take (i + 1)).map V8) 5 1, .own (some b12) 1 1 (([((sha256 (s.l)).getD i 0) ^^^ (54 : UInt8)]).map V8) 5 1, .own (some b15) 1 1 (([((sha256 (s.l)).getD i 0) ^^^ (92 : UInt8)]).map V8) 5 1]) := H
        refine l_op (o_val (r_as) ?_)
        refine l_op (o_val (r_as) ?_)
        first | refine l_end ?_ | refine l_nil ?_
        repeat refine c_seq ?_
        refine c_region ?_
        refine l_op (o_val (r_mv) ?_)
        refine l_op (o_val (r_bin (a := (i : Int)) (b := 1) rfl rfl (fun _ => b_add (by omega) (by omega))) ?_)
        refine l_op (o_val (r_as) ?_)
        first | refine l_end ?_ | refine l_nil ?_
        refine round_end (i + 1, a13, c14, a16, c17) ?_ ?_ ?_
        · exact ⟨rfl, rfl, rfl, rfl, rfl, show VI ((i : Int) + 1) = VI ((i + 1 : Nat) : Int) from congrArg VI (by omega), trivial⟩
        · refine ⟨?_, ?_⟩
          · try dsimp only
            exact by omega
          · exact H.sub (.cons_cons _ (.cons_cons _ (.cons_cons _ (.cons_cons _ (.cons_cons _ (List.nil_sublist _))))))
        · show 64 - (i + 1 : Nat) < 64 - i; omega
      · skip
        repeat refine c_seq ?_
        refine c_no (by exact congrArg Value.bool (decide_eq_false hc8)) ?_
        refine c_skip ?_
        repeat refine c_seq ?_
        refine c_region ?_
        refine l_op (o_val (r_mv) ?_)
        refine l_op (o_val (r_mv) ?_)
        refine l_op (o_val (r_bin rfl (c8 54 (by decide)) (fun _ => b_xor_u8)) ?_)
        refine l_op (o_bslB ([(0 : UInt8) ^^^ (54 : UInt8)]) H sl29 zc5 rfl rfl (by decide) (fun b18 w H hb18 => ?_))
        replace H : Hp w0 w [] ([.blk b1 ((List.replicate 32 (0 : UInt8)).map V8) 31, .own a3 s.len c4 ((s.l).map V8) 5 1, .blk b6 ((sha256 (s.l)).map V8) 31, .own a i c (((kpad (sha256 (s.l)) 54).take i).map V8) 5 1, .own a2 i c2 (((kpad (sha256 (s.l)) 92).take i).map V8) 5 1, .own (some b18) 1 1 (([(0 : UInt8) ^^^ (54 : UInt8)]).map V8) 5 1]) := H
        refine l_op (o_appB (s := ⟨hd (some b18), 1, 1, [(0 : UInt8) ^^^ (54 : UInt8)]⟩) (l' := (kpad (sha256 (s.l)) 54).take (i + 1)) (len' := i + 1) (kpad_step _ _ _ _ (by omega) (by omega) (getD_none _ _ (by omega))) rfl H (i := 3) rfl sl29 Try.underlying29 rfl rfl (H.slOwn (i := 5) rfl) (by omega) (fun a19 c20 w H => ?_))
        replace H : Hp w0 w [] ([.blk b1 ((List.replicate 32 (0 : UInt8)).map V8) 31, .own a3 s.len c4 ((s.l).map V8) 5 1, .blk b6 ((sha256 (s.l)).map V8) 31, .own a19 (i + 1) c20 (((kpad (sha256 (s.l)) 54).take (i + 1)).map V8) 5 1, .own a2 i c2 (((kpad (sha256 (s.l)) 92).take i).map V8) 5 1, .own (some b18) 1 1 (([(0 : UInt8) ^^^ (54 : UInt8)]).map V8) 5 1]) := H
        refine l_op (o_val (r_mv) ?_)
        refine l_op (o_val (r_mv) ?_)
        refine l_op (o_val (r_bin rfl (c8 92 (by decide)) (fun _ => b_xor_u8)) ?_)
        refine l_op (o_bslB ([(0 : UInt8) ^^^ (92 : UInt8)]) H sl29 zc5 rfl rfl (by decide) (fun b21 w H hb21 => ?_))
        replace H : Hp w0 w [] ([.blk b1 ((List.replicate 32 (0 : UInt8)).map V8) 31, .own a3 s.len c4 ((s.l).map V8) 5 1, .blk b6 ((sha256 (s.l)).map V8) 31, .own a19 (i + 1) c20 (((kpad (sha256 (s.l)) 54).take (i + 1)).map V8) 5 1, .own a2 i c2 (((kpad (sha256 (s.l)) 92).take i).map V8) 5 1, .own (some b18) 1 1 (([(0 : UInt8) ^^^ (54 : UInt8)]).map V8) 5 1, .own (some b21) 1 1 (([(0 : UInt8) ^^^ (92 : UInt8)]).map V8) 5 1]) := H
        refine l_op (o_appB (s := ⟨hd (some b21), 1, 1, [(0 : UInt8) ^^^ (92 : UInt8)]⟩) (l' := (kpad (sha256 (s.l)) 92).take (i + 1)) (len' := i + 1) (kpad_step _ _ _ _ (by omega) (by omega) (getD_none _ _ (by omega))) rfl H (i := 4) rfl sl29 Try.underlying29 rfl rfl (H.slOwn (i := 6) rfl) (by omega) (fun a22 c23 w H => ?_))
        replace H : Hp w0 w [] ([.blk b1 ((List.replicate 32 (0 : UInt8)).map V8) 31, .own a3 s.len c4 ((s.l).map V8) 5 1, .blk b6 ((sha256 (s.l)).map V8) 31, .own a19 (i + 1) c20 (((kpad (sha256 (s.l)) 54).take (i + 1)).map V8) 5 1, .own a22 (i + 1) c23 (((kpad (sha256 (s.l)) 92).take (i + 1)).map V8) 5 1, .own (some b18) 1 1 (([(0 : UInt8) ^^^ (54 : UInt8)]).map V8) 5 1, .own (some b21) 1 1 (([(0 : UInt8) ^^^ (92 : UInt8)]).map V8) 5 1]) := H
        refine l_op (o_val (r_as) ?_)
        refine l_op (o_val (r_as) ?_)
        first | refine l_end ?_ | refine l_nil ?_
        repeat refine c_seq ?_
        refine c_region ?_
        refine l_op (o_val (r_mv) ?_)
        refine l_op (o_val (r_bin (a := (i : Int)) (b := 1) rfl rfl (fun _ => b_add (by omega) (by omega))) ?_)
        refine l_op (o_val (r_as) ?_)
        first | refine l_end ?_ | refine l_nil ?_
        refine round_end (i + 1, a19, c20, a22, c23) ?_ ?_ ?_
        · exact ⟨rfl, rfl, rfl, rfl, rfl, show VI ((i : Int) + 1) = VI ((i + 1 : Nat) : Int) from congrArg VI (by omega), trivial⟩
        · refine ⟨?_, ?_⟩
          · try dsimp only
            exact by omega
          · exact H.sub (.cons_cons _ (.cons_cons _ (.cons_cons _ (.cons_cons _ (.cons_cons _ (List.nil_sublist _))))))
        · show 64 - (i + 1 : Nat) < 64 - i; omega
    · skip
      repeat refine c_seq ?_
      refine c_no (by exact congrArg Value.bool (decide_eq_false hc7)) ?_
      refine c_exit ?_
      have hi2 : i = 64 := by omega
      subst hi2
      rw [kpad_all _ _ (by omega), kpad_all _ _ (by omega)] at H
      replace H : Hp w0 w [] ([.blk b1 ((List.replicate 32 (0 : UInt8)).map V8) 31, .own a3 s.len c4 ((s.l).map V8) 5 1, .blk b6 ((sha256 (s.l)).map V8) 31, .own a 64 c ((kpad (sha256 (s.l)) 54).map V8) 5 1, .own a2 64 c2 ((kpad (sha256 (s.l)) 92).map V8) 5 1]) := H
      repeat refine c_seq ?_
      refine c_region ?_
      refine l_op (o_val (r_mv) ?_)
      refine l_op (o_val (r_mv) ?_)
      refine l_op (o_appB (s := u) (l' := kpad (sha256 (s.l)) 54 ++ u.l) (len' := 64 + u.len) rfl rfl H (i := 3) rfl sl29 Try.underlying29 rfl rfl (hu.up H (fun _ => apart_nil _)) (by omega) (fun a24 c25 w H => ?_))
      replace H : Hp w0 w [] ([.blk b1 ((List.replicate 32 (0 : UInt8)).map V8) 31, .own a3 s.len c4 ((s.l).map V8) 5 1, .blk b6 ((sha256 (s.l)).map V8) 31, .own a24 (64 + u.len) c25 ((kpad (sha256 (s.l)) 54 ++ u.l).map V8) 5 1, .own a2 64 c2 ((kpad (sha256 (s.l)) 92).map V8) 5 1]) := H
      refine l_op (o_callR Try.func45 rfl rfl rfl (sum2_ret _ ⟨hd a24, 64 + u.len, c25, kpad (sha256 (s.l)) 54 ++ u.l⟩ (H.slOwn (i := 3) rfl) (by (try dsimp only); omega)) ?_)
      rintro _ w ⟨rfl, Hc⟩
      replace H : Hp w0 w [] ([.blk b1 ((List.replicate 32 (0 : UInt8)).map V8) 31, .own a3 s.len c4 ((s.l).map V8) 5 1, .blk b6 ((sha256 (s.l)).map V8) 31, .own a24 (64 + u.len) c25 ((kpad (sha256 (s.l)) 54 ++ u.l).map V8) 5 1, .own a2 64 c2 ((kpad (sha256 (s.l)) 92).map V8) 5 1]) := H.call Hc
      clear Hc
      refine l_op (o_alloc H zc31 (fun b26 w H hb26 => ?_))
      replace H : Hp w0 w [] ([.blk b1 ((List.replicate 32 (0 : UInt8)).map V8) 31, .own a3 s.len c4 ((s.l).map V8) 5 1, .blk b6 ((sha256 (s.l)).map V8) 31, .own a24 (64 + u.len) c25 ((kpad (sha256 (s.l)) 54 ++ u.l).map V8) 5 1, .own a2 64 c2 ((kpad (sha256 (s.l)) 92).map V8) 5 1, .blk b26 ((List.replicate 32 (0 : UInt8)).map V8) 31]) := H
      refine l_op (o_stA (l' := sha256 (kpad (sha256 (s.l)) 54 ++ u.l)) H (i := 5) rfl rfl rfl cs31 (show (List.replicate 32 (0 : UInt8)).length = 32 from (List.length_replicate ..)) (show (sha256 (kpad (sha256 (s.l)) 54 ++ u.l)).length = 32 from sha256_len _) (fun w H => ?_))
      replace H : Hp w0 w [] ([.blk b1 ((List.replicate 32 (0 : UInt8)).map V8) 31, .own a3 s.len c4 ((s.l).map V8) 5 1, .blk b6 ((sha256 (s.l)).map V8) 31, .own a24 (64 + u.len) c25 ((kpad (sha256 (s.l)) 54 ++ u.l).map V8) 5 1, .own a2 64 c2 ((kpad (sha256 (s.l)) 92).map V8) 5 1, .blk b26 ((sha256 (kpad (sha256 (s.l)) 54 ++ u.l)).map V8) 31]) := H
      first | refine l_end ?_ | refine l_nil ?_
      repeat refine c_seq ?_
      refine c_region ?_
      refine l_op (o_val (r_mv) ?_)
      refine l_op (o_val (r_slA (h := 32) (m := 32) (lv := none) (hv := none) (mv := none) rfl ar31 rfl rfl rfl (fun w => sbn w)) ?_)
      refine l_op (o_appB (s := (⟨some ⟨b26, 0, none⟩, 32, 32, sha256 (kpad (sha256 (s.l)) 54 ++ u.l)⟩ : Sl)) (l' := kpad (sha256 (s.l)) 92 ++ (sha256 (kpad (sha256 (s.l)) 54 ++ u.l))) (len' := 96) rfl rfl H (i := 4) rfl sl29 Try.underlying29 rfl rfl (H.slBlkA (i := 5) rfl 32 (show (sha256 (kpad (sha256 (s.l)) 54 ++ u.l)).length = 32 from sha256_len _) (by decide)) (by omega) (fun a27 c28 w H => ?_))
      replace H : Hp w0 w [] ([.blk b1 ((List.replicate 32 (0 : UInt8)).map V8) 31, .own a3 s.len c4 ((s.l).map V8) 5 1, .blk b6 ((sha256 (s.l)).map V8) 31, .own a24 (64 + u.len) c25 ((kpad (sha256 (s.l)) 54 ++ u.l).map V8) 5 1, .own a27 96 c28 ((kpad (sha256 (s.l)) 92 ++ (sha256 (kpad (sha256 (s.l)) 54 ++ u.l))).map V8) 5 1, .blk b26 ((sha256 (kpad (sha256 (s.l)) 54 ++ u.l)).map V8) 31]) := H
      refine l_op (o_callR Try.func45 rfl rfl rfl (sum2_ret _ ⟨hd a27, 96, c28, kpad (sha256 (s.l)) 92 ++ (sha256 (kpad (sha256 (s.l)) 54 ++ u.l))⟩ (H.slOwn (i := 4) rfl) (by (try dsimp only); omega)) ?_)
      rintro _ w ⟨rfl, Hc⟩
      replace H : Hp w0 w [] ([.blk b1 ((List.replicate 32 (0 : UInt8)).map V8) 31, .own a3 s.len c4 ((s.l).map V8) 5 1, .blk b6 ((sha256 (s.l)).map V8) 31, .own a24 (64 + u.len) c25 ((kpad (sha256 (s.l)) 54 ++ u.l).map V8) 5 1, .own a27 96 c28 ((kpad (sha256 (s.l)) 92 ++ (sha256 (kpad (sha256 (s.l)) 54 ++ u.l))).map V8) 5 1, .blk b26 ((sha256 (kpad (sha256 (s.l)) 54 ++ u.l)).map V8) 31]) := H.call Hc
      clear Hc
      refine l_op (o_stA (l' := sha256 (kpad (sha256 (s.l)) 92 ++ (sha256 (kpad (sha256 (s.l)) 54 ++ u.l)))) H (i := 0) rfl rfl rfl cs31 (show (List.replicate 32 (0 : UInt8)).length = 32 from (List.length_replicate ..)) (show (sha256 (kpad (sha256 (s.l)) 92 ++ (sha256 (kpad (sha256 (s.l)) 54 ++ u.l)))).length = 32 from sha256_len _) (fun w H => ?_))
      replace H : Hp w0 w [] ([.blk b1 ((sha256 (kpad (sha256 (s.l)) 92 ++ (sha256 (kpad (sha256 (s.l)) 54 ++ u.l)))).map V8) 31, .own a3 s.len c4 ((s.l).map V8) 5 1, .blk b6 ((sha256 (s.l)).map V8) 31, .own a24 (64 + u.len) c25 ((kpad (sha256 (s.l)) 54 ++ u.l).map V8) 5 1, .own a27 96 c28 ((kpad (sha256 (s.l)) 92 ++ (sha256 (kpad (sha256 (s.l)) 54 ++ u.l))).map V8) 5 1, .blk b26 ((sha256 (kpad (sha256 (s.l)) 54 ++ u.l)).map V8) 31]) := H
      first | refine l_end ?_ | refine l_nil ?_
      refine c_ret ?_
      try dsimp only [Exit.then, Exit.inBlock]
      refine e_retA (l := sha256 (kpad (sha256 (s.l)) 92 ++ (sha256 (kpad (sha256 (s.l)) 54 ++ u.l)))) Try.results50 H (i := 0) rfl rfl rt31 (show (sha256 (kpad (sha256 (s.l)) 92 ++ (sha256 (kpad (sha256 (s.l)) 54 ++ u.l)))).length = 32 from sha256_len _) ?_
      refine ⟨_, rfl, ?_⟩
      refine ⟨?_, H.sub (List.nil_sublist _)⟩
      rw [hmac, hkey, if_pos (by omega)]
  · skip
    repeat refine c_seq ?_
    refine c_no (by exact congrArg Value.bool (decide_eq_false hc5)) ?_
    refine c_skip ?_
    repeat refine c_seq ?_
    refine c_region ?_
    refine l_op (o_val (r_as) ?_)
    refine l_op (o_val (r_as) ?_)
    first | refine l_end ?_ | refine l_nil ?_
    repeat refine c_seq ?_
    refine c_region ?_
    refine l_op (o_val (r_as) ?_)
    first | refine l_end ?_ | refine l_nil ?_
    repeat refine c_seq ?_
    refine c_block ?_
    have hkl : (s.l).length = s.len := by first | exact sha256_len _ | exact hsl
    repeat refine c_seq ?_
    refine c_loop5 (fun (i : Nat) (a : Option Nat) (c : Nat) (a2 : Option Nat) (c2 : Nat) => [(1, u.v), (4, .pointer (some ⟨b1, 0, none⟩)), (5, .slice (hd a3) s.len c4), (7, .slice (hd a) i c), (8, .slice (hd a2) i c2), (9, VI (i : Int))])
      (fun (i : Nat) (a : Option Nat) (c : Nat) (a2 : Option Nat) (c2 : Nat) w => (i ≤ 64) ∧ Hp w0 w [] ([.blk b1 ((List.replicate 32 (0 : UInt8)).map V8) 31, .own a3 s.len c4 ((s.l).map V8) 5 1, .own a i c (((kpad (s.l) 54).take i).map V8) 5 1, .own a2 i c2 (((kpad (s.l) 92).take i).map V8) 5 1]))
      (fun (i : Nat) (a : Option Nat) (c : Nat) (a2 : Option Nat) (c2 : Nat) => 64 - i) 0 none 0 none 0 ⟨rfl, rfl, rfl, rfl, rfl, rfl, trivial⟩ ⟨Nat.zero_le _, ((H.nilEnd 5 1).nilEnd 5 1)⟩ ?_
    clear H
    rintro i a c a2 c2 τ w ⟨hi, H⟩
    repeat refine c_seq ?_
    refine c_region ?_
    refine l_op (o_val (r_mv) ?_)
    refine l_op (o_val (r_bin (a := (i : Int)) (b := 64) rfl rfl (fun _ => b_lss)) ?_)
    first | refine l_end ?_ | refine l_nil ?_
    by_cases hc29 : (i : Int) < 64
    · skip
      repeat refine c_seq ?_
      refine c_yes (by exact congrArg Value.bool (decide_eq_true hc29)) ?_
      refine c_skip ?_
      repeat refine c_seq ?_
      refine c_block ?_
      repeat refine c_seq ?_
      refine c_region ?_
      refine l_op (o_val (r_asV (c8 0 (by decide))) ?_)
      first | refine l_end ?_ | refine l_nil ?_
      repeat refine c_seq ?_
      refine c_region ?_
      refine l_op (o_val (r_mv) ?_)
      refine l_op (o_val (r_mv) ?_)
      refine l_op (o_val (r_lens el29 rfl) ?_)
      refine l_op (o_val (r_bin (a := (i : Int)) (b := (s.len : Int)) rfl rfl (fun _ => b_lss)) ?_)
      first | refine l_end ?_ | refine l_nil ?_
      by_cases hc30 : (i : Int) < (s.len : Int)
      · skip
        repeat refine c_seq ?_
        refine c_yes (by exact congrArg Value.bool (decide_eq_true hc30)) ?_
        repeat refine c_seq ?_
        refine c_region ?_
        refine l_op (o_val (r_mv) ?_)
        refine l_op (o_val (r_mv) ?_)
        obtain ⟨ab31, ah32⟩ := H.ownAddr (i := 1) rfl (by omega)
        refine l_op (o_val (r_isN i rfl rfl el29 ah32 (by omega) (by (try simp only [Sl.cut]); omega)) ?_)
        refine l_op (o_val (r_ldB (s := ⟨hd a3, s.len, c4, s.l⟩) (k := i) (H.slOwn (i := 1) rfl) ah32 rfl ct5 (by (try simp only [Sl.cut]); omega)) ?_)
        refine l_op (o_val (r_as) ?_)
        first | refine l_end ?_ | refine l_nil ?_
        repeat refine c_seq ?_
        refine c_region ?_
        refine l_op (o_val (r_mv) ?_)
        refine l_op (o_val (r_mv) ?_)
        refine l_op (o_val (r_bin rfl (c8 54 (by decide)) (fun _ => b_xor_u8)) ?_)
        refine l_op (o_bslB ([((s.l).getD i 0) ^^^ (54 : UInt8)]) H sl29 zc5 rfl rfl (by decide) (fun b33 w H hb33 => ?_))
        replace H : Hp w0 w [] ([.blk b1 ((List.replicate 32 (0 : UInt8)).map V8) 31, .own a3 s.len c4 ((s.l).map V8) 5 1, .own a i c (((kpad (s.l) 54).take i).map V8) 5 1, .own a2 i c2 (((kpad (s.l) 92).take i).map V8) 5 1, .own (some b33) 1 1 (([((s.l).getD i 0) ^^^ (54 : UInt8)]).map V8) 5 1]) := H
        refine l_op (o_appB (s := ⟨hd (some b33), 1, 1, [((s.l).getD i 0) ^^^ (54 : UInt8)]⟩) (l' := (kpad (s.l) 54).take (i + 1)) (len' := i + 1) (kpad_step _ _ _ _ (by omega) (by omega) rfl) rfl H (i := 2) rfl sl29 Try.underlying29 rfl rfl (H.slOwn (i := 4) rfl) (by omega) (fun a34 c35 w H => ?_))
        replace H : Hp w0 w [] ([.blk b1 ((List.replicate 32 (0 : UInt8)).map V8) 31, .own a3 s.len c4 ((s.l).map V8) 5 1, .own a34 (i + 1) c35 (((kpad (s.l) 54).take (i + 1)).map V8) 5 1, .own a2 i c2 (((kpad (s.l) 92).take i).map V8) 5 1, .own (some b33) 1 1 (([((s.l).getD i 0) ^^^ (54 : UInt8)]).map V8) 5 1]) := H
        refine l_op (o_val (r_mv) ?_)
        refine l_op (o_val (r_mv) ?_)
        refine l_op (o_val (r_bin rfl (c8 92 (by decide)) (fun _ => b_xor_u8)) ?_)
        refine l_op (o_bslB ([((s.l).getD i 0) ^^^ (92 : UInt8)]) H sl29 zc5 rfl rfl (by decide) (fun b36 w H hb36 => ?_))
        replace H : Hp w0 w [] ([.blk b1 ((List.replicate 32 (0 : UInt8)).map V8) 31, .own a3 s.len c4 ((s.l).map V8) 5 1, .own a34 (i + 1) c35 (((kpad (s.l) 54).take (i + 1)).map V8) 5 1, .own a2 i c2 (((kpad (s.l) 92).take i).map V8) 5 1, .own (some b33) 1 1 (([((s.l).getD i 0) ^^^ (54 : UInt8)]).map V8) 5 1, .own (some b36) 1 1 (([((s.l).getD i 0) ^^^ (92 : UInt8)]).map V8) 5 1]) := H
        refine l_op (o_appB (s := ⟨hd (some b36), 1, 1, [((s.l).getD i 0) ^^^ (92 : UInt8)]⟩) (l' := (kpad (s.l) 92).take (i + 1)) (len' := i + 1) (kpad_step _ _ _ _ (by omega) (by omega) rfl) rfl H (i := 3) rfl sl29 Try.underlying29 rfl rfl (H.slOwn (i := 5) rfl) (by omega) (fun a37 c38 w H => ?_))
        replace H : Hp w0 w [] ([.blk b1 ((List.replicate 32 (0 : UInt8)).map V8) 31, .own a3 s.len c4 ((s.l).map V8) 5 1, .own a34 (i + 1) c35 (((kpad (s.l) 54).take (i + 1)).map V8) 5 1, .own a37 (i + 1) c38 (((kpad (s.l) 92).take (i + 1)).map V8) 5 1, .own (some b33) 1 1 (([((s.l).getD i 0) ^^^ (54 : UInt8)]).map V8) 5 1, .own (some b36) 1 1 (([((s.l).getD i 0) ^^^ (92 : UInt8)]).map V8) 5 1]) := H
        refine l_op (o_val (r_as) ?_)
        refine l_op (o_val (r_as) ?_)
        first | refine l_end ?_ | refine l_nil ?_
        repeat refine c_seq ?_
        refine c_region ?_
        refine l_op (o_val (r_mv) ?_)
        refine l_op (o_val (r_bin (a := (i : Int)) (b := 1) rfl rfl (fun _ => b_add (by omega) (by omega))) ?_)
        refine l_op (o_val (r_as) ?_)
        first | refine l_end ?_ | refine l_nil ?_
        refine round_end (i + 1, a34, c35, a37, c38) ?_ ?_ ?_
        · exact ⟨rfl, rfl, rfl, rfl, rfl, show VI ((i : Int) + 1) = VI ((i + 1 : Nat) : Int) from congrArg VI (by omega), trivial⟩
        · refine ⟨?_, ?_⟩
          · try dsimp only
            exact by omega
          · exact H.sub (.cons_cons _ (.cons_cons _ (.cons_cons _ (.cons_cons _ (List.nil_sublist _)))))
        · show 64 - (i + 1 : Nat) < 64 - i; omega
      · skip
        repeat refine c_seq ?_
        refine c_no (by exact congrArg Value.bool (decide_eq_false hc30)) ?_
        refine c_skip ?_
        repeat refine c_seq ?_
        refine c_region ?_
        refine l_op (o_val (r_mv) ?_)
        refine l_op (o_val (r_mv) ?_)
        refine l_op (o_val (r_bin rfl (c8 54 (by decide)) (fun _ => b_xor_u8)) ?_)
        refine l_op (o_bslB ([(0 : UInt8) ^^^ (54 : UInt8)]) H sl29 zc5 rfl rfl (by decide) (fun b39 w H hb39 => ?_))
        replace H : Hp w0 w [] ([.blk b1 ((List.replicate 32 (0 : UInt8)).map V8) 31, .own a3 s.len c4 ((s.l).map V8) 5 1, .own a i c (((kpad (s.l) 54).take i).map V8) 5 1, .own a2 i c2 (((kpad (s.l) 92).take i).map V8) 5 1, .own (some b39) 1 1 (([(0 : UInt8) ^^^ (54 : UInt8)]).map V8) 5 1]) := H
        refine l_op (o_appB (s := ⟨hd (some b39), 1, 1, [(0 : UInt8) ^^^ (54 : UInt8)]⟩) (l' := (kpad (s.l) 54).take (i + 1)) (len' := i + 1) (kpad_step _ _ _ _ (by omega) (by omega) (getD_none _ _ (by omega))) rfl H (i := 2) rfl sl29 Try.underlying29 rfl rfl (H.slOwn (i := 4) rfl) (by omega) (fun a40 c41 w H => ?_))
        replace H : Hp w0 w [] ([.blk b1 ((List.replicate 32 (0 : UInt8)).map V8) 31, .own a3 s.len c4 ((s.l).map V8) 5 1, .own a40 (i + 1) c41 (((kpad (s.l) 54).take (i + 1)).map V8) 5 1, .own a2 i c2 (((kpad (s.l) 92).take i).map V8) 5 1, .own (some b39) 1 1 (([(0 : UInt8) ^^^ (54 : UInt8)]).map V8) 5 1]) := H
        refine l_op (o_val (r_mv) ?_)
        refine l_op (o_val (r_mv) ?_)
        refine l_op (o_val (r_bin rfl (c8 92 (by decide)) (fun _ => b_xor_u8)) ?_)
        refine l_op (o_bslB ([(0 : UInt8) ^^^ (92 : UInt8)]) H sl29 zc5 rfl rfl (by decide) (fun b42 w H hb42 => ?_))
        replace H : Hp w0 w [] ([.blk b1 ((List.replicate 32 (0 : UInt8)).map V8) 31, .own a3 s.len c4 ((s.l).map V8) 5 1, .own a40 (i + 1) c41 (((kpad (s.l) 54).take (i + 1)).map V8) 5 1, .own a2 i c2 (((kpad (s.l) 92).take i).map V8) 5 1, .own (some b39) 1 1 (([(0 : UInt8) ^^^ (54 : UInt8)]).map V8) 5 1, .own (some b42) 1 1 (([(0 : UInt8) ^^^ (92 : UInt8)]).map V8) 5 1]) := H
        refine l_op (o_appB (s := ⟨hd (some b42), 1, 1, [(0 : UInt8) ^^^ (92 : UInt8)]⟩) (l' := (kpad (s.l) 92).take (i + 1)) (len' := i + 1) (kpad_step _ _ _ _ (by omega) (by omega) (getD_none _ _ (by omega))) rfl H (i := 3) rfl sl29 Try.underlying29 rfl rfl (H.slOwn (i := 5) rfl) (by omega) (fun a43 c44 w H => ?_))
        replace H : Hp w0 w [] ([.blk b1 ((List.replicate 32 (0 : UInt8)).map V8) 31, .own a3 s.len c4 ((s.l).map V8) 5 1, .own a40 (i + 1) c41 (((kpad (s.l) 54).take (i + 1)).map V8) 5 1, .own a43 (i + 1) c44 (((kpad (s.l) 92).take (i + 1)).map V8) 5 1, .own (some b39) 1 1 (([(0 : UInt8) ^^^ (54 : UInt8)]).map V8) 5 1, .own (some b42) 1 1 (([(0 : UInt8) ^^^ (92 : UInt8)]).map V8) 5 1]) := H
        refine l_op (o_val (r_as) ?_)
        refine l_op (o_val (r_as) ?_)
        first | refine l_end ?_ | refine l_nil ?_
        repeat refine c_seq ?_
        refine c_region ?_
        refine l_op (o_val (r_mv) ?_)
        refine l_op (o_val (r_bin (a := (i : Int)) (b := 1) rfl rfl (fun _ => b_add (by omega) (by omega))) ?_)
        refine l_op (o_val (r_as) ?_)
        first | refine l_end ?_ | refine l_nil ?_
        refine round_end (i + 1, a40, c41, a43, c44) ?_ ?_ ?_
        · exact ⟨rfl, rfl, rfl, rfl, rfl, show VI ((i : Int) + 1) = VI ((i + 1 : Nat) : Int) from congrArg VI (by omega), trivial⟩
        · refine ⟨?_, ?_⟩
          · try dsimp only
            exact by omega
          · exact H.sub (.cons_cons _ (.cons_cons _ (.cons_cons _ (.cons_cons _ (List.nil_sublist _)))))
        · show 64 - (i + 1 : Nat) < 64 - i; omega
    · skip
      repeat refine c_seq ?_
      refine c_no (by exact congrArg Value.bool (decide_eq_false hc29)) ?_
      refine c_exit ?_
      have hi2 : i = 64 := by omega
      subst hi2
      rw [kpad_all _ _ (by omega), kpad_all _ _ (by omega)] at H
      replace H : Hp w0 w [] ([.blk b1 ((List.replicate 32 (0 : UInt8)).map V8) 31, .own a3 s.len c4 ((s.l).map V8) 5 1, .own a 64 c ((kpad (s.l) 54).map V8) 5 1, .own a2 64 c2 ((kpad (s.l) 92).map V8) 5 1]) := H
      repeat refine c_seq ?_
      refine c_region ?_
      refine l_op (o_val (r_mv) ?_)
      refine l_op (o_val (r_mv) ?_)
      refine l_op (o_appB (s := u) (l' := kpad (s.l) 54 ++ u.l) (len' := 64 + u.len) rfl rfl H (i := 2) rfl sl29 Try.underlying29 rfl rfl (hu.up H (fun _ => apart_nil _)) (by omega) (fun a45 c46 w H => ?_))
      replace H : Hp w0 w [] ([.blk b1 ((List.replicate 32 (0 : UInt8)).map V8) 31, .own a3 s.len c4 ((s.l).map V8) 5 1, .own a45 (64 + u.len) c46 ((kpad (s.l) 54 ++ u.l).map V8) 5 1, .own a2 64 c2 ((kpad (s.l) 92).map V8) 5 1]) := H
      refine l_op (o_callR Try.func45 rfl rfl rfl (sum2_ret _ ⟨hd a45, 64 + u.len, c46, kpad (s.l) 54 ++ u.l⟩ (H.slOwn (i := 2) rfl) (by (try dsimp only); omega)) ?_)
      rintro _ w ⟨rfl, Hc⟩
      replace H : Hp w0 w [] ([.blk b1 ((List.replicate 32 (0 : UInt8)).map V8) 31, .own a3 s.len c4 ((s.l).map V8) 5 1, .own a45 (64 + u.len) c46 ((kpad (s.l) 54 ++ u.l).map V8) 5 1, .own a2 64 c2 ((kpad (s.l) 92).map V8) 5 1]) := H.call Hc
      clear Hc
      refine l_op (o_alloc H zc31 (fun b47 w H hb47 => ?_))
      replace H : Hp w0 w [] ([.blk b1 ((List.replicate 32 (0 : UInt8)).map V8) 31, .own a3 s.len c4 ((s.l).map V8) 5 1, .own a45 (64 + u.len) c46 ((kpad (s.l) 54 ++ u.l).map V8) 5 1, .own a2 64 c2 ((kpad (s.l) 92).map V8) 5 1, .blk b47 ((List.replicate 32 (0 : UInt8)).map V8) 31]) := H
      refine l_op (o_stA (l' := sha256 (kpad (s.l) 54 ++ u.l)) H (i := 4) rfl rfl rfl cs31 (show (List.replicate 32 (0 : UInt8)).length = 32 from (List.length_replicate ..)) (show (sha256 (kpad (s.l) 54 ++ u.l)).length = 32 from sha256_len _) (fun w H => ?_))
      replace H : Hp w0 w [] ([.blk b1 ((List.replicate 32 (0 : UInt8)).map V8) 31, .own a3 s.len c4 ((s.l).map V8) 5 1, .own a45 (64 + u.len) c46 ((kpad (s.l) 54 ++ u.l).map V8) 5 1, .own a2 64 c2 ((kpad (s.l) 92).map V8) 5 1, .blk b47 ((sha256 (kpad (s.l) 54 ++ u.l)).map V8) 31]) := H
      first | refine l_end ?_ | refine l_nil ?_
      repeat refine c_seq ?_
      refine c_region ?_
      refine l_op (o_val (r_mv) ?_)
      refine l_op (o_val (r_slA (h := 32) (m := 32) (lv := none) (hv := none) (mv := none) rfl ar31 rfl rfl rfl (fun w => sbn w)) ?_)
      refine l_op (o_appB (s := (⟨some ⟨b47, 0, none⟩, 32, 32, sha256 (kpad (s.l) 54 ++ u.l)⟩ : Sl)) (l' := kpad (s.l) 92 ++ (sha256 (kpad (s.l) 54 ++ u.l))) (len' := 96) rfl rfl H (i := 3) rfl sl29 Try.underlying29 rfl rfl (H.slBlkA (i := 4) rfl 32 (show (sha256 (kpad (s.l) 54 ++ u.l)).length = 32 from sha256_len _) (by decide)) (by omega) (fun a48 c49 w H => ?_))
      replace H : Hp w0 w [] ([.blk b1 ((List.replicate 32 (0 : UInt8)).map V8) 31, .own a3 s.len c4 ((s.l).map V8) 5 1, .own a45 (64 + u.len) c46 ((kpad (s.l) 54 ++ u.l).map V8) 5 1, .own a48 96 c49 ((kpad (s.l) 92 ++ (sha256 (kpad (s.l) 54 ++ u.l))).map V8) 5 1, .blk b47 ((sha256 (kpad (s.l) 54 ++ u.l)).map V8) 31]) := H
      refine l_op (o_callR Try.func45 rfl rfl rfl (sum2_ret _ ⟨hd a48, 96, c49, kpad (s.l) 92 ++ (sha256 (kpad (s.l) 54 ++ u.l))⟩ (H.slOwn (i := 3) rfl) (by (try dsimp only); omega)) ?_)
      rintro _ w ⟨rfl, Hc⟩
      replace H : Hp w0 w [] ([.blk b1 ((List.replicate 32 (0 : UInt8)).map V8) 31, .own a3 s.len c4 ((s.l).map V8) 5 1, .own a45 (64 + u.len) c46 ((kpad (s.l) 54 ++ u.l).map V8) 5 1, .own a48 96 c49 ((kpad (s.l) 92 ++ (sha256 (kpad (s.l) 54 ++ u.l))).map V8) 5 1, .blk b47 ((sha256 (kpad (s.l) 54 ++ u.l)).map V8) 31]) := H.call Hc
      clear Hc
      refine l_op (o_stA (l' := sha256 (kpad (s.l) 92 ++ (sha256 (kpad (s.l) 54 ++ u.l)))) H (i := 0) rfl rfl rfl cs31 (show (List.replicate 32 (0 : UInt8)).length = 32 from (List.length_replicate ..)) (show (sha256 (kpad (s.l) 92 ++ (sha256 (kpad (s.l) 54 ++ u.l)))).length = 32 from sha256_len _) (fun w H => ?_))
      replace H : Hp w0 w [] ([.blk b1 ((sha256 (kpad (s.l) 92 ++ (sha256 (kpad (s.l) 54 ++ u.l)))).map V8) 31, .own a3 s.len c4 ((s.l).map V8) 5 1, .own a45 (64 + u.len) c46 ((kpad (s.l) 54 ++ u.l).map V8) 5 1, .own a48 96 c49 ((kpad (s.l) 92 ++ (sha256 (kpad (s.l) 54 ++ u.l))).map V8) 5 1, .blk b47 ((sha256 (kpad (s.l) 54 ++ u.l)).map V8) 31]) := H
      first | refine l_end ?_ | refine l_nil ?_
      refine c_ret ?_
      try dsimp only [Exit.then, Exit.inBlock]
      refine e_retA (l := sha256 (kpad (s.l) 92 ++ (sha256 (kpad (s.l) 54 ++ u.l)))) Try.results50 H (i := 0) rfl rfl rt31 (show (sha256 (kpad (s.l) 92 ++ (sha256 (kpad (s.l) 54 ++ u.l)))).length = 32 from sha256_len _) ?_
      refine ⟨_, rfl, ?_⟩
      refine ⟨?_, H.sub (List.nil_sublist _)⟩
      rw [hmac, hkey, if_neg (by omega)]
theorem of3_ret (w0 : World) (s : Sl) (hs : s.ok w0) (pa : Option Addr) (pl pc : Nat) (ps : List Sl) (hr : RdS w0 pa (ps.map Sl.v)) (hl : ps.length = pl) (hok : ∀ p ∈ ps, p.ok w0) (h1 : s.len ≤ 1000000) (hp63 : pl ≤ 1048576) (hB : (framed (ps.map Sl.l)).length ≤ 1000000) :
    Ret Try.prog 53 [s.v, .slice pa pl pc] w0 fun v w' => v = .agg ((hmac s.l (framed (ps.map Sl.l))).map V8).toArray ∧ Hp w0 w' [] [] := by
  refine ret_mk Try.func53 rfl Try.ntmps53 (by simp) ?_
  have H := Hp.refl w0 []
  repeat refine c_seq ?_
  refine c_region ?_
  refine l_op (o_alloc H zc31 (fun b1 w H hb1 => ?_))
  replace H : Hp w0 w [] ([.blk b1 ((List.replicate 32 (0 : UInt8)).map V8) 31]) := H
  first | refine l_end ?_ | refine l_nil ?_
  repeat refine c_seq ?_
  refine c_region ?_
  refine l_op (o_val (r_as) ?_)
  first | refine l_end ?_ | refine l_nil ?_
  repeat refine c_seq ?_
  refine c_region ?_
  refine l_op (o_val (r_as) ?_)
  first | refine l_end ?_ | refine l_nil ?_
  repeat refine c_seq ?_
  refine c_block ?_
  repeat refine c_seq ?_
  refine c_loop3 (fun (i : Nat) (a : Option Nat) (c : Nat) => [(0, s.v), (1, .slice pa pl pc), (4, .pointer (some ⟨b1, 0, none⟩)), (5, .slice (hd a) ((fr ps i).length) c), (6, VI (i : Int))])
    (fun (i : Nat) (a : Option Nat) (c : Nat) w => (i ≤ pl) ∧ Hp w0 w [] ([.blk b1 ((List.replicate 32 (0 : UInt8)).map V8) 31, .own a ((fr ps i).length) c ((fr ps i).map V8) 5 1]))
    (fun (i : Nat) (a : Option Nat) (c : Nat) => pl - i) 0 none 0 ⟨rfl, rfl, rfl, rfl, rfl, trivial⟩ ⟨Nat.zero_le _, (H.nilEnd 5 1)⟩ ?_
  clear H
  rintro i a c τ w ⟨hi, H⟩
  repeat refine c_seq ?_
  refine c_region ?_
  refine l_op (o_val (r_mv) ?_)
  refine l_op (o_val (r_mv) ?_)
  refine l_op (o_val (r_lens el22 rfl) ?_)
  refine l_op (o_val (r_bin (a := (i : Int)) (b := (pl : Int)) rfl rfl (fun _ => b_lss)) ?_)
  first | refine l_end ?_ | refine l_nil ?_
  by_cases hc2 : (i : Int) < (pl : Int)
  · skip
    repeat refine c_seq ?_
    refine c_yes (by exact congrArg Value.bool (decide_eq_true hc2)) ?_
    refine c_skip ?_
    repeat refine c_seq ?_
    refine c_block ?_
    repeat refine c_seq ?_
    refine wp_held (fun w => Hp w0 w [] [.blk b1 ((List.replicate 32 (0 : UInt8)).map V8) 31]) mixed ?_
    replace H := H.drew
    have HS := H.sub (.cons_cons _ (List.nil_sublist _))
    refine t_take 0 rfl (by kernel_rfl) (by kernel_rfl) (by kernel_rfl) (fun _ _ _ h => h) (fun w HS => r_mv) HS ?_
    refine t_take 1 rfl (by kernel_rfl) (by kernel_rfl) (by kernel_rfl) (fun _ _ _ h => h) (fun w HS => r_mv) HS ?_
    refine t_take 2 rfl (by kernel_rfl) (by kernel_rfl) (by kernel_rfl) (fun _ _ _ h => h) (fun w HS => r_mv) HS ?_
    obtain ⟨ab3, ao4, ah5⟩ := (HS.rd hr (apart_nil _)).addr (by simp only [List.length_map]; omega)
    refine t_take 3 rfl (by kernel_rfl) (by kernel_rfl) (by kernel_rfl) (fun _ _ _ h => h) (fun w HS => r_isN i rfl rfl el22 ah5 (by omega) (by (try simp only [Sl.cut]); omega)) HS ?_
    obtain ⟨p6, hp7⟩ : ∃ p, ps[i]? = some p := ⟨_, List.getElem?_eq_getElem (by omega)⟩
    have hpok8 := hok p6 (List.mem_of_getElem? hp7)
    have hpok8n := hpok8.ln
    have hpok8m := hpok8.le
    refine t_take 4 rfl (by kernel_rfl) (by kernel_rfl) (by kernel_rfl) (fun _ _ _ h => h) (fun w HS => r_ldP (k := i) (HS.rd hr (apart_nil _)) ah5 rfl ct29 hp7) HS ?_
    refine t_take 5 rfl (by kernel_rfl) (by kernel_rfl) (by kernel_rfl) (fun _ _ _ h => h) (fun w HS => r_lens el29 rfl) HS ?_
    refine t_take 6 rfl (by kernel_rfl) (by kernel_rfl) (by kernel_rfl) (fun _ _ _ h => h) (fun w HS => r_conv (v := ((UInt64.ofNat p6.len).toNat : Int)) Try.underlying3 Try.underlying35 rfl (w_u64_N p6.len (by omega))) HS ?_
    refine t_take 9 rfl (by kernel_rfl) (by kernel_rfl) (by kernel_rfl) (fun _ _ _ h => h) (fun w HS => r_mv) HS ?_
    refine t_take 10 rfl (by kernel_rfl) (by kernel_rfl) (by kernel_rfl) (fun _ _ _ h => h) (fun w HS => r_mv) HS ?_
    refine t_take 11 rfl (by kernel_rfl) (by kernel_rfl) (by kernel_rfl) (fun _ _ _ h => h) (fun w HS => r_isN i rfl rfl el22 ah5 (by omega) (by (try simp only [Sl.cut]); omega)) HS ?_
    refine t_take 12 rfl (by kernel_rfl) (by kernel_rfl) (by kernel_rfl) (fun _ _ _ h => h) (fun w HS => r_ldP (k := i) (HS.rd hr (apart_nil _)) ah5 rfl ct29 hp7) HS ?_
    refine t_step 7 rfl (by kernel_rfl) (o_callR Try.func55 rfl rfl rfl (eight_ret _ (UInt64.ofNat p6.len)) ?_)
    rintro _ w ⟨a9, c10, rfl, Hc⟩
    replace H : Hp w0 w [] ([.blk b1 ((List.replicate 32 (0 : UInt8)).map V8) 31, .own a ((fr ps i).length) c ((fr ps i).map V8) 5 1, .own a9 8 c10 ((be (UInt64.ofNat p6.len).toNat 8).map V8) 5 1]) := H.call Hc
    clear Hc
    refine ⟨H.sub (.cons_cons _ (List.nil_sublist _)), ?_⟩
    replace HS := H.sub (.cons_cons _ (List.nil_sublist _))
    have hs1 := fr_succ ps i p6 hp7
    have hs2 := fr_le ps (i + 1)
    have hs3 : (fr ps (i + 1)).length = (fr ps i).length + 8 + p6.l.length := by rw [hs1]; simp [be_len]; omega
    refine t_step 8 rfl (by kernel_rfl) (o_appB (s := ⟨hd a9, 8, c10, be (UInt64.ofNat p6.len).toNat 8⟩) (l' := fr ps i ++ (be (UInt64.ofNat p6.len).toNat 8)) (len' := (fr ps i).length + 8) rfl rfl H (i := 1) rfl sl29 Try.underlying29 rfl rfl (H.slOwn (i := 2) rfl) (by omega) (fun a11 c12 w H => ?_))
    replace H : Hp w0 w [] ([.blk b1 ((List.replicate 32 (0 : UInt8)).map V8) 31, .own a11 ((fr ps i).length + 8) c12 ((fr ps i ++ (be (UInt64.ofNat p6.len).toNat 8)).map V8) 5 1, .own a9 8 c10 ((be (UInt64.ofNat p6.len).toNat 8).map V8) 5 1]) := H
    refine ⟨H.sub (.cons_cons _ (List.nil_sublist _)), ?_⟩
    replace HS := H.sub (.cons_cons _ (List.nil_sublist _))
    refine t_step 13 rfl (by kernel_rfl) (o_appB (s := p6) (l' := fr ps (i + 1)) (len' := (fr ps (i + 1)).length) (by rw [hs1, ofNat_nat _ (by omega), hpok8n]) (by omega) H (i := 1) rfl sl29 Try.underlying29 rfl rfl (hpok8.up H (fun _ => apart_nil _)) (by omega) (fun a13 c14 w H => ?_))
    replace H : Hp w0 w [] ([.blk b1 ((List.replicate 32 (0 : UInt8)).map V8) 31, .own a13 ((fr ps (i + 1)).length) c14 ((fr ps (i + 1)).map V8) 5 1, .own a9 8 c10 ((be (UInt64.ofNat p6.len).toNat 8).map V8) 5 1]) := H
    refine ⟨H.sub (.cons_cons _ (List.nil_sublist _)), ?_⟩
    replace HS := H.sub (.cons_cons _ (List.nil_sublist _))
    refine t_take 14 rfl (by kernel_rfl) (by kernel_rfl) (by kernel_rfl) (fun _ _ _ h => h) (fun w HS => r_as) HS ?_
    refine t_done (by kernel_rfl) ?_
    clear HS
    repeat refine c_seq ?_
    refine c_region ?_
    refine l_op (o_val (r_mv) ?_)
    refine l_op (o_val (r_bin (a := (i : Int)) (b := 1) rfl rfl (fun _ => b_add (by omega) (by omega))) ?_)
    refine l_op (o_val (r_as) ?_)
    first | refine l_end ?_ | refine l_nil ?_
    refine round_end (i + 1, a13, c14) ?_ ?_ ?_
    · exact ⟨rfl, rfl, rfl, rfl, show VI ((i : Int) + 1) = VI ((i + 1 : Nat) : Int) from congrArg VI (by omega), trivial⟩
    · refine ⟨?_, ?_⟩
      · try dsimp only
        exact by omega
      · exact H.sub (.cons_cons _ (.cons_cons _ (List.nil_sublist _)))
    · show pl - (i + 1 : Nat) < pl - i; omega
  · skip
    repeat refine c_seq ?_
    refine c_no (by exact congrArg Value.bool (decide_eq_false hc2)) ?_
    refine c_exit ?_
    have hi2 : i = pl := by omega
    subst hi2
    have hfl := fr_le ps i
    repeat refine c_seq ?_
    refine c_region ?_
    refine l_op (o_val (r_mv) ?_)
    refine l_op (o_val (r_mv) ?_)
    refine l_op (o_callR Try.func50 rfl rfl rfl (raw3_ret _ s ⟨hd a, (fr ps i).length, c, fr ps i⟩ (hs.up H (fun _ => apart_nil _)) (H.slOwn (i := 1) rfl) (by (try dsimp only); omega) (by (try dsimp only); omega)) ?_)
    rintro _ w ⟨rfl, Hc⟩
    replace H : Hp w0 w [] ([.blk b1 ((List.replicate 32 (0 : UInt8)).map V8) 31, .own a ((fr ps i).length) c ((fr ps i).map V8) 5 1]) := H.call Hc
    clear Hc
    refine l_op (o_stA (l' := hmac (s.l) (fr ps i)) H (i := 0) rfl rfl rfl cs31 (show (List.replicate 32 (0 : UInt8)).length = 32 from (List.length_replicate ..)) (show (hmac (s.l) (fr ps i)).length = 32 from hmac_len _ _) (fun w H => ?_))
    replace H : Hp w0 w [] ([.blk b1 ((hmac (s.l) (fr ps i)).map V8) 31, .own a ((fr ps i).length) c ((fr ps i).map V8) 5 1]) := H
    first | refine l_end ?_ | refine l_nil ?_
    refine c_ret ?_
    try dsimp only [Exit.then, Exit.inBlock]
    refine e_retA (l := hmac (s.l) (fr ps i)) Try.results53 H (i := 0) rfl rfl rt31 (show (hmac (s.l) (fr ps i)).length = 32 from hmac_len _ _) ?_
    refine ⟨_, rfl, ?_⟩
    rw [fr_all ps i hl]
    exact ⟨rfl, H.sub (List.nil_sublist _)⟩
theorem derive3_ret (w0 : World) (key : List UInt8) (hk : key.length = 32) (l : List UInt8) (hl : l.length ≤ 65536) (u : UInt64) :
    Ret Try.prog 57 [.agg ((key).map V8).toArray, .string ⟨(l).toArray⟩, V64 u] w0 fun v w' => v = .agg ((hmac key (framed [l, be u.toNat 8])).map V8).toArray ∧ Hp w0 w' [] [] := by
  refine ret_mk Try.func57 rfl Try.ntmps57 (by simp) ?_
  have H := Hp.refl w0 []
  repeat refine c_seq ?_
  refine c_region ?_
  refine l_op (o_box (v := .agg ((key).map V8).toArray) H rfl (fun b1 w H hb1 => ?_))
  replace H : Hp w0 w [] ([.blk b1 ((key).map V8) 31]) := H
  refine l_op (o_alloc H zc31 (fun b2 w H hb2 => ?_))
  replace H : Hp w0 w [] ([.blk b1 ((key).map V8) 31, .blk b2 ((List.replicate 32 (0 : UInt8)).map V8) 31]) := H
  first | refine l_end ?_ | refine l_nil ?_
  repeat refine c_seq ?_
  refine wp_held (fun w => Hp w0 w [] [.blk b1 ((key).map V8) 31]) mixed ?_
  replace H := H.drew
  have HS := H.sub (.cons_cons _ (List.nil_sublist _))
  refine t_take 0 rfl (by kernel_rfl) (by kernel_rfl) (by kernel_rfl) (fun _ _ _ h => h) (fun w HS => r_slA (h := 32) (m := 32) (lv := none) (hv := none) (mv := none) rfl ar31 rfl rfl rfl (fun w => sbn w)) HS ?_
  refine t_take 1 rfl (by kernel_rfl) (by kernel_rfl) (by kernel_rfl) (fun _ _ _ h => h) (fun w HS => r_mv) HS ?_
  refine t_take 3 rfl (by kernel_rfl) (by kernel_rfl) (by kernel_rfl) (fun _ _ _ h => h) (fun w HS => r_mv) HS ?_
  refine t_all [2, 4] (by kernel_rfl) (by simp) (all_cons (w_op 2 rfl ?_) (all_cons (w_op 4 rfl ?_) (all_nil)))
  · skip
    refine (o_s2B (l := l) H Try.underlying9 Try.underlying29 Try.underlying5 rfl (by omega) (fun b3 c4 ob5 w H hb3 hr6 => ?_))
    replace H : Hp w0 w [] ([.blk b1 ((key).map V8) 31, .blk b2 ((List.replicate 32 (0 : UInt8)).map V8) 31, .obj b3 ob5]) := H
    refine ⟨H.sub (.cons_cons _ (List.nil_sublist _)), ?_⟩
    replace HS := H.sub (.cons_cons _ (List.nil_sublist _))
    refine t_step 4 rfl (by kernel_rfl) (o_callR Try.func55 rfl rfl rfl (eight_ret _ (u)) ?_)
    rintro _ w ⟨a7, c8, rfl, Hc⟩
    replace H : Hp w0 w [] ([.blk b1 ((key).map V8) 31, .blk b2 ((List.replicate 32 (0 : UInt8)).map V8) 31, .obj b3 ob5, .own a7 8 c8 ((be (u).toNat 8).map V8) 5 1]) := H.call Hc
    clear Hc
    refine ⟨H.sub (.cons_cons _ (List.nil_sublist _)), ?_⟩
    replace HS := H.sub (.cons_cons _ (List.nil_sublist _))
    refine t_step 5 rfl (by kernel_rfl) (o_bslV ([(⟨some ⟨b3, 0, none⟩, (l).length, c4, l⟩ : Sl).v, .slice (hd a7) 8 c8]) H sl22 zc29 rfl (by simp [Value.oneCell', Sl.v]) rfl (by decide) (fun b9 w H hb9 => ?_))
    replace H : Hp w0 w [] ([.blk b1 ((key).map V8) 31, .blk b2 ((List.replicate 32 (0 : UInt8)).map V8) 31, .obj b3 ob5, .own a7 8 c8 ((be (u).toNat 8).map V8) 5 1, .own (some b9) 2 2 ([(⟨some ⟨b3, 0, none⟩, (l).length, c4, l⟩ : Sl).v, .slice (hd a7) 8 c8]) 29 1]) := H
    refine ⟨H.sub (.cons_cons _ (List.nil_sublist _)), ?_⟩
    replace HS := H.sub (.cons_cons _ (List.nil_sublist _))
    refine t_step 6 rfl (by kernel_rfl) (o_callR Try.func53 rfl rfl rfl (of3_ret _ (⟨some ⟨b1, 0, none⟩, 32, 32, key⟩ : Sl) (H.slBlkA (i := 0) rfl 32 (show (key).length = 32 from hk) (by decide)) (hd (some b9)) 2 2 [(⟨some ⟨b3, 0, none⟩, (l).length, c4, l⟩ : Sl), ⟨hd a7, 8, c8, be (u).toNat 8⟩] (H.own (i := 4) rfl) rfl (all2 (hr6 _ (H.has (.obj b3 ob5) (by simp))) (H.slOwn (i := 3) rfl)) (by (try dsimp only); omega) (by omega) (by simp [framed, be_len]; omega)) ?_)
    rintro _ w ⟨rfl, Hc⟩
    replace H : Hp w0 w [] ([.blk b1 ((key).map V8) 31, .blk b2 ((List.replicate 32 (0 : UInt8)).map V8) 31, .obj b3 ob5, .own a7 8 c8 ((be (u).toNat 8).map V8) 5 1, .own (some b9) 2 2 ([(⟨some ⟨b3, 0, none⟩, (l).length, c4, l⟩ : Sl).v, .slice (hd a7) 8 c8]) 29 1]) := H.call Hc
    clear Hc
    refine ⟨H.sub (.cons_cons _ (List.nil_sublist _)), ?_⟩
    replace HS := H.sub (.cons_cons _ (List.nil_sublist _))
    refine t_step 7 rfl (by kernel_rfl) (o_stA (l' := hmac (key) (framed [l, be (u).toNat 8])) H (i := 1) rfl rfl rfl cs31 (show (List.replicate 32 (0 : UInt8)).length = 32 from (List.length_replicate ..)) (show (hmac (key) (framed [l, be (u).toNat 8])).length = 32 from hmac_len _ _) (fun w H => ?_))
    replace H : Hp w0 w [] ([.blk b1 ((key).map V8) 31, .blk b2 ((hmac (key) (framed [l, be (u).toNat 8])).map V8) 31, .obj b3 ob5, .own a7 8 c8 ((be (u).toNat 8).map V8) 5 1, .own (some b9) 2 2 ([(⟨some ⟨b3, 0, none⟩, (l).length, c4, l⟩ : Sl).v, .slice (hd a7) 8 c8]) 29 1]) := H
    refine ⟨H.sub (.cons_cons _ (List.nil_sublist _)), ?_⟩
    replace HS := H.sub (.cons_cons _ (List.nil_sublist _))
    refine t_done (by kernel_rfl) ?_
    clear HS
    refine c_ret ?_
    try dsimp only [Exit.then, Exit.inBlock]
    refine e_retA (l := hmac (key) (framed [l, be (u).toNat 8])) Try.results57 H (i := 1) rfl rfl rt31 (show (hmac (key) (framed [l, be (u).toNat 8])).length = 32 from hmac_len _ _) ?_
    refine ⟨_, rfl, ?_⟩
    exact ⟨rfl, H.sub (List.nil_sublist _)⟩
  · skip
    refine (o_callR Try.func55 rfl rfl rfl (eight_ret _ (u)) ?_)
    rintro _ w ⟨a10, c11, rfl, Hc⟩
    replace H : Hp w0 w [] ([.blk b1 ((key).map V8) 31, .blk b2 ((List.replicate 32 (0 : UInt8)).map V8) 31, .own a10 8 c11 ((be (u).toNat 8).map V8) 5 1]) := H.call Hc
    clear Hc
    refine ⟨H.sub (.cons_cons _ (List.nil_sublist _)), ?_⟩
    replace HS := H.sub (.cons_cons _ (List.nil_sublist _))
    refine t_step 2 rfl (by kernel_rfl) (o_s2B (l := l) H Try.underlying9 Try.underlying29 Try.underlying5 rfl (by omega) (fun b12 c13 ob14 w H hb12 hr15 => ?_))
    replace H : Hp w0 w [] ([.blk b1 ((key).map V8) 31, .blk b2 ((List.replicate 32 (0 : UInt8)).map V8) 31, .own a10 8 c11 ((be (u).toNat 8).map V8) 5 1, .obj b12 ob14]) := H
    refine ⟨H.sub (.cons_cons _ (List.nil_sublist _)), ?_⟩
    replace HS := H.sub (.cons_cons _ (List.nil_sublist _))
    refine t_step 5 rfl (by kernel_rfl) (o_bslV ([(⟨some ⟨b12, 0, none⟩, (l).length, c13, l⟩ : Sl).v, .slice (hd a10) 8 c11]) H sl22 zc29 rfl (by simp [Value.oneCell', Sl.v]) rfl (by decide) (fun b16 w H hb16 => ?_))
    replace H : Hp w0 w [] ([.blk b1 ((key).map V8) 31, .blk b2 ((List.replicate 32 (0 : UInt8)).map V8) 31, .own a10 8 c11 ((be (u).toNat 8).map V8) 5 1, .obj b12 ob14, .own (some b16) 2 2 ([(⟨some ⟨b12, 0, none⟩, (l).length, c13, l⟩ : Sl).v, .slice (hd a10) 8 c11]) 29 1]) := H
    refine ⟨H.sub (.cons_cons _ (List.nil_sublist _)), ?_⟩
    replace HS := H.sub (.cons_cons _ (List.nil_sublist _))
    refine t_step 6 rfl (by kernel_rfl) (o_callR Try.func53 rfl rfl rfl (of3_ret _ (⟨some ⟨b1, 0, none⟩, 32, 32, key⟩ : Sl) (H.slBlkA (i := 0) rfl 32 (show (key).length = 32 from hk) (by decide)) (hd (some b16)) 2 2 [(⟨some ⟨b12, 0, none⟩, (l).length, c13, l⟩ : Sl), ⟨hd a10, 8, c11, be (u).toNat 8⟩] (H.own (i := 4) rfl) rfl (all2 (hr15 _ (H.has (.obj b12 ob14) (by simp))) (H.slOwn (i := 2) rfl)) (by (try dsimp only); omega) (by omega) (by simp [framed, be_len]; omega)) ?_)
    rintro _ w ⟨rfl, Hc⟩
    replace H : Hp w0 w [] ([.blk b1 ((key).map V8) 31, .blk b2 ((List.replicate 32 (0 : UInt8)).map V8) 31, .own a10 8 c11 ((be (u).toNat 8).map V8) 5 1, .obj b12 ob14, .own (some b16) 2 2 ([(⟨some ⟨b12, 0, none⟩, (l).length, c13, l⟩ : Sl).v, .slice (hd a10) 8 c11]) 29 1]) := H.call Hc
    clear Hc
    refine ⟨H.sub (.cons_cons _ (List.nil_sublist _)), ?_⟩
    replace HS := H.sub (.cons_cons _ (List.nil_sublist _))
    refine t_step 7 rfl (by kernel_rfl) (o_stA (l' := hmac (key) (framed [l, be (u).toNat 8])) H (i := 1) rfl rfl rfl cs31 (show (List.replicate 32 (0 : UInt8)).length = 32 from (List.length_replicate ..)) (show (hmac (key) (framed [l, be (u).toNat 8])).length = 32 from hmac_len _ _) (fun w H => ?_))
    replace H : Hp w0 w [] ([.blk b1 ((key).map V8) 31, .blk b2 ((hmac (key) (framed [l, be (u).toNat 8])).map V8) 31, .own a10 8 c11 ((be (u).toNat 8).map V8) 5 1, .obj b12 ob14, .own (some b16) 2 2 ([(⟨some ⟨b12, 0, none⟩, (l).length, c13, l⟩ : Sl).v, .slice (hd a10) 8 c11]) 29 1]) := H
    refine ⟨H.sub (.cons_cons _ (List.nil_sublist _)), ?_⟩
    replace HS := H.sub (.cons_cons _ (List.nil_sublist _))
    refine t_done (by kernel_rfl) ?_
    clear HS
    refine c_ret ?_
    try dsimp only [Exit.then, Exit.inBlock]
    refine e_retA (l := hmac (key) (framed [l, be (u).toNat 8])) Try.results57 H (i := 1) rfl rfl rt31 (show (hmac (key) (framed [l, be (u).toNat 8])).length = 32 from hmac_len _ _) ?_
    refine ⟨_, rfl, ?_⟩
    exact ⟨rfl, H.sub (List.nil_sublist _)⟩
end Go.Proofs.Ytjmbbhnpfmblpaa
