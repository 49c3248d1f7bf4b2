import Derived.Test.YtjmbbhnpfmblpaaAt
/- frames written and read, by the program and by the document. -/
namespace Go.Proofs.Ytjmbbhnpfmblpaa
open Go
set_option maxRecDepth 100000
def Z32 : List UInt8 := List.replicate 32 0
/-- the frame of bytes under a key. -/
def hash8 (k b : List UInt8) : List UInt8 := (sha256 (k ++ b)).take 8
def putF (k b : List UInt8) : List UInt8 := [199, 70] ++ be b.length 4 ++ hash8 k b ++ k ++ b
theorem putF_len (k b : List UInt8) (hk : k.length = 32) : (putF k b).length = 46 + b.length := by
  simp [putF, hash8, be_len, sha256_len, hk]; omega
/-- what stands at a beginning. -/
def takeF (l : List UInt8) : List UInt8 × List UInt8 × Nat × Nat :=
  if l.length < 46 then (Z32, [], 0, 3)
  else if ¬ (l.getD 0 0).toNat = 199 ∨ ¬ (l.getD 1 0).toNat = 70 then (Z32, [], 0, 4)
  else if 4200 < (num l 2 4).toNat then (Z32, [], 0, 2)
  else if l.length < 46 + (num l 2 4).toNat then (Z32, [], 0, 3)
  else if ¬ hash8 ((l.drop 14).take 32) ((l.drop 46).take (num l 2 4).toNat) = (l.drop 6).take 8 then (Z32, [], 0, 11)
  else ((l.drop 14).take 32, (l.drop 46).take (num l 2 4).toNat, 46 + (num l 2 4).toNat, 0)
theorem takeF_len (l : List UInt8) : (takeF l).1.length = 32 := by
  unfold takeF
  split
  · simp [Z32]
  split
  · simp [Z32]
  split
  · simp [Z32]
  split
  · simp [Z32]
  split
  · simp [Z32]
  · simp; omega
theorem be_ofbe : ∀ l : List UInt8, be (ofbe l) l.length = l := by
  suffices h : ∀ n (l : List UInt8), l.length = n → be (ofbe l) n = l from fun l => h _ l rfl
  have hb : ∀ n x (b : UInt8), be (x * 256 + b.toNat) (n + 1) = be x n ++ [b] := by
    intro n
    induction n with
    | zero => intro x b; simp [be]
    | succ n ih =>
      intro x b
      rw [be, ih x b, be, List.cons_append]
      congr 2
      have := u8_lt b
      rw [Nat.pow_succ, Nat.mul_comm (256 ^ n) 256, ← Nat.div_div_eq_div_mul]
      congr 1; omega
  intro n
  induction n with
  | zero => intro l hl; rw [List.length_eq_zero_iff.1 hl]; rfl
  | succ n ih =>
    intro l hl
    obtain ⟨r, b, rfl⟩ : ∃ r b, l = r ++ [b] := ⟨l.dropLast, l.getLast (by intro e; subst e; simp at hl), (List.dropLast_concat_getLast _).symm⟩
    rw [ofbe_snoc, hb, ih r (by simpa using hl)]
theorem ofbe_be (v : Nat) : ∀ n, v < 256 ^ n → ofbe (be v n) = v := by
  have hb : ∀ n x (b : UInt8), be (x * 256 + b.toNat) (n + 1) = be x n ++ [b] := by
    intro n
    induction n with
    | zero => intro x b; simp [be]
    | succ n ih =>
      intro x b
      rw [be, ih x b, be, List.cons_append]
      congr 2
      have := u8_lt b
      rw [Nat.pow_succ, Nat.mul_comm (256 ^ n) 256, ← Nat.div_div_eq_div_mul]
      congr 1; omega
  intro n
  induction n generalizing v with
  | zero => intro h; simp at h; subst h; rfl
  | succ n ih =>
    intro h
    have e : v = v / 256 * 256 + (UInt8.ofNat v).toNat := by rw [UInt8.toNat_ofNat']; omega
    rw [e, hb, ofbe_snoc, ih (v / 256) (by rw [Nat.pow_succ] at h; omega)]
theorem num_nat (l : List UInt8) (a n : Nat) (hn : n ≤ 7) : (num l a n).toNat = ofbe ((l.drop a).take n) := by
  have h := ofbe_lt ((l.drop a).take n)
  have h2 : ((l.drop a).take n).length ≤ 7 := by simp; omega
  have h3 : 256 ^ ((l.drop a).take n).length ≤ 256 ^ 7 := Nat.pow_le_pow_right (by decide) h2
  rw [num, ofNat_nat _ (by omega)]
theorem seg5 (l : List UInt8) (n : Nat) (h : 46 ≤ l.length) : l.take (46 + n) = [l.getD 0 0, l.getD 1 0] ++ (l.drop 2).take 4 ++ (l.drop 6).take 8 ++ (l.drop 14).take 32 ++ (l.drop 46).take n := by
  have e0 : l.take 2 = [l.getD 0 0, l.getD 1 0] := by rw [take_snoc l 1 (by omega), take_snoc l 0 (by omega)]; simp
  rw [List.take_add, show 46 = 14 + 32 from rfl, List.take_add, show 14 = 6 + 8 from rfl, List.take_add, show 6 = 2 + 4 from rfl, List.take_add, e0]
theorem putF_iff (l : List UInt8) (h : 46 ≤ l.length) (h0 : (l.getD 0 0).toNat = 199) (h1 : (l.getD 1 0).toNat = 70) (hN : 46 + (num l 2 4).toNat ≤ l.length) :
    putF ((l.drop 14).take 32) ((l.drop 46).take (num l 2 4).toNat) = l.take (46 + (num l 2 4).toNat) ↔ hash8 ((l.drop 14).take 32) ((l.drop 46).take (num l 2 4).toNat) = (l.drop 6).take 8 := by
  have e0 : l.getD 0 0 = 199 := UInt8.toNat_inj.1 h0
  have e1 : l.getD 1 0 = 70 := UInt8.toNat_inj.1 h1
  have e2 : be (num l 2 4).toNat 4 = (l.drop 2).take 4 := by
    have hl : ((l.drop 2).take 4).length = 4 := by simp; omega
    have := be_ofbe ((l.drop 2).take 4)
    rw [hl] at this
    rw [num_nat l 2 4 (by omega)]; exact this
  have e3 : ((l.drop 46).take (num l 2 4).toNat).length = (num l 2 4).toNat := by simp; omega
  rw [seg5 l _ h, e0, e1, putF, e3, e2]
  constructor
  · intro e
    have e' := List.append_cancel_right (List.append_cancel_right e)
    exact List.append_cancel_left e'
  · intro e; rw [e]
theorem bequal_ret (w0 : World) (s u : Sl) (hs : s.ok w0) (hu : u.ok w0) :
    Ret Try.prog 113 [s.v, u.v] w0 fun v w' => v = .bool (decide (s.l = u.l)) ∧ Hp w0 w' [] [] := by
  refine ret_mk Try.func113 rfl Try.ntmps113 (by simp) ?_
  have H := Hp.refl w0 []
  repeat refine c_seq ?_
  refine c_region ?_
  refine l_op (o_val (r_as) ?_)
  first | refine l_end ?_ | refine l_nil ?_
  repeat refine c_seq ?_
  refine c_region ?_
  refine l_op (o_val (r_mv) ?_)
  refine l_op (o_val (r_b2S (s := s) Try.underlying29 Try.underlying5 Try.underlying9 rfl (hs.up H (fun _ => apart_nil _))) ?_)
  refine l_op (o_val (r_mv) ?_)
  refine l_op (o_val (r_b2S (s := u) Try.underlying29 Try.underlying5 Try.underlying9 rfl (hu.up H (fun _ => apart_nil _))) ?_)
  refine l_op (o_val (r_streq (a := s.l) (b := u.l) rfl rfl) ?_)
  refine l_op (o_val (r_as) ?_)
  first | refine l_end ?_ | refine l_nil ?_
  refine c_ret ?_
  try dsimp only [Exit.then, Exit.inBlock]
  refine e_ret1 (v := .bool (decide (s.l = u.l))) Try.results113 rfl ?_
  refine ⟨_, rfl, ?_⟩
  exact ⟨rfl, H⟩
theorem check_ret (w0 : World) (s u : Sl) (hs : s.ok w0) (hu : u.ok w0) :
    Ret Try.prog 111 [s.v, u.v] w0 fun v w' => ∃ b, v = .slice (some ⟨b, 0, none⟩) 8 8 ∧ Hp w0 w' [] [.blk b ((sha256 (s.l ++ u.l)).map V8) 31] := by
  refine ret_mk Try.func111 rfl Try.ntmps111 (by simp) ?_
  have H := Hp.refl w0 []
  repeat refine c_seq ?_
  refine c_region ?_
  refine l_op (o_val (r_as) ?_)
  first | refine l_end ?_ | refine l_nil ?_
  repeat refine c_seq ?_
  refine c_region ?_
  refine l_op (o_val (r_mv) ?_)
  refine l_op (o_val (r_mv) ?_)
  refine l_op (o_bslV ([s.v, u.v]) H sl22 zc29 rfl (by simp [Value.oneCell', Sl.v]) rfl (by decide) (fun b1 w H hb1 => ?_))
  replace H : Hp w0 w [] ([.own (some b1) 2 2 ([s.v, u.v]) 29 1]) := H
  refine l_op (o_callR Try.func37 rfl rfl rfl (sha2_ret _ _ s u (H.own (i := 0) rfl) (hs.up H (fun _ => apart_nil _)) (hu.up H (fun _ => apart_nil _))) ?_)
  rintro _ w ⟨rfl, Hc⟩
  replace H : Hp w0 w [] ([.own (some b1) 2 2 ([s.v, u.v]) 29 1]) := H.call Hc
  clear Hc
  refine l_op (o_alloc H zc31 (fun b2 w H hb2 => ?_))
  replace H : Hp w0 w [] ([.own (some b1) 2 2 ([s.v, u.v]) 29 1, .blk b2 ((List.replicate 32 (0 : UInt8)).map V8) 31]) := H
  refine l_op (o_stA (l' := sha256 (s.l ++ u.l)) H (i := 1) rfl rfl rfl cs31 (show (List.replicate 32 (0 : UInt8)).length = 32 from (List.length_replicate ..)) (show (sha256 (s.l ++ u.l)).length = 32 from sha256_len _) (fun w H => ?_))
  replace H : Hp w0 w [] ([.own (some b1) 2 2 ([s.v, u.v]) 29 1, .blk b2 ((sha256 (s.l ++ u.l)).map V8) 31]) := H
  first | refine l_end ?_ | refine l_nil ?_
  repeat refine c_seq ?_
  refine c_region ?_
  refine l_op (o_val (r_slA (h := 8) (m := 8) (lv := none) (hv := some (VI 8)) (mv := some (VI 8)) rfl ar31 rfl rfl rfl (fun w => by exact sbhm 8 8 (by omega) (by omega) (by omega) (by omega) w)) ?_)
  refine l_op (o_val (r_as) ?_)
  first | refine l_end ?_ | refine l_nil ?_
  refine c_ret ?_
  try dsimp only [Exit.then, Exit.inBlock]
  refine e_ret1 (v := (⟨some ⟨b2, 0, none⟩, 8, 8, (sha256 (s.l ++ u.l)).take 8⟩ : Sl).v) Try.results111 rfl ?_
  refine ⟨_, rfl, ?_⟩
  exact ⟨_, rfl, H.sub (.cons _ (.cons_cons _ (List.nil_sublist _)))⟩
theorem fput_ok (w0 : World) (key : List UInt8) (hk : key.length = 32) (s : Sl) (hs : s.ok w0) (hlen : s.len ≤ 4200) :
    Ret Try.prog 59 [.agg ((key).map V8).toArray, s.v] w0 fun v w' => ∃ a c, v = .tuple #[.slice (hd a) (46 + s.len) c, VI 0] ∧ Hp w0 w' [] [.own a (46 + s.len) c ((putF key s.l).map V8) 5 1] := by
  refine ret_mk Try.func59 rfl Try.ntmps59 (by simp) ?_
  have H := Hp.refl w0 []
  have hsl := hs.ln
  repeat refine c_seq ?_
  refine c_region ?_
  refine l_op (o_box (v := .agg ((key).map V8).toArray) H rfl (fun b1 w H hb1 => ?_))
  replace H : Hp w0 w [] ([.blk b1 ((key).map V8) 31]) := H
  refine l_op (o_val (r_as) ?_)
  refine l_op (o_val (r_as) ?_)
  first | refine l_end ?_ | refine l_nil ?_
  repeat refine c_seq ?_
  refine c_region ?_
  refine l_op (o_val (r_mv) ?_)
  refine l_op (o_val (r_lens el29 rfl) ?_)
  refine l_op (o_val (r_bin rfl rfl (fun _ => b_gtrB false (decide_eq_false (by omega)))) ?_)
  first | refine l_end ?_ | refine l_nil ?_
  repeat refine c_seq ?_
  refine c_no rfl ?_
  refine c_skip ?_
  repeat refine c_seq ?_
  refine c_region ?_
  refine l_op (o_bslB ([(199 : UInt8), (70 : UInt8)]) H sl29 zc5 rfl rfl (by decide) (fun b2 w H hb2 => ?_))
  replace H : Hp w0 w [] ([.blk b1 ((key).map V8) 31, .own (some b2) 2 2 (([(199 : UInt8), (70 : UInt8)]).map V8) 5 1]) := H
  refine l_op (o_val (r_mv) ?_)
  refine l_op (o_val (r_lens el29 rfl) ?_)
  refine l_op (o_val (r_conv (v := ((UInt64.ofNat s.len).toNat : Int)) Try.underlying3 Try.underlying35 rfl (w_u64_N s.len (by omega))) ?_)
  refine l_op (o_callR Try.func109 rfl rfl rfl (put_ret _ ⟨hd (some b2), 2, 2, [(199 : UInt8), (70 : UInt8)]⟩ (H.slOwn (i := 1) rfl) (UInt64.ofNat s.len) 4 (by omega) (by omega) (.inr (by rw [ofNat_nat _ (by omega)]; exact Nat.lt_of_le_of_lt (m := 4200) (by omega) (by decide))) (by (try dsimp only); omega)) ?_)
  rintro _ w ⟨a3, c4, rfl, Hc⟩
  replace H : Hp w0 w [] ([.blk b1 ((key).map V8) 31, .own (some b2) 2 2 (([(199 : UInt8), (70 : UInt8)]).map V8) 5 1, .own a3 (2 + 4) c4 (([(199 : UInt8), (70 : UInt8)] ++ be (UInt64.ofNat s.len).toNat 4).map V8) 5 1]) := H.call Hc
  clear Hc
  refine l_op (o_val (r_mv) ?_)
  refine l_op (o_val (r_ext rfl rfl) ?_)
  refine l_op (o_val (r_ext rfl rfl) ?_)
  refine l_op (o_val (r_as) ?_)
  refine l_op (o_val (r_as) ?_)
  first | refine l_end ?_ | refine l_nil ?_
  repeat refine c_seq ?_
  refine c_region ?_
  refine l_op (o_val (r_mv) ?_)
  refine l_op (o_val (r_slA (h := 32) (m := 32) (lv := none) (hv := none) (mv := none) rfl ar31 rfl rfl rfl (fun w => sbn w)) ?_)
  refine l_op (o_val (r_mv) ?_)
  refine l_op (o_callR Try.func111 rfl rfl rfl (check_ret _ (⟨some ⟨b1, 0, none⟩, 32, 32, key⟩ : Sl) s (H.slBlkA (i := 0) rfl 32 (show (key).length = 32 from hk) (by decide)) (hs.up H (fun _ => apart_nil _))) ?_)
  rintro _ w ⟨b5, rfl, Hc⟩
  replace H : Hp w0 w [] ([.blk b1 ((key).map V8) 31, .own (some b2) 2 2 (([(199 : UInt8), (70 : UInt8)]).map V8) 5 1, .own a3 (2 + 4) c4 (([(199 : UInt8), (70 : UInt8)] ++ be (UInt64.ofNat s.len).toNat 4).map V8) 5 1, .blk b5 ((sha256 (key ++ s.l)).map V8) 31]) := H.call Hc
  clear Hc
  refine l_op (o_appB (s := (⟨some ⟨b5, 0, none⟩, 8, 8, hash8 (key) (s.l)⟩ : Sl)) (l' := [(199 : UInt8), (70 : UInt8)] ++ be (UInt64.ofNat s.len).toNat 4 ++ (hash8 (key) (s.l))) (len' := 2 + 4 + 8) rfl rfl H (i := 2) rfl sl29 Try.underlying29 rfl rfl (H.slBlk (i := 3) rfl 8 8 (by rw [(show (sha256 (key ++ s.l)).length = 32 from sha256_len _)]; omega) (by omega) (by omega)) (by omega) (fun a6 c7 w H => ?_))
  replace H : Hp w0 w [] ([.blk b1 ((key).map V8) 31, .own (some b2) 2 2 (([(199 : UInt8), (70 : UInt8)]).map V8) 5 1, .own a6 (2 + 4 + 8) c7 (([(199 : UInt8), (70 : UInt8)] ++ be (UInt64.ofNat s.len).toNat 4 ++ (hash8 (key) (s.l))).map V8) 5 1, .blk b5 ((sha256 (key ++ s.l)).map V8) 31]) := H
  refine l_op (o_val (r_as) ?_)
  first | refine l_end ?_ | refine l_nil ?_
  repeat refine c_seq ?_
  refine c_region ?_
  refine l_op (o_val (r_mv) ?_)
  refine l_op (o_val (r_slA (h := 32) (m := 32) (lv := none) (hv := none) (mv := none) rfl ar31 rfl rfl rfl (fun w => sbn w)) ?_)
  refine l_op (o_appB (s := (⟨some ⟨b1, 0, none⟩, 32, 32, key⟩ : Sl)) (l' := [(199 : UInt8), (70 : UInt8)] ++ be (UInt64.ofNat s.len).toNat 4 ++ (hash8 (key) (s.l)) ++ key) (len' := 2 + 4 + 8 + 32) rfl rfl H (i := 2) rfl sl29 Try.underlying29 rfl rfl (H.slBlkA (i := 0) rfl 32 (show (key).length = 32 from hk) (by decide)) (by omega) (fun a8 c9 w H => ?_))
  replace H : Hp w0 w [] ([.blk b1 ((key).map V8) 31, .own (some b2) 2 2 (([(199 : UInt8), (70 : UInt8)]).map V8) 5 1, .own a8 (2 + 4 + 8 + 32) c9 (([(199 : UInt8), (70 : UInt8)] ++ be (UInt64.ofNat s.len).toNat 4 ++ (hash8 (key) (s.l)) ++ key).map V8) 5 1, .blk b5 ((sha256 (key ++ s.l)).map V8) 31]) := H
  refine l_op (o_val (r_as) ?_)
  first | refine l_end ?_ | refine l_nil ?_
  repeat refine c_seq ?_
  refine c_region ?_
  refine l_op (o_val (r_mv) ?_)
  refine l_op (o_val (r_mv) ?_)
  refine l_op (o_appB (s := s) (l' := [(199 : UInt8), (70 : UInt8)] ++ be (UInt64.ofNat s.len).toNat 4 ++ (hash8 (key) (s.l)) ++ key ++ s.l) (len' := 2 + 4 + 8 + 32 + s.len) rfl rfl H (i := 2) rfl sl29 Try.underlying29 rfl rfl (hs.up H (fun _ => apart_nil _)) (by omega) (fun a10 c11 w H => ?_))
  replace H : Hp w0 w [] ([.blk b1 ((key).map V8) 31, .own (some b2) 2 2 (([(199 : UInt8), (70 : UInt8)]).map V8) 5 1, .own a10 (2 + 4 + 8 + 32 + s.len) c11 (([(199 : UInt8), (70 : UInt8)] ++ be (UInt64.ofNat s.len).toNat 4 ++ (hash8 (key) (s.l)) ++ key ++ s.l).map V8) 5 1, .blk b5 ((sha256 (key ++ s.l)).map V8) 31]) := H
  refine l_op (o_val (r_as) ?_)
  refine l_op (o_val (r_as) ?_)
  first | refine l_end ?_ | refine l_nil ?_
  refine c_ret ?_
  try dsimp only [Exit.then, Exit.inBlock]
  refine e_retN (vs := [.slice (hd a10) (2 + 4 + 8 + 32 + s.len) c11, VI 0]) _ Try.results59 rfl (resT (v := .slice (hd a10) (2 + 4 + 8 + 32 + s.len) c11) rfl (resT (v := VI 0) rfl (resZ))) ?_
  refine ⟨_, rfl, ?_⟩
  refine ⟨_, _, rfl, ?_⟩
  have e : [(199 : UInt8), (70 : UInt8)] ++ be (UInt64.ofNat s.len).toNat 4 ++ (hash8 (key) (s.l)) ++ key ++ s.l = putF key s.l := by first | (rw [putF, ofNat_nat _ (by omega), hsl]; done) | (rw [putF, ofNat_nat _ (by omega), hsl]; rfl)
  rw [e] at H
  exact H.sub (.cons _ (.cons _ (.cons_cons _ (List.nil_sublist _))))
theorem fput_long (w0 : World) (key : List UInt8) (hk : key.length = 32) (s : Sl) (hs : s.ok w0) (hlen : 4200 < s.len) :
    Ret Try.prog 59 [.agg ((key).map V8).toArray, s.v] w0 fun v w' => v = .tuple #[.slice none 0 0, VI 2] ∧ Hp w0 w' [] [] := by
  refine ret_mk Try.func59 rfl Try.ntmps59 (by simp) ?_
  have H := Hp.refl w0 []
  have hsl := hs.ln
  repeat refine c_seq ?_
  refine c_region ?_
  refine l_op (o_box (v := .agg ((key).map V8).toArray) H rfl (fun b1 w H hb1 => ?_))
  replace H : Hp w0 w [] ([.blk b1 ((key).map V8) 31]) := H
  refine l_op (o_val (r_as) ?_)
  refine l_op (o_val (r_as) ?_)
  first | refine l_end ?_ | refine l_nil ?_
  repeat refine c_seq ?_
  refine c_region ?_
  refine l_op (o_val (r_mv) ?_)
  refine l_op (o_val (r_lens el29 rfl) ?_)
  refine l_op (o_val (r_bin rfl rfl (fun _ => b_gtrB true (decide_eq_true (by omega)))) ?_)
  first | refine l_end ?_ | refine l_nil ?_
  repeat refine c_seq ?_
  refine c_yes rfl ?_
  repeat refine c_seq ?_
  refine c_region ?_
  refine l_op (o_val (r_as) ?_)
  refine l_op (o_val (r_as) ?_)
  first | refine l_end ?_ | refine l_nil ?_
  refine c_ret ?_
  try dsimp only [Exit.then, Exit.inBlock]
  refine e_retN (vs := [.slice none 0 0, VI 2]) _ Try.results59 rfl (resT (v := .slice none 0 0) rfl (resT (v := VI 2) rfl (resZ))) ?_
  refine ⟨_, rfl, ?_⟩
  exact ⟨rfl, H.sub (List.nil_sublist _)⟩
theorem fput10_ok (w0 : World) (key : List UInt8) (hk : key.length = 32) (s : Sl) (hs : s.ok w0) (hlen : s.len ≤ 4200) :
    Ret Try.prog 60 [.agg ((key).map V8).toArray, s.v] w0 fun v w' => ∃ a c, v = .tuple #[.slice (hd a) (46 + s.len) c, VI 0] ∧ Hp w0 w' [] [.own a (46 + s.len) c ((putF key s.l).map V8) 5 1] := by
  refine ret_mk Try.func60 rfl Try.ntmps60 (by simp) ?_
  have H := Hp.refl w0 []
  have hsl := hs.ln
  repeat refine c_seq ?_
  refine c_region ?_
  refine l_op (o_box (v := .agg ((key).map V8).toArray) H rfl (fun b1 w H hb1 => ?_))
  replace H : Hp w0 w [] ([.blk b1 ((key).map V8) 31]) := H
  refine l_op (o_val (r_as) ?_)
  refine l_op (o_val (r_as) ?_)
  first | refine l_end ?_ | refine l_nil ?_
  repeat refine c_seq ?_
  refine c_region ?_
  refine l_op (o_val (r_mv) ?_)
  refine l_op (o_val (r_lens el29 rfl) ?_)
  refine l_op (o_val (r_bin rfl rfl (fun _ => b_gtrB false (decide_eq_false (by omega)))) ?_)
  first | refine l_end ?_ | refine l_nil ?_
  repeat refine c_seq ?_
  refine c_no rfl ?_
  refine c_skip ?_
  repeat refine c_seq ?_
  refine c_region ?_
  refine l_op (o_bslB ([(199 : UInt8), (70 : UInt8)]) H sl29 zc5 rfl rfl (by decide) (fun b2 w H hb2 => ?_))
  replace H : Hp w0 w [] ([.blk b1 ((key).map V8) 31, .own (some b2) 2 2 (([(199 : UInt8), (70 : UInt8)]).map V8) 5 1]) := H
  refine l_op (o_val (r_mv) ?_)
  refine l_op (o_val (r_lens el29 rfl) ?_)
  refine l_op (o_val (r_conv (v := ((UInt64.ofNat s.len).toNat : Int)) Try.underlying3 Try.underlying35 rfl (w_u64_N s.len (by omega))) ?_)
  refine l_op (o_callR Try.func110 rfl rfl rfl (put1_ret _ ⟨hd (some b2), 2, 2, [(199 : UInt8), (70 : UInt8)]⟩ (H.slOwn (i := 1) rfl) (UInt64.ofNat s.len) 4 (by omega) (by omega) (by rw [ofNat_nat _ (by omega)]; exact Nat.lt_of_le_of_lt (m := 4200) (by omega) (by decide)) (by (try dsimp only); omega)) ?_)
  rintro _ w ⟨a3, c4, rfl, Hc⟩
  replace H : Hp w0 w [] ([.blk b1 ((key).map V8) 31, .own (some b2) 2 2 (([(199 : UInt8), (70 : UInt8)]).map V8) 5 1, .own a3 (2 + 4) c4 (([(199 : UInt8), (70 : UInt8)] ++ be (UInt64.ofNat s.len).toNat 4).map V8) 5 1]) := H.call Hc
  clear Hc
  refine l_op (o_val (r_mv) ?_)
  refine l_op (o_val (r_ext rfl rfl) ?_)
  refine l_op (o_val (r_ext rfl rfl) ?_)
  refine l_op (o_val (r_as) ?_)
  refine l_op (o_val (r_as) ?_)
  first | refine l_end ?_ | refine l_nil ?_
  repeat refine c_seq ?_
  refine c_region ?_
  refine l_op (o_val (r_slA (h := 32) (m := 32) (lv := none) (hv := none) (mv := none) rfl ar31 rfl rfl rfl (fun w => sbn w)) ?_)
  refine l_op (o_val (r_mv) ?_)
  refine l_op (o_bslV ([(⟨some ⟨b1, 0, none⟩, 32, 32, key⟩ : Sl).v, s.v]) H sl22 zc29 rfl (by simp [Value.oneCell', Sl.v]) rfl (by decide) (fun b5 w H hb5 => ?_))
  replace H : Hp w0 w [] ([.blk b1 ((key).map V8) 31, .own (some b2) 2 2 (([(199 : UInt8), (70 : UInt8)]).map V8) 5 1, .own a3 (2 + 4) c4 (([(199 : UInt8), (70 : UInt8)] ++ be (UInt64.ofNat s.len).toNat 4).map V8) 5 1, .own (some b5) 2 2 ([(⟨some ⟨b1, 0, none⟩, 32, 32, key⟩ : Sl).v, s.v]) 29 1]) := H
  refine l_op (o_callR Try.func36 rfl rfl rfl (of2_2_ret _ 2 (⟨some ⟨b1, 0, none⟩, 32, 32, key⟩ : Sl) s (H.own (i := 3) rfl) (H.slBlkA (i := 0) rfl 32 (show (key).length = 32 from hk) (by decide)) (hs.up H (fun _ => apart_nil _)) (by (try dsimp only); omega)) ?_)
  rintro _ w ⟨rfl, Hc⟩
  replace H : Hp w0 w [] ([.blk b1 ((key).map V8) 31, .own (some b2) 2 2 (([(199 : UInt8), (70 : UInt8)]).map V8) 5 1, .own a3 (2 + 4) c4 (([(199 : UInt8), (70 : UInt8)] ++ be (UInt64.ofNat s.len).toNat 4).map V8) 5 1, .own (some b5) 2 2 ([(⟨some ⟨b1, 0, none⟩, 32, 32, key⟩ : Sl).v, s.v]) 29 1]) := H.call Hc
  clear Hc
  refine l_op (o_alloc H zc31 (fun b6 w H hb6 => ?_))
  replace H : Hp w0 w [] ([.blk b1 ((key).map V8) 31, .own (some b2) 2 2 (([(199 : UInt8), (70 : UInt8)]).map V8) 5 1, .own a3 (2 + 4) c4 (([(199 : UInt8), (70 : UInt8)] ++ be (UInt64.ofNat s.len).toNat 4).map V8) 5 1, .own (some b5) 2 2 ([(⟨some ⟨b1, 0, none⟩, 32, 32, key⟩ : Sl).v, s.v]) 29 1, .blk b6 ((List.replicate 32 (0 : UInt8)).map V8) 31]) := H
  refine l_op (o_stA (l' := sha256 (key ++ s.l)) H (i := 4) rfl rfl rfl cs31 (show (List.replicate 32 (0 : UInt8)).length = 32 from (List.length_replicate ..)) (show (sha256 (key ++ s.l)).length = 32 from sha256_len _) (fun w H => ?_))
  replace H : Hp w0 w [] ([.blk b1 ((key).map V8) 31, .own (some b2) 2 2 (([(199 : UInt8), (70 : UInt8)]).map V8) 5 1, .own a3 (2 + 4) c4 (([(199 : UInt8), (70 : UInt8)] ++ be (UInt64.ofNat s.len).toNat 4).map V8) 5 1, .own (some b5) 2 2 ([(⟨some ⟨b1, 0, none⟩, 32, 32, key⟩ : Sl).v, s.v]) 29 1, .blk b6 ((sha256 (key ++ s.l)).map V8) 31]) := H
  first | refine l_end ?_ | refine l_nil ?_
  repeat refine c_seq ?_
  refine wp_held (fun w => Hp w0 w [] [.blk b1 ((key).map V8) 31, .own (some b2) 2 2 (([(199 : UInt8), (70 : UInt8)]).map V8) 5 1, .own (some b5) 2 2 ([(⟨some ⟨b1, 0, none⟩, 32, 32, key⟩ : Sl).v, s.v]) 29 1, .blk b6 ((sha256 (key ++ s.l)).map V8) 31]) mixed ?_
  replace H := H.drew
  have HS := H.sub (.cons_cons _ (.cons_cons _ (.cons _ (.cons_cons _ (.cons_cons _ (List.nil_sublist _))))))
  refine t_take 0 rfl (by kernel_rfl) (by kernel_rfl) (by kernel_rfl) (fun _ _ _ h => h) (fun w HS => r_mv) HS ?_
  refine t_take 1 rfl (by kernel_rfl) (by kernel_rfl) (by kernel_rfl) (fun _ _ _ h => h) (fun w HS => r_slA (h := 8) (m := 32) (lv := none) (hv := some (VI 8)) (mv := none) rfl ar31 rfl rfl rfl (fun w => by exact sbh 8 (by omega) (by omega) w)) HS ?_
  refine t_take 3 rfl (by kernel_rfl) (by kernel_rfl) (by kernel_rfl) (fun _ _ _ h => h) (fun w HS => r_slA (h := 32) (m := 32) (lv := none) (hv := none) (mv := none) rfl ar31 rfl rfl rfl (fun w => sbn w)) HS ?_
  refine t_take 5 rfl (by kernel_rfl) (by kernel_rfl) (by kernel_rfl) (fun _ _ _ h => h) (fun w HS => r_mv) HS ?_
  refine t_step 2 rfl (by kernel_rfl) (o_appB (s := (⟨some ⟨b6, 0, none⟩, 8, 32, (sha256 (key ++ s.l)).take 8⟩ : Sl)) (l' := [(199 : UInt8), (70 : UInt8)] ++ be (UInt64.ofNat s.len).toNat 4 ++ ((sha256 (key ++ s.l)).take 8)) (len' := 2 + 4 + 8) rfl rfl H (i := 2) rfl sl29 Try.underlying29 rfl rfl (H.slBlk (i := 4) rfl 8 32 (by rw [(show (sha256 (key ++ s.l)).length = 32 from sha256_len _)]; omega) (by omega) (by omega)) (by omega) (fun a7 c8 w H => ?_))
  replace H : Hp w0 w [] ([.blk b1 ((key).map V8) 31, .own (some b2) 2 2 (([(199 : UInt8), (70 : UInt8)]).map V8) 5 1, .own a7 (2 + 4 + 8) c8 (([(199 : UInt8), (70 : UInt8)] ++ be (UInt64.ofNat s.len).toNat 4 ++ ((sha256 (key ++ s.l)).take 8)).map V8) 5 1, .own (some b5) 2 2 ([(⟨some ⟨b1, 0, none⟩, 32, 32, key⟩ : Sl).v, s.v]) 29 1, .blk b6 ((sha256 (key ++ s.l)).map V8) 31]) := H
  refine ⟨H.sub (.cons_cons _ (.cons_cons _ (.cons _ (.cons_cons _ (.cons_cons _ (List.nil_sublist _)))))), ?_⟩
  replace HS := H.sub (.cons_cons _ (.cons_cons _ (.cons _ (.cons_cons _ (.cons_cons _ (List.nil_sublist _))))))
  refine t_step 4 rfl (by kernel_rfl) (o_appB (s := (⟨some ⟨b1, 0, none⟩, 32, 32, key⟩ : Sl)) (l' := [(199 : UInt8), (70 : UInt8)] ++ be (UInt64.ofNat s.len).toNat 4 ++ ((sha256 (key ++ s.l)).take 8) ++ key) (len' := 2 + 4 + 8 + 32) rfl rfl H (i := 2) rfl sl29 Try.underlying29 rfl rfl (H.slBlkA (i := 0) rfl 32 (show (key).length = 32 from hk) (by decide)) (by omega) (fun a9 c10 w H => ?_))
  replace H : Hp w0 w [] ([.blk b1 ((key).map V8) 31, .own (some b2) 2 2 (([(199 : UInt8), (70 : UInt8)]).map V8) 5 1, .own a9 (2 + 4 + 8 + 32) c10 (([(199 : UInt8), (70 : UInt8)] ++ be (UInt64.ofNat s.len).toNat 4 ++ ((sha256 (key ++ s.l)).take 8) ++ key).map V8) 5 1, .own (some b5) 2 2 ([(⟨some ⟨b1, 0, none⟩, 32, 32, key⟩ : Sl).v, s.v]) 29 1, .blk b6 ((sha256 (key ++ s.l)).map V8) 31]) := H
  refine ⟨H.sub (.cons_cons _ (.cons_cons _ (.cons _ (.cons_cons _ (.cons_cons _ (List.nil_sublist _)))))), ?_⟩
  replace HS := H.sub (.cons_cons _ (.cons_cons _ (.cons _ (.cons_cons _ (.cons_cons _ (List.nil_sublist _))))))
  refine t_step 6 rfl (by kernel_rfl) (o_appB (s := s) (l' := [(199 : UInt8), (70 : UInt8)] ++ be (UInt64.ofNat s.len).toNat 4 ++ ((sha256 (key ++ s.l)).take 8) ++ key ++ s.l) (len' := 2 + 4 + 8 + 32 + s.len) rfl rfl H (i := 2) rfl sl29 Try.underlying29 rfl rfl (hs.up H (fun _ => apart_nil _)) (by omega) (fun a11 c12 w H => ?_))
  replace H : Hp w0 w [] ([.blk b1 ((key).map V8) 31, .own (some b2) 2 2 (([(199 : UInt8), (70 : UInt8)]).map V8) 5 1, .own a11 (2 + 4 + 8 + 32 + s.len) c12 (([(199 : UInt8), (70 : UInt8)] ++ be (UInt64.ofNat s.len).toNat 4 ++ ((sha256 (key ++ s.l)).take 8) ++ key ++ s.l).map V8) 5 1, .own (some b5) 2 2 ([(⟨some ⟨b1, 0, none⟩, 32, 32, key⟩ : Sl).v, s.v]) 29 1, .blk b6 ((sha256 (key ++ s.l)).map V8) 31]) := H
  refine ⟨H.sub (.cons_cons _ (.cons_cons _ (.cons _ (.cons_cons _ (.cons_cons _ (List.nil_sublist _)))))), ?_⟩
  replace HS := H.sub (.cons_cons _ (.cons_cons _ (.cons _ (.cons_cons _ (.cons_cons _ (List.nil_sublist _))))))
  refine t_take 7 rfl (by kernel_rfl) (by kernel_rfl) (by kernel_rfl) (fun _ _ _ h => h) (fun w HS => r_as) HS ?_
  refine t_take 8 rfl (by kernel_rfl) (by kernel_rfl) (by kernel_rfl) (fun _ _ _ h => h) (fun w HS => r_as) HS ?_
  refine t_done (by kernel_rfl) ?_
  clear HS
  refine c_ret ?_
  try dsimp only [Exit.then, Exit.inBlock]
  refine e_retN (vs := [.slice (hd a11) (2 + 4 + 8 + 32 + s.len) c12, VI 0]) _ Try.results60 rfl (resT (v := .slice (hd a11) (2 + 4 + 8 + 32 + s.len) c12) rfl (resT (v := VI 0) rfl (resZ))) ?_
  refine ⟨_, rfl, ?_⟩
  refine ⟨_, _, rfl, ?_⟩
  have e : [(199 : UInt8), (70 : UInt8)] ++ be (UInt64.ofNat s.len).toNat 4 ++ ((sha256 (key ++ s.l)).take 8) ++ key ++ s.l = putF key s.l := by first | (rw [putF, ofNat_nat _ (by omega), hsl]; done) | (rw [putF, ofNat_nat _ (by omega), hsl]; rfl)
  rw [e] at H
  exact H.sub (.cons _ (.cons _ (.cons_cons _ (List.nil_sublist _))))
theorem fput10_long (w0 : World) (key : List UInt8) (hk : key.length = 32) (s : Sl) (hs : s.ok w0) (hlen : 4200 < s.len) :
    Ret Try.prog 60 [.agg ((key).map V8).toArray, s.v] w0 fun v w' => v = .tuple #[.slice none 0 0, VI 2] ∧ Hp w0 w' [] [] := by
  refine ret_mk Try.func60 rfl Try.ntmps60 (by simp) ?_
  have H := Hp.refl w0 []
  have hsl := hs.ln
  repeat refine c_seq ?_
  refine c_region ?_
  refine l_op (o_box (v := .agg ((key).map V8).toArray) H rfl (fun b1 w H hb1 => ?_))
  replace H : Hp w0 w [] ([.blk b1 ((key).map V8) 31]) := H
  refine l_op (o_val (r_as) ?_)
  refine l_op (o_val (r_as) ?_)
  first | refine l_end ?_ | refine l_nil ?_
  repeat refine c_seq ?_
  refine c_region ?_
  refine l_op (o_val (r_mv) ?_)
  refine l_op (o_val (r_lens el29 rfl) ?_)
  refine l_op (o_val (r_bin rfl rfl (fun _ => b_gtrB true (decide_eq_true (by omega)))) ?_)
  first | refine l_end ?_ | refine l_nil ?_
  repeat refine c_seq ?_
  refine c_yes rfl ?_
  repeat refine c_seq ?_
  refine c_region ?_
  refine l_op (o_val (r_as) ?_)
  refine l_op (o_val (r_as) ?_)
  first | refine l_end ?_ | refine l_nil ?_
  refine c_ret ?_
  try dsimp only [Exit.then, Exit.inBlock]
  refine e_retN (vs := [.slice none 0 0, VI 2]) _ Try.results60 rfl (resT (v := .slice none 0 0) rfl (resT (v := VI 2) rfl (resZ))) ?_
  refine ⟨_, rfl, ?_⟩
  exact ⟨rfl, H.sub (List.nil_sublist _)⟩
theorem fsize_ret (w0 : World) (n : Int) :
    Ret Try.prog 61 [VI n] w0 fun v w' => v = VI (if n < 0 ∨ 4200 < n then 0 else 46 + n) ∧ Hp w0 w' [] [] := by
  refine ret_mk Try.func61 rfl Try.ntmps61 (by simp) ?_
  have H := Hp.refl w0 []
  repeat refine c_seq ?_
  refine c_region ?_
  refine l_op (o_val (r_as) ?_)
  first | refine l_end ?_ | refine l_nil ?_
  repeat refine c_seq ?_
  refine c_region ?_
  refine l_op (o_val (r_mv) ?_)
  refine l_op (o_val (r_bin rfl rfl (fun _ => b_lss)) ?_)
  refine l_op (o_val (r_mv) ?_)
  by_cases hc1 : n < 0
  · skip
    refine l_no rfl rfl (by exact congrArg Value.bool (decide_eq_true hc1)) rfl ?_
    refine l_no rfl rfl (by exact congrArg Value.bool (decide_eq_true hc1)) rfl ?_
    refine l_op (o_val (r_pick (b := true) (congrArg Value.bool (decide_eq_true hc1))) ?_)
    first | refine l_end ?_ | refine l_nil ?_
    repeat refine c_seq ?_
    refine c_yes rfl ?_
    repeat refine c_seq ?_
    refine c_region ?_
    refine l_op (o_val (r_as) ?_)
    first | refine l_end ?_ | refine l_nil ?_
    refine c_ret ?_
    try dsimp only [Exit.then, Exit.inBlock]
    refine e_ret1 (v := VI 0) Try.results61 rfl ?_
    refine ⟨_, rfl, ?_⟩
    refine ⟨?_, H⟩
    rw [if_pos (by omega)]
  · skip
    refine l_yes rfl rfl (by exact congrArg Value.bool (decide_eq_false hc1)) (o_val (r_mv) ?_)
    refine l_yes rfl rfl (by exact congrArg Value.bool (decide_eq_false hc1)) (o_val (r_bin rfl rfl (fun _ => b_gtr)) ?_)
    refine l_op (o_val (r_pick (b := false) (congrArg Value.bool (decide_eq_false hc1))) ?_)
    first | refine l_end ?_ | refine l_nil ?_
    by_cases hc2 : 4200 < n
    · skip
      repeat refine c_seq ?_
      refine c_yes (by exact congrArg Value.bool (decide_eq_true hc2)) ?_
      repeat refine c_seq ?_
      refine c_region ?_
      refine l_op (o_val (r_as) ?_)
      first | refine l_end ?_ | refine l_nil ?_
      refine c_ret ?_
      try dsimp only [Exit.then, Exit.inBlock]
      refine e_ret1 (v := VI 0) Try.results61 rfl ?_
      refine ⟨_, rfl, ?_⟩
      refine ⟨?_, H⟩
      rw [if_pos (by omega)]
    · skip
      repeat refine c_seq ?_
      refine c_no (by exact congrArg Value.bool (decide_eq_false hc2)) ?_
      refine c_skip ?_
      repeat refine c_seq ?_
      refine c_region ?_
      refine l_op (o_val (r_mv) ?_)
      refine l_op (o_val (r_bin rfl rfl (fun _ => b_add (by omega) (by omega))) ?_)
      refine l_op (o_val (r_as) ?_)
      first | refine l_end ?_ | refine l_nil ?_
      refine c_ret ?_
      try dsimp only [Exit.then, Exit.inBlock]
      refine e_ret1 (v := VI (46 + n)) Try.results61 rfl ?_
      refine ⟨_, rfl, ?_⟩
      refine ⟨?_, H⟩
      rw [if_neg (by omega)]
theorem fsize10_ret (w0 : World) (n : Int) :
    Ret Try.prog 62 [VI n] w0 fun v w' => v = VI (if n < 0 ∨ 4200 < n then 0 else 46 + n) ∧ Hp w0 w' [] [] := by
  refine ret_mk Try.func62 rfl Try.ntmps62 (by simp) ?_
  have H := Hp.refl w0 []
  repeat refine c_seq ?_
  refine c_region ?_
  refine l_op (o_val (r_as) ?_)
  first | refine l_end ?_ | refine l_nil ?_
  repeat refine c_seq ?_
  refine c_region ?_
  refine l_op (o_val (r_mv) ?_)
  refine l_op (o_val (r_bin rfl rfl (fun _ => b_lss)) ?_)
  refine l_op (o_val (r_mv) ?_)
  by_cases hc1 : n < 0
  · skip
    refine l_no rfl rfl (by exact congrArg Value.bool (decide_eq_true hc1)) rfl ?_
    refine l_no rfl rfl (by exact congrArg Value.bool (decide_eq_true hc1)) rfl ?_
    refine l_op (o_val (r_pick (b := true) (congrArg Value.bool (decide_eq_true hc1))) ?_)
    first | refine l_end ?_ | refine l_nil ?_
    repeat refine c_seq ?_
    refine c_yes rfl ?_
    repeat refine c_seq ?_
    refine c_region ?_
    refine l_op (o_val (r_as) ?_)
    first | refine l_end ?_ | refine l_nil ?_
    refine c_ret ?_
    try dsimp only [Exit.then, Exit.inBlock]
    refine e_ret1 (v := VI 0) Try.results62 rfl ?_
    refine ⟨_, rfl, ?_⟩
    refine ⟨?_, H⟩
    rw [if_pos (by omega)]
  · skip
    refine l_yes rfl rfl (by exact congrArg Value.bool (decide_eq_false hc1)) (o_val (r_mv) ?_)
    refine l_yes rfl rfl (by exact congrArg Value.bool (decide_eq_false hc1)) (o_val (r_bin rfl rfl (fun _ => b_gtr)) ?_)
    refine l_op (o_val (r_pick (b := false) (congrArg Value.bool (decide_eq_false hc1))) ?_)
    first | refine l_end ?_ | refine l_nil ?_
    by_cases hc2 : 4200 < n
    · skip
      repeat refine c_seq ?_
      refine c_yes (by exact congrArg Value.bool (decide_eq_true hc2)) ?_
      repeat refine c_seq ?_
      refine c_region ?_
      refine l_op (o_val (r_as) ?_)
      first | refine l_end ?_ | refine l_nil ?_
      refine c_ret ?_
      try dsimp only [Exit.then, Exit.inBlock]
      refine e_ret1 (v := VI 0) Try.results62 rfl ?_
      refine ⟨_, rfl, ?_⟩
      refine ⟨?_, H⟩
      rw [if_pos (by omega)]
    · skip
      repeat refine c_seq ?_
      refine c_no (by exact congrArg Value.bool (decide_eq_false hc2)) ?_
      refine c_skip ?_
      repeat refine c_seq ?_
      refine c_region ?_
      refine l_op (o_val (r_mv) ?_)
      refine l_op (o_val (r_bin rfl rfl (fun _ => b_add (by omega) (by omega))) ?_)
      refine l_op (o_val (r_as) ?_)
      first | refine l_end ?_ | refine l_nil ?_
      refine c_ret ?_
      try dsimp only [Exit.then, Exit.inBlock]
      refine e_ret1 (v := VI (46 + n)) Try.results62 rfl ?_
      refine ⟨_, rfl, ?_⟩
      refine ⟨?_, H⟩
      rw [if_neg (by omega)]
/-- a piece from 46 on. -/
def Sl.cut46 (s : Sl) (n m : Nat) : Sl := ⟨sa s.a 46 m 1, n, m - 46, (s.l.drop 46).take n⟩
theorem Sl.ok.cut46 {w : World} {s : Sl} (hs : s.ok w) {n m : Nat} (h2 : 46 + n ≤ s.len) (h3 : 46 + n ≤ m) (h4 : m ≤ s.cap) : (s.cut46 n m).ok w := by
  have := hs.cut (l := 46) (h := 46 + n) (m := m) (by omega) h2 h3 h4
  rwa [show s.cut 46 (46 + n) m = s.cut46 n m by simp [Sl.cut, Sl.cut46]] at this
theorem r_sl46 {P : Program} {n : Nat} {σ : Nat → Value} {w : World} {ty : TypeId} {pos : String} {aft : Array Edge} {g : Option (Nat × Bool)} {d : Nat} {t : TypeId} {x : Operand} {lo hi mx : Option Operand} {s : Sl} (k m : Nat) {lv hv mv : Option Value} (hx : ev n σ x = s.v) (ht : eltOf P t = some 1)
    (hl : lo.map (ev n σ) = lv) (hh : hi.map (ev n σ) = hv) (hm : mx.map (ev n σ) = mv) (hb : ∀ w, (Instr.sliceBounds true s.len s.cap lv hv mv).run P w = .ok (46, 46 + k, m) w) :
    (execOp (ev n σ) ⟨some d, .slice t x lo hi mx, ty, pos, aft, g⟩).run P w = .ok (.value (s.cut46 k m).v) w := by
  rw [show s.cut46 k m = s.cut 46 (46 + k) m by simp [Sl.cut, Sl.cut46]]
  exact r_slS 46 (46 + k) m hx ht hl hh hm hb
end Go.Proofs.Ytjmbbhnpfmblpaa
