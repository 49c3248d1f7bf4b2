import Derived.Test.YtjmbbhnpfmblpaaMac
/- mac: Raw, Of, Derive. -/
namespace Go.Proofs.Ytjmbbhnpfmblpaa
open Go
set_option maxRecDepth 100000
theorem raw_ret (w0 : World) (s u : Sl) (hs : s.ok w0) (hu : u.ok w0) :
    Ret Try.prog 49 [s.v, u.v] w0 fun v w' => v = .agg ((hmac s.l u.l).map V8).toArray ∧ Hp w0 w' [] [] := by
  refine ret_mk Try.func49 rfl Try.ntmps49 (by simp) ?_
  have H := Hp.refl w0 []
  repeat refine c_seq ?_
  refine c_region ?_
  refine l_op (o_alloc H zc31 (fun b1 w H hb1 => ?_))
  replace H : Hp w0 w [] ([.blk b1 ((List.replicate 32 (0 : UInt8)).map V8) 31]) := H
  first | refine l_end ?_ | refine l_nil ?_
  repeat refine c_seq ?_
  refine c_region ?_
  refine l_op (o_val (r_mv) ?_)
  refine l_op (o_callR Try.func108 rfl rfl rfl (padded_ret _ s (hs.up H (fun _ => apart_nil _)) ((54 : UInt8))) ?_)
  rintro _ w ⟨b2, rfl, Hc⟩
  replace H : Hp w0 w [] ([.blk b1 ((List.replicate 32 (0 : UInt8)).map V8) 31, .own (some b2) 64 64 ((kpad (hkey (s.l)) ((54 : UInt8))).map V8) 5 1]) := H.call Hc
  clear Hc
  refine l_op (o_val (r_mv) ?_)
  refine l_op (o_bslV ([.slice (hd (some b2)) 64 64, u.v]) H sl22 zc29 rfl (by simp [Value.oneCell', Sl.v]) rfl (by decide) (fun b3 w H hb3 => ?_))
  replace H : Hp w0 w [] ([.blk b1 ((List.replicate 32 (0 : UInt8)).map V8) 31, .own (some b2) 64 64 ((kpad (hkey (s.l)) ((54 : UInt8))).map V8) 5 1, .own (some b3) 2 2 ([.slice (hd (some b2)) 64 64, u.v]) 29 1]) := H
  refine l_op (o_callR Try.func37 rfl rfl rfl (sha2_ret _ _ (⟨hd (some b2), 64, 64, kpad (hkey (s.l)) ((54 : UInt8))⟩) u (H.own (i := 2) rfl) (H.slOwn (i := 1) rfl) (hu.up H (fun _ => apart_nil _))) ?_)
  rintro _ w ⟨rfl, Hc⟩
  replace H : Hp w0 w [] ([.blk b1 ((List.replicate 32 (0 : UInt8)).map V8) 31, .own (some b2) 64 64 ((kpad (hkey (s.l)) ((54 : UInt8))).map V8) 5 1, .own (some b3) 2 2 ([.slice (hd (some b2)) 64 64, u.v]) 29 1]) := H.call Hc
  clear Hc
  refine l_op (o_alloc H zc31 (fun b4 w H hb4 => ?_))
  replace H : Hp w0 w [] ([.blk b1 ((List.replicate 32 (0 : UInt8)).map V8) 31, .own (some b2) 64 64 ((kpad (hkey (s.l)) ((54 : UInt8))).map V8) 5 1, .own (some b3) 2 2 ([.slice (hd (some b2)) 64 64, u.v]) 29 1, .blk b4 ((List.replicate 32 (0 : UInt8)).map V8) 31]) := H
  refine l_op (o_stA (l' := sha256 ((kpad (hkey (s.l)) ((54 : UInt8))) ++ u.l)) H (i := 3) rfl rfl rfl cs31 (show (List.replicate 32 (0 : UInt8)).length = 32 from (List.length_replicate ..)) (show (sha256 ((kpad (hkey (s.l)) ((54 : UInt8))) ++ u.l)).length = 32 from sha256_len _) (fun w H => ?_))
  replace H : Hp w0 w [] ([.blk b1 ((List.replicate 32 (0 : UInt8)).map V8) 31, .own (some b2) 64 64 ((kpad (hkey (s.l)) ((54 : UInt8))).map V8) 5 1, .own (some b3) 2 2 ([.slice (hd (some b2)) 64 64, u.v]) 29 1, .blk b4 ((sha256 ((kpad (hkey (s.l)) ((54 : UInt8))) ++ u.l)).map V8) 31]) := H
  first | refine l_end ?_ | refine l_nil ?_
  repeat refine c_seq ?_
  refine wp_held (fun w => Hp w0 w [] [.own (some b2) 64 64 ((kpad (hkey (s.l)) ((54 : UInt8))).map V8) 5 1, .own (some b3) 2 2 ([.slice (hd (some b2)) 64 64, u.v]) 29 1, .blk b4 ((sha256 ((kpad (hkey (s.l)) ((54 : UInt8))) ++ u.l)).map V8) 31]) mixed ?_
  replace H := H.drew
  have HS := H.sub (.cons _ (.cons_cons _ (.cons_cons _ (.cons_cons _ (List.nil_sublist _)))))
  refine t_take 0 rfl (by kernel_rfl) (by kernel_rfl) (by kernel_rfl) (fun _ _ _ h => h) (fun w HS => r_mv) HS ?_
  refine t_take 2 rfl (by kernel_rfl) (by kernel_rfl) (by kernel_rfl) (fun _ _ _ h => h) (fun w HS => r_slA (h := 32) (m := 32) (lv := none) (hv := none) (mv := none) rfl ar31 rfl rfl rfl (fun w => sbn w)) HS ?_
  refine t_step 1 rfl (by kernel_rfl) (o_callR Try.func108 rfl rfl rfl (padded_ret _ s (hs.up H (fun _ => apart_nil _)) ((92 : UInt8))) ?_)
  rintro _ w ⟨b5, rfl, Hc⟩
  replace H : Hp w0 w [] ([.blk b1 ((List.replicate 32 (0 : UInt8)).map V8) 31, .own (some b2) 64 64 ((kpad (hkey (s.l)) ((54 : UInt8))).map V8) 5 1, .own (some b3) 2 2 ([.slice (hd (some b2)) 64 64, u.v]) 29 1, .blk b4 ((sha256 ((kpad (hkey (s.l)) ((54 : UInt8))) ++ u.l)).map V8) 31, .own (some b5) 64 64 ((kpad (hkey (s.l)) ((92 : UInt8))).map V8) 5 1]) := H.call Hc
  clear Hc
  refine ⟨H.sub (.cons _ (.cons_cons _ (.cons_cons _ (.cons_cons _ (List.nil_sublist _))))), ?_⟩
  replace HS := H.sub (.cons _ (.cons_cons _ (.cons_cons _ (.cons_cons _ (List.nil_sublist _)))))
  refine t_step 3 rfl (by kernel_rfl) (o_bslV ([.slice (hd (some b5)) 64 64, (⟨some ⟨b4, 0, none⟩, 32, 32, sha256 ((kpad (hkey (s.l)) ((54 : UInt8))) ++ u.l)⟩ : Sl).v]) H sl22 zc29 rfl (by simp [Value.oneCell', Sl.v]) rfl (by decide) (fun b6 w H hb6 => ?_))
  replace H : Hp w0 w [] ([.blk b1 ((List.replicate 32 (0 : UInt8)).map V8) 31, .own (some b2) 64 64 ((kpad (hkey (s.l)) ((54 : UInt8))).map V8) 5 1, .own (some b3) 2 2 ([.slice (hd (some b2)) 64 64, u.v]) 29 1, .blk b4 ((sha256 ((kpad (hkey (s.l)) ((54 : UInt8))) ++ u.l)).map V8) 31, .own (some b5) 64 64 ((kpad (hkey (s.l)) ((92 : UInt8))).map V8) 5 1, .own (some b6) 2 2 ([.slice (hd (some b5)) 64 64, (⟨some ⟨b4, 0, none⟩, 32, 32, sha256 ((kpad (hkey (s.l)) ((54 : UInt8))) ++ u.l)⟩ : Sl).v]) 29 1]) := H
  refine ⟨H.sub (.cons _ (.cons_cons _ (.cons_cons _ (.cons_cons _ (List.nil_sublist _))))), ?_⟩
  replace HS := H.sub (.cons _ (.cons_cons _ (.cons_cons _ (.cons_cons _ (List.nil_sublist _)))))
  refine t_step 4 rfl (by kernel_rfl) (o_callR Try.func37 rfl rfl rfl (sha2_ret _ _ (⟨hd (some b5), 64, 64, kpad (hkey (s.l)) ((92 : UInt8))⟩) (⟨some ⟨b4, 0, none⟩, 32, 32, sha256 ((kpad (hkey (s.l)) ((54 : UInt8))) ++ u.l)⟩ : Sl) (H.own (i := 5) rfl) (H.slOwn (i := 4) rfl) (H.slBlkA (i := 3) rfl 32 (show (sha256 ((kpad (hkey (s.l)) ((54 : UInt8))) ++ u.l)).length = 32 from sha256_len _) (by decide))) ?_)
  rintro _ w ⟨rfl, Hc⟩
  replace H : Hp w0 w [] ([.blk b1 ((List.replicate 32 (0 : UInt8)).map V8) 31, .own (some b2) 64 64 ((kpad (hkey (s.l)) ((54 : UInt8))).map V8) 5 1, .own (some b3) 2 2 ([.slice (hd (some b2)) 64 64, u.v]) 29 1, .blk b4 ((sha256 ((kpad (hkey (s.l)) ((54 : UInt8))) ++ u.l)).map V8) 31, .own (some b5) 64 64 ((kpad (hkey (s.l)) ((92 : UInt8))).map V8) 5 1, .own (some b6) 2 2 ([.slice (hd (some b5)) 64 64, (⟨some ⟨b4, 0, none⟩, 32, 32, sha256 ((kpad (hkey (s.l)) ((54 : UInt8))) ++ u.l)⟩ : Sl).v]) 29 1]) := H.call Hc
  clear Hc
  refine ⟨H.sub (.cons _ (.cons_cons _ (.cons_cons _ (.cons_cons _ (List.nil_sublist _))))), ?_⟩
  replace HS := H.sub (.cons _ (.cons_cons _ (.cons_cons _ (.cons_cons _ (List.nil_sublist _)))))
  refine t_step 5 rfl (by kernel_rfl) (o_stA (l' := sha256 ((kpad (hkey (s.l)) ((92 : UInt8))) ++ (sha256 ((kpad (hkey (s.l)) ((54 : UInt8))) ++ u.l)))) H (i := 0) rfl rfl rfl cs31 (show (List.replicate 32 (0 : UInt8)).length = 32 from (List.length_replicate ..)) (show (sha256 ((kpad (hkey (s.l)) ((92 : UInt8))) ++ (sha256 ((kpad (hkey (s.l)) ((54 : UInt8))) ++ u.l)))).length = 32 from sha256_len _) (fun w H => ?_))
  replace H : Hp w0 w [] ([.blk b1 ((sha256 ((kpad (hkey (s.l)) ((92 : UInt8))) ++ (sha256 ((kpad (hkey (s.l)) ((54 : UInt8))) ++ u.l)))).map V8) 31, .own (some b2) 64 64 ((kpad (hkey (s.l)) ((54 : UInt8))).map V8) 5 1, .own (some b3) 2 2 ([.slice (hd (some b2)) 64 64, u.v]) 29 1, .blk b4 ((sha256 ((kpad (hkey (s.l)) ((54 : UInt8))) ++ u.l)).map V8) 31, .own (some b5) 64 64 ((kpad (hkey (s.l)) ((92 : UInt8))).map V8) 5 1, .own (some b6) 2 2 ([.slice (hd (some b5)) 64 64, (⟨some ⟨b4, 0, none⟩, 32, 32, sha256 ((kpad (hkey (s.l)) ((54 : UInt8))) ++ u.l)⟩ : Sl).v]) 29 1]) := H
  refine ⟨H.sub (.cons _ (.cons_cons _ (.cons_cons _ (.cons_cons _ (List.nil_sublist _))))), ?_⟩
  replace HS := H.sub (.cons _ (.cons_cons _ (.cons_cons _ (.cons_cons _ (List.nil_sublist _)))))
  refine t_done (by kernel_rfl) ?_
  clear HS
  refine c_ret ?_
  try dsimp only [Exit.then, Exit.inBlock]
  refine e_retA (l := sha256 ((kpad (hkey (s.l)) ((92 : UInt8))) ++ (sha256 ((kpad (hkey (s.l)) ((54 : UInt8))) ++ u.l)))) Try.results49 H (i := 0) rfl rfl rt31 (show (sha256 ((kpad (hkey (s.l)) ((92 : UInt8))) ++ (sha256 ((kpad (hkey (s.l)) ((54 : UInt8))) ++ u.l)))).length = 32 from sha256_len _) ?_
  refine ⟨_, rfl, ?_⟩
  exact ⟨rfl, H.sub (List.nil_sublist _)⟩
theorem put0_ret (w0 : World) (u : UInt64) (n : Nat) (h1 : 1 ≤ n) (h8 : n ≤ 8) (hf : n = 8 ∨ u.toNat < 256 ^ n) :
    Ret Try.prog 109 [.slice none 0 0, V64 u, VI (n : Int)] w0 fun v w' => ∃ a cap, v = .tuple #[.slice (hd a) n cap, VI 0] ∧ Hp w0 w' [] [.own a n cap ((be u.toNat n).map V8) 5 1] :=
  (put_ret w0 ⟨none, 0, 0, []⟩ (Sl.ok_nil _) u n h1 h8 hf (by simp)).mono fun v w' ⟨a, c, hv, H⟩ => ⟨a, c, by simpa using hv, by simpa using H⟩
/-- each part behind its length. -/
def framed (l : List (List UInt8)) : List UInt8 := l.flatMap fun p => be p.length 8 ++ p
theorem framed_snoc (l : List (List UInt8)) (p : List UInt8) : framed (l ++ [p]) = framed l ++ be p.length 8 ++ p := by simp [framed]
def fr (ps : List Sl) (i : Nat) : List UInt8 := framed ((ps.take i).map Sl.l)
theorem fr_succ (ps : List Sl) (i : Nat) (p : Sl) (h : ps[i]? = some p) : fr ps (i + 1) = fr ps i ++ be p.l.length 8 ++ p.l := by
  rw [fr, List.take_add_one, h]; simp only [Option.toList_some, List.map_append, List.map_cons, List.map_nil, framed_snoc]; rfl
theorem fr_all (ps : List Sl) (i : Nat) (h : ps.length = i) : fr ps i = framed (ps.map Sl.l) := by rw [fr, List.take_of_length_le (by omega)]
theorem fr_le (ps : List Sl) : ∀ i, (fr ps i).length ≤ (framed (ps.map Sl.l)).length := by
  intro i
  have : framed (ps.map Sl.l) = fr ps i ++ framed ((ps.drop i).map Sl.l) := by
    rw [fr, framed, framed, framed, ← List.flatMap_append, ← List.map_append, List.take_append_drop]
  rw [this]; simp
theorem ofNat_nat (n : Nat) (h : n < 18446744073709551616) : (UInt64.ofNat n).toNat = n := by rw [UInt64.toNat_ofNat']; omega
theorem macOf_ret (w0 : World) (s : Sl) (hs : s.ok w0) (pa : Option Addr) (pl pc : Nat) (ps : List Sl) (hr : RdS w0 pa (ps.map Sl.v)) (hl : ps.length = pl) (hok : ∀ p ∈ ps, p.ok w0) (hp63 : pl ≤ 1048576) (hB : (framed (ps.map Sl.l)).length ≤ 1048576) :
    Ret Try.prog 52 [s.v, .slice pa pl pc] w0 fun v w' => v = .agg ((hmac s.l (framed (ps.map Sl.l))).map V8).toArray ∧ Hp w0 w' [] [] := by
  refine ret_mk Try.func52 rfl Try.ntmps52 (by simp) ?_
  have H := Hp.refl w0 []
  repeat refine c_seq ?_
  refine c_region ?_
  refine l_op (o_alloc H zc31 (fun b1 w H hb1 => ?_))
  replace H : Hp w0 w [] ([.blk b1 ((List.replicate 32 (0 : UInt8)).map V8) 31]) := H
  first | refine l_end ?_ | refine l_nil ?_
  repeat refine c_seq ?_
  refine c_region ?_
  refine l_op (o_val (r_as) ?_)
  first | refine l_end ?_ | refine l_nil ?_
  repeat refine c_seq ?_
  refine c_region ?_
  refine l_op (o_val (r_mv) ?_)
  refine l_op (o_val (r_lens el22 rfl) ?_)
  refine l_op (o_val (r_mv) ?_)
  first | refine l_end ?_ | refine l_nil ?_
  repeat refine c_seq ?_
  refine c_block ?_
  repeat refine c_seq ?_
  refine c_loop3 (fun (i : Nat) (a : Option Nat) (c : Nat) => [(0, s.v), (4, .pointer (some ⟨b1, 0, none⟩)), (5, .slice (hd a) ((fr ps i).length) c), (10, .slice pa pl pc), (11, VI (pl : Int)), (12, VI (i : Int))])
    (fun (i : Nat) (a : Option Nat) (c : Nat) w => (i ≤ pl) ∧ Hp w0 w [] ([.blk b1 ((List.replicate 32 (0 : UInt8)).map V8) 31, .own a ((fr ps i).length) c ((fr ps i).map V8) 5 1]))
    (fun (i : Nat) (a : Option Nat) (c : Nat) => pl - i) 0 none 0 ⟨rfl, rfl, rfl, rfl, rfl, rfl, trivial⟩ ⟨Nat.zero_le _, (H.nilEnd 5 1)⟩ ?_
  clear H
  rintro i a c τ w ⟨hi, H⟩
  repeat refine c_seq ?_
  refine c_region ?_
  refine l_op (o_val (r_bin (a := (i : Int)) (b := (pl : Int)) rfl rfl (fun _ => b_lss)) ?_)
  first | refine l_end ?_ | refine l_nil ?_
  by_cases hc2 : (i : Int) < (pl : Int)
  · skip
    repeat refine c_seq ?_
    refine c_yes (by exact congrArg Value.bool (decide_eq_true hc2)) ?_
    refine c_skip ?_
    repeat refine c_seq ?_
    refine c_block ?_
    repeat refine c_seq ?_
    refine c_region ?_
    obtain ⟨ab3, ao4, ah5⟩ := (H.rd hr (apart_nil _)).addr (by simp only [List.length_map]; omega)
    refine l_op (o_val (r_isN i rfl rfl el22 ah5 (by omega) (by (try simp only [Sl.cut]); omega)) ?_)
    obtain ⟨p6, hp7⟩ : ∃ p, ps[i]? = some p := ⟨_, List.getElem?_eq_getElem (by omega)⟩
    have hpok8 := hok p6 (List.mem_of_getElem? hp7)
    have hpok8n := hpok8.ln
    have hpok8m := hpok8.le
    refine l_op (o_val (r_ldP (k := i) (H.rd hr (apart_nil _)) ah5 rfl ct29 hp7) ?_)
    refine l_op (o_val (r_as) ?_)
    first | refine l_end ?_ | refine l_nil ?_
    have hs1 := fr_succ ps i p6 hp7
    have hs2 := fr_le ps (i + 1)
    have hs3 : (fr ps (i + 1)).length = (fr ps i).length + 8 + p6.l.length := by rw [hs1]; simp [be_len]; omega
    repeat refine c_seq ?_
    refine c_region ?_
    refine l_op (o_val (r_mv) ?_)
    refine l_op (o_val (r_lens el29 rfl) ?_)
    refine l_op (o_val (r_conv (v := ((UInt64.ofNat p6.len).toNat : Int)) Try.underlying3 Try.underlying35 rfl (w_u64_N p6.len (by omega))) ?_)
    refine l_op (o_callR Try.func109 rfl rfl rfl (put0_ret _ (UInt64.ofNat p6.len) 8 (by omega) (by omega) (.inl rfl)) ?_)
    rintro _ w ⟨a9, c10, rfl, Hc⟩
    replace H : Hp w0 w [] ([.blk b1 ((List.replicate 32 (0 : UInt8)).map V8) 31, .own a ((fr ps i).length) c ((fr ps i).map V8) 5 1, .own a9 8 c10 ((be (UInt64.ofNat p6.len).toNat 8).map V8) 5 1]) := H.call Hc
    clear Hc
    refine l_op (o_val (r_mv) ?_)
    refine l_op (o_val (r_ext rfl rfl) ?_)
    refine l_op (o_val (r_ext rfl rfl) ?_)
    refine l_op (o_val (r_as) ?_)
    refine l_op (o_val (r_as) ?_)
    first | refine l_end ?_ | refine l_nil ?_
    repeat refine c_seq ?_
    refine c_region ?_
    refine l_op (o_val (r_mv) ?_)
    refine l_op (o_val (r_mv) ?_)
    refine l_op (o_appB (s := ⟨hd a9, 8, c10, be (UInt64.ofNat p6.len).toNat 8⟩) (l' := fr ps i ++ (be (UInt64.ofNat p6.len).toNat 8)) (len' := (fr ps i).length + 8) rfl rfl H (i := 1) rfl sl29 Try.underlying29 rfl rfl (H.slOwn (i := 2) rfl) (by omega) (fun a11 c12 w H => ?_))
    replace H : Hp w0 w [] ([.blk b1 ((List.replicate 32 (0 : UInt8)).map V8) 31, .own a11 ((fr ps i).length + 8) c12 ((fr ps i ++ (be (UInt64.ofNat p6.len).toNat 8)).map V8) 5 1, .own a9 8 c10 ((be (UInt64.ofNat p6.len).toNat 8).map V8) 5 1]) := H
    refine l_op (o_val (r_mv) ?_)
    refine l_op (o_appB (s := p6) (l' := fr ps (i + 1)) (len' := (fr ps (i + 1)).length) (by rw [hs1, ofNat_nat _ (by omega), hpok8n]) (by omega) H (i := 1) rfl sl29 Try.underlying29 rfl rfl (hpok8.up H (fun _ => apart_nil _)) (by omega) (fun a13 c14 w H => ?_))
    replace H : Hp w0 w [] ([.blk b1 ((List.replicate 32 (0 : UInt8)).map V8) 31, .own a13 ((fr ps (i + 1)).length) c14 ((fr ps (i + 1)).map V8) 5 1, .own a9 8 c10 ((be (UInt64.ofNat p6.len).toNat 8).map V8) 5 1]) := H
    refine l_op (o_val (r_as) ?_)
    first | refine l_end ?_ | refine l_nil ?_
    repeat refine c_seq ?_
    refine c_region ?_
    refine l_op (o_val (r_bin (a := (i : Int)) (b := 1) rfl rfl (fun _ => b_add (by omega) (by omega))) ?_)
    refine l_op (o_val (r_mv) ?_)
    first | refine l_end ?_ | refine l_nil ?_
    refine round_end (i + 1, a13, c14) ?_ ?_ ?_
    · exact ⟨rfl, rfl, rfl, rfl, rfl, show VI ((i : Int) + 1) = VI ((i + 1 : Nat) : Int) from congrArg VI (by omega), trivial⟩
    · refine ⟨?_, ?_⟩
      · try dsimp only
        exact by omega
      · exact H.sub (.cons_cons _ (.cons_cons _ (List.nil_sublist _)))
    · show pl - (i + 1 : Nat) < pl - i; omega
  · skip
    repeat refine c_seq ?_
    refine c_no (by exact congrArg Value.bool (decide_eq_false hc2)) ?_
    refine c_exit ?_
    have hi2 : i = pl := by omega
    subst hi2
    repeat refine c_seq ?_
    refine c_region ?_
    refine l_op (o_val (r_mv) ?_)
    refine l_op (o_val (r_mv) ?_)
    refine l_op (o_callR Try.func49 rfl rfl rfl (raw_ret _ s ⟨hd a, (fr ps i).length, c, fr ps i⟩ (hs.up H (fun _ => apart_nil _)) (H.slOwn (i := 1) rfl)) ?_)
    rintro _ w ⟨rfl, Hc⟩
    replace H : Hp w0 w [] ([.blk b1 ((List.replicate 32 (0 : UInt8)).map V8) 31, .own a ((fr ps i).length) c ((fr ps i).map V8) 5 1]) := H.call Hc
    clear Hc
    refine l_op (o_stA (l' := hmac (s.l) (fr ps i)) H (i := 0) rfl rfl rfl cs31 (show (List.replicate 32 (0 : UInt8)).length = 32 from (List.length_replicate ..)) (show (hmac (s.l) (fr ps i)).length = 32 from hmac_len _ _) (fun w H => ?_))
    replace H : Hp w0 w [] ([.blk b1 ((hmac (s.l) (fr ps i)).map V8) 31, .own a ((fr ps i).length) c ((fr ps i).map V8) 5 1]) := H
    first | refine l_end ?_ | refine l_nil ?_
    refine c_ret ?_
    try dsimp only [Exit.then, Exit.inBlock]
    refine e_retA (l := hmac (s.l) (fr ps i)) Try.results52 H (i := 0) rfl rfl rt31 (show (hmac (s.l) (fr ps i)).length = 32 from hmac_len _ _) ?_
    refine ⟨_, rfl, ?_⟩
    rw [fr_all ps i hl]
    exact ⟨rfl, H.sub (List.nil_sublist _)⟩
theorem derive_ret (w0 : World) (key : List UInt8) (hk : key.length = 32) (l : List UInt8) (hl : l.length ≤ 65536) (u : UInt64) :
    Ret Try.prog 56 [.agg ((key).map V8).toArray, .string ⟨(l).toArray⟩, V64 u] w0 fun v w' => v = .agg ((hmac key (framed [l, be u.toNat 8])).map V8).toArray ∧ Hp w0 w' [] [] := by
  refine ret_mk Try.func56 rfl Try.ntmps56 (by simp) ?_
  have H := Hp.refl w0 []
  repeat refine c_seq ?_
  refine c_region ?_
  refine l_op (o_box (v := .agg ((key).map V8).toArray) H rfl (fun b1 w H hb1 => ?_))
  replace H : Hp w0 w [] ([.blk b1 ((key).map V8) 31]) := H
  refine l_op (o_alloc H zc31 (fun b2 w H hb2 => ?_))
  replace H : Hp w0 w [] ([.blk b1 ((key).map V8) 31, .blk b2 ((List.replicate 32 (0 : UInt8)).map V8) 31]) := H
  first | refine l_end ?_ | refine l_nil ?_
  repeat refine c_seq ?_
  refine c_region ?_
  refine l_op (o_val (r_mv) ?_)
  refine l_op (o_callR Try.func109 rfl rfl rfl (put0_ret _ (u) 8 (by omega) (by omega) (.inl rfl)) ?_)
  rintro _ w ⟨a3, c4, rfl, Hc⟩
  replace H : Hp w0 w [] ([.blk b1 ((key).map V8) 31, .blk b2 ((List.replicate 32 (0 : UInt8)).map V8) 31, .own a3 8 c4 ((be (u).toNat 8).map V8) 5 1]) := H.call Hc
  clear Hc
  refine l_op (o_val (r_mv) ?_)
  refine l_op (o_val (r_ext rfl rfl) ?_)
  refine l_op (o_val (r_ext rfl rfl) ?_)
  refine l_op (o_val (r_as) ?_)
  refine l_op (o_val (r_as) ?_)
  first | refine l_end ?_ | refine l_nil ?_
  repeat refine c_seq ?_
  refine c_region ?_
  refine l_op (o_val (r_slA (h := 32) (m := 32) (lv := none) (hv := none) (mv := none) rfl ar31 rfl rfl rfl (fun w => sbn w)) ?_)
  refine l_op (o_val (r_mv) ?_)
  refine l_op (o_s2B (l := l) H Try.underlying9 Try.underlying29 Try.underlying5 rfl (by omega) (fun b5 c6 ob7 w H hb5 hr8 => ?_))
  replace H : Hp w0 w [] ([.blk b1 ((key).map V8) 31, .blk b2 ((List.replicate 32 (0 : UInt8)).map V8) 31, .own a3 8 c4 ((be (u).toNat 8).map V8) 5 1, .obj b5 ob7]) := H
  refine l_op (o_val (r_mv) ?_)
  refine l_op (o_bslV ([(⟨some ⟨b5, 0, none⟩, (l).length, c6, l⟩ : Sl).v, .slice (hd a3) 8 c4]) H sl22 zc29 rfl (by simp [Value.oneCell', Sl.v]) rfl (by decide) (fun b9 w H hb9 => ?_))
  replace H : Hp w0 w [] ([.blk b1 ((key).map V8) 31, .blk b2 ((List.replicate 32 (0 : UInt8)).map V8) 31, .own a3 8 c4 ((be (u).toNat 8).map V8) 5 1, .obj b5 ob7, .own (some b9) 2 2 ([(⟨some ⟨b5, 0, none⟩, (l).length, c6, l⟩ : Sl).v, .slice (hd a3) 8 c4]) 29 1]) := H
  refine l_op (o_callR Try.func52 rfl rfl rfl (macOf_ret _ (⟨some ⟨b1, 0, none⟩, 32, 32, key⟩ : Sl) (H.slBlkA (i := 0) rfl 32 (show (key).length = 32 from hk) (by decide)) (hd (some b9)) 2 2 [(⟨some ⟨b5, 0, none⟩, (l).length, c6, l⟩ : Sl), ⟨hd a3, 8, c4, be (u).toNat 8⟩] (H.own (i := 4) rfl) rfl (all2 (hr8 _ (H.has (.obj b5 ob7) (by simp))) (H.slOwn (i := 2) rfl)) (by omega) (by simp [framed, be_len]; omega)) ?_)
  rintro _ w ⟨rfl, Hc⟩
  replace H : Hp w0 w [] ([.blk b1 ((key).map V8) 31, .blk b2 ((List.replicate 32 (0 : UInt8)).map V8) 31, .own a3 8 c4 ((be (u).toNat 8).map V8) 5 1, .obj b5 ob7, .own (some b9) 2 2 ([(⟨some ⟨b5, 0, none⟩, (l).length, c6, l⟩ : Sl).v, .slice (hd a3) 8 c4]) 29 1]) := H.call Hc
  clear Hc
  refine l_op (o_stA (l' := hmac (key) (framed [l, be (u).toNat 8])) H (i := 1) rfl rfl rfl cs31 (show (List.replicate 32 (0 : UInt8)).length = 32 from (List.length_replicate ..)) (show (hmac (key) (framed [l, be (u).toNat 8])).length = 32 from hmac_len _ _) (fun w H => ?_))
  replace H : Hp w0 w [] ([.blk b1 ((key).map V8) 31, .blk b2 ((hmac (key) (framed [l, be (u).toNat 8])).map V8) 31, .own a3 8 c4 ((be (u).toNat 8).map V8) 5 1, .obj b5 ob7, .own (some b9) 2 2 ([(⟨some ⟨b5, 0, none⟩, (l).length, c6, l⟩ : Sl).v, .slice (hd a3) 8 c4]) 29 1]) := H
  first | refine l_end ?_ | refine l_nil ?_
  refine c_ret ?_
  try dsimp only [Exit.then, Exit.inBlock]
  refine e_retA (l := hmac (key) (framed [l, be (u).toNat 8])) Try.results56 H (i := 1) rfl rfl rt31 (show (hmac (key) (framed [l, be (u).toNat 8])).length = 32 from hmac_len _ _) ?_
  refine ⟨_, rfl, ?_⟩
  exact ⟨rfl, H.sub (List.nil_sublist _)⟩
end Go.Proofs.Ytjmbbhnpfmblpaa
