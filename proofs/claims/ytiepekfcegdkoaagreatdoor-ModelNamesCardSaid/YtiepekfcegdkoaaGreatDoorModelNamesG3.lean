/- Lemmas for the statement ModelNames, part 3: rules of operations, walks through functions, plain laws. -/
import Derived.Test.YtiepekfcegdkoaaGreatDoorModelNamesG2
import Derived.Lib.AppendZeros
namespace Go.Proofs.YtiepekfcegdkoaaGreatDoor
open Go
set_option maxRecDepth 100000
theorem raw_ret (w0 : World) (s u : Sl) (hs : s.ok w0) (hu : u.ok w0) :
    Ret Tryz.prog 24 [s.v, u.v] w0 fun v w' => v = .agg ((hmac s.l u.l).map V8).toArray ∧ Hp w0 w' [] [] := by
  refine ret_mk Tryz.func24 rfl Tryz.ntmps24 (by simp) ?_
  have H := Hp.refl w0 []
  repeat refine c_seq ?_
  refine c_region ?_; refine l_op (o_alloc H zc23 (fun b1 w H hb1 => ?_)); replace H : Hp _ w _ ([.blk b1 ((List.replicate 32 (0 : UInt8)).map V8) 23]) := H
  first | refine l_end ?_ | refine l_nil ?_
  repeat refine c_seq ?_
  refine c_region ?_; refine l_op (o_val r_mv ?_); refine l_op (o_callR Tryz.func68 rfl rfl rfl (padded_ret _ s (hs.up H (fun _ => apart_nil _)) ((54 : UInt8))) ?_); rintro _ w ⟨b2, rfl, Hc⟩
  replace H : Hp _ w _ ([_, .own (some b2) 64 64 ((kpad (hkey (s.l)) ((54 : UInt8))).map V8) 5 1]) := H.call Hc
  clear Hc
  refine l_op (o_val r_mv ?_); refine l_op (o_bslV ([.slice (hd (some b2)) 64 64, u.v]) H sl58 zc24 rfl (by simp [Value.oneCell', Sl.v]) rfl (by decide) (fun b3 w H hb3 => ?_)); replace H : Hp _ w _ ([_, _, .own (some b3) 2 2 ([.slice (hd (some b2)) 64 64, u.v]) 24 1]) := H
  refine l_op (o_callR Tryz.func66 rfl rfl rfl (sha2_ret _ _ (⟨hd (some b2), 64, 64, kpad (hkey (s.l)) ((54 : UInt8))⟩) u (H.own (i := 2) rfl) (H.slOwn (i := 1) rfl) (hu.up H (fun _ => apart_nil _))) ?_); rintro _ w ⟨rfl, Hc⟩
  replace H : Hp _ w _ ([_, _, _]) := H.call Hc
  clear Hc
  refine l_op (o_alloc H zc23 (fun b4 w H hb4 => ?_)); replace H : Hp _ w _ ([_, _, _, .blk b4 ((List.replicate 32 (0 : UInt8)).map V8) 23]) := H
  refine l_op (o_stA (l' := sha256 ((kpad (hkey (s.l)) ((54 : UInt8))) ++ u.l)) H (i := 3) rfl rfl rfl cs23 (show (List.replicate 32 (0 : UInt8)).length = 32 from (List.length_replicate ..)) (show (sha256 ((kpad (hkey (s.l)) ((54 : UInt8))) ++ u.l)).length = 32 from sha256_len _) (fun w H => ?_)); replace H : Hp _ w _ ([_, _, _, .blk b4 ((sha256 ((kpad (hkey (s.l)) ((54 : UInt8))) ++ u.l)).map V8) 23]) := H
  first | refine l_end ?_ | refine l_nil ?_
  repeat refine c_seq ?_
  refine wp_held (fun w => Hp w0 w [] [.own (some b2) 64 64 ((kpad (hkey (s.l)) ((54 : UInt8))).map V8) 5 1, .own (some b3) 2 2 ([.slice (hd (some b2)) 64 64, u.v]) 24 1, .blk b4 ((sha256 ((kpad (hkey (s.l)) ((54 : UInt8))) ++ u.l)).map V8) 23]) mixed ?_; replace H := H.drew
  have HS := H.sub (.cons _ (.cons_cons _ (.cons_cons _ (.cons_cons _ (List.nil_sublist _)))))
  refine t_take 0 rfl (by kernel_rfl) (by kernel_rfl) (by kernel_rfl) (fun _ _ _ h => h) (fun w HS => r_mv) HS ?_; refine t_take 2 rfl (by kernel_rfl) (by kernel_rfl) (by kernel_rfl) (fun _ _ _ h => h) (fun w HS => r_slA (h := 32) (m := 32) (lv := none) (hv := none) (mv := none) rfl ar23 rfl rfl rfl (fun w => sbn w)) HS ?_; refine t_step 1 rfl (by kernel_rfl) (o_callR Tryz.func68 rfl rfl rfl (padded_ret _ s (hs.up H (fun _ => apart_nil _)) ((92 : UInt8))) ?_); rintro _ w ⟨b5, rfl, Hc⟩
  replace H : Hp _ w _ ([_, _, _, _, .own (some b5) 64 64 ((kpad (hkey (s.l)) ((92 : UInt8))).map V8) 5 1]) := H.call Hc
  clear Hc
  refine ⟨H.sub (.cons _ (.cons_cons _ (.cons_cons _ (.cons_cons _ (List.nil_sublist _))))), ?_⟩
  replace HS := H.sub (.cons _ (.cons_cons _ (.cons_cons _ (.cons_cons _ (List.nil_sublist _)))))
  refine t_step 3 rfl (by kernel_rfl) (o_bslV ([.slice (hd (some b5)) 64 64, (⟨some ⟨b4, 0, none⟩, 32, 32, sha256 ((kpad (hkey (s.l)) ((54 : UInt8))) ++ u.l)⟩ : Sl).v]) H sl58 zc24 rfl (by simp [Value.oneCell', Sl.v]) rfl (by decide) (fun b6 w H hb6 => ?_)); replace H : Hp _ w _ ([_, _, _, _, _, .own (some b6) 2 2 ([.slice (hd (some b5)) 64 64, (⟨some ⟨b4, 0, none⟩, 32, 32, sha256 ((kpad (hkey (s.l)) ((54 : UInt8))) ++ u.l)⟩ : Sl).v]) 24 1]) := H
  refine ⟨H.sub (.cons _ (.cons_cons _ (.cons_cons _ (.cons_cons _ (List.nil_sublist _))))), ?_⟩
  replace HS := H.sub (.cons _ (.cons_cons _ (.cons_cons _ (.cons_cons _ (List.nil_sublist _)))))
  refine t_step 4 rfl (by kernel_rfl) (o_callR Tryz.func66 rfl rfl rfl (sha2_ret _ _ (⟨hd (some b5), 64, 64, kpad (hkey (s.l)) ((92 : UInt8))⟩) (⟨some ⟨b4, 0, none⟩, 32, 32, sha256 ((kpad (hkey (s.l)) ((54 : UInt8))) ++ u.l)⟩ : Sl) (H.own (i := 5) rfl) (H.slOwn (i := 4) rfl) (H.slBlkA (i := 3) rfl 32 (show (sha256 ((kpad (hkey (s.l)) ((54 : UInt8))) ++ u.l)).length = 32 from sha256_len _) (by decide))) ?_); rintro _ w ⟨rfl, Hc⟩
  replace H : Hp _ w _ ([_, _, _, _, _, _]) := H.call Hc
  clear Hc
  refine ⟨H.sub (.cons _ (.cons_cons _ (.cons_cons _ (.cons_cons _ (List.nil_sublist _))))), ?_⟩
  replace HS := H.sub (.cons _ (.cons_cons _ (.cons_cons _ (.cons_cons _ (List.nil_sublist _)))))
  refine t_step 5 rfl (by kernel_rfl) (o_stA (l' := sha256 ((kpad (hkey (s.l)) ((92 : UInt8))) ++ (sha256 ((kpad (hkey (s.l)) ((54 : UInt8))) ++ u.l)))) H (i := 0) rfl rfl rfl cs23 (show (List.replicate 32 (0 : UInt8)).length = 32 from (List.length_replicate ..)) (show (sha256 ((kpad (hkey (s.l)) ((92 : UInt8))) ++ (sha256 ((kpad (hkey (s.l)) ((54 : UInt8))) ++ u.l)))).length = 32 from sha256_len _) (fun w H => ?_)); replace H : Hp _ w _ ([.blk b1 ((sha256 ((kpad (hkey (s.l)) ((92 : UInt8))) ++ (sha256 ((kpad (hkey (s.l)) ((54 : UInt8))) ++ u.l)))).map V8) 23, _, _, _, _, _]) := H
  refine ⟨H.sub (.cons _ (.cons_cons _ (.cons_cons _ (.cons_cons _ (List.nil_sublist _))))), ?_⟩
  replace HS := H.sub (.cons _ (.cons_cons _ (.cons_cons _ (.cons_cons _ (List.nil_sublist _)))))
  refine t_done (by kernel_rfl) ?_
  clear HS
  refine c_ret ?_; try dsimp only [Exit.then, Exit.inBlock]
  refine e_retA (l := sha256 ((kpad (hkey (s.l)) ((92 : UInt8))) ++ (sha256 ((kpad (hkey (s.l)) ((54 : UInt8))) ++ u.l)))) Tryz.results24 H (i := 0) rfl rfl rt23 (show (sha256 ((kpad (hkey (s.l)) ((92 : UInt8))) ++ (sha256 ((kpad (hkey (s.l)) ((54 : UInt8))) ++ u.l)))).length = 32 from sha256_len _) ?_
  refine ⟨_, rfl, ?_⟩
  exact ⟨rfl, H.sub (List.nil_sublist _)⟩
theorem put0_ret (w0 : World) (u : UInt64) (n : Nat) (h1 : 1 ≤ n) (h8 : n ≤ 8) (hf : n = 8 ∨ u.toNat < 256 ^ n) :
    Ret Tryz.prog 23 [.slice none 0 0, V64 u, VI (n : Int)] w0 fun v w' => ∃ a cap, v = .tuple #[.slice (hd a) n cap, VI 0] ∧ Hp w0 w' [] [.own a n cap ((be u.toNat n).map V8) 5 1] :=
  (put_ret w0 ⟨none, 0, 0, []⟩ (Sl.ok_nil _) u n h1 h8 hf (by simp)).mono fun v w' ⟨a, c, hv, H⟩ => ⟨a, c, by simpa using hv, by simpa using H⟩
/-- each part behind its length. -/
def framed (l : List (List UInt8)) : List UInt8 := l.flatMap fun p => be p.length 8 ++ p
theorem framed_snoc (l : List (List UInt8)) (p : List UInt8) : framed (l ++ [p]) = framed l ++ be p.length 8 ++ p := by simp [framed]
def fr (ps : List Sl) (i : Nat) : List UInt8 := framed ((ps.take i).map Sl.l)
theorem fr_succ (ps : List Sl) (i : Nat) (p : Sl) (h : ps[i]? = some p) : fr ps (i + 1) = fr ps i ++ be p.l.length 8 ++ p.l := by
  rw [fr, List.take_add_one, h]; simp only [Option.toList_some, List.map_append, List.map_cons, List.map_nil, framed_snoc]; rfl
theorem fr_all (ps : List Sl) (i : Nat) (h : ps.length = i) : fr ps i = framed (ps.map Sl.l) := by rw [fr, List.take_of_length_le (by omega)]
theorem fr_le (ps : List Sl) : ∀ i, (fr ps i).length ≤ (framed (ps.map Sl.l)).length := by
  intro i
  have : framed (ps.map Sl.l) = fr ps i ++ framed ((ps.drop i).map Sl.l) := by
    rw [fr, framed, framed, framed, ← List.flatMap_append, ← List.map_append, List.take_append_drop]
  rw [this]; simp
theorem ofNat_nat (n : Nat) (h : n < 18446744073709551616) : (UInt64.ofNat n).toNat = n := by rw [UInt64.toNat_ofNat']; omega
theorem macOf_ret (w0 : World) (s : Sl) (hs : s.ok w0) (pa : Option Addr) (pl pc : Nat) (ps : List Sl) (hr : RdS w0 pa (ps.map Sl.v)) (hl : ps.length = pl) (hok : ∀ p ∈ ps, p.ok w0) (hp63 : pl ≤ 1048576) (hB : (framed (ps.map Sl.l)).length ≤ 1048576) :
    Ret Tryz.prog 11 [s.v, .slice pa pl pc] w0 fun v w' => v = .agg ((hmac s.l (framed (ps.map Sl.l))).map V8).toArray ∧ Hp w0 w' [] [] := by
  refine ret_mk Tryz.func11 rfl Tryz.ntmps11 (by simp) ?_
  have H := Hp.refl w0 []
  repeat refine c_seq ?_
  refine c_region ?_; refine l_op (o_alloc H zc23 (fun b1 w H hb1 => ?_)); replace H : Hp _ w _ ([.blk b1 ((List.replicate 32 (0 : UInt8)).map V8) 23]) := H
  first | refine l_end ?_ | refine l_nil ?_
  repeat refine c_seq ?_
  refine c_region ?_; refine l_op (o_val r_as ?_); first | refine l_end ?_ | refine l_nil ?_
  repeat refine c_seq ?_
  refine c_region ?_; refine l_op (o_val r_mv ?_); refine l_op (o_val (r_lens el58 rfl) ?_); refine l_op (o_val r_mv ?_); first | refine l_end ?_ | refine l_nil ?_
  repeat refine c_seq ?_
  refine c_block ?_; repeat refine c_seq ?_
  refine c_loop3 (fun (i : Nat) (a : Option Nat) (c : Nat) => [(0, s.v), (4, .pointer (some ⟨b1, 0, none⟩)), (5, .slice (hd a) ((fr ps i).length) c), (10, .slice pa pl pc), (11, VI (pl : Int)), (12, VI (i : Int))])
    (fun (i : Nat) (a : Option Nat) (c : Nat) w => (i ≤ pl) ∧ Hp w0 w [] ([.blk b1 ((List.replicate 32 (0 : UInt8)).map V8) 23, .own a ((fr ps i).length) c ((fr ps i).map V8) 5 1]))
    (fun (i : Nat) (a : Option Nat) (c : Nat) => pl - i) 0 none 0 ⟨rfl, rfl, rfl, rfl, rfl, rfl, trivial⟩ ⟨Nat.zero_le _, (H.nilEnd 5 1)⟩ ?_
  clear H
  rintro i a c τ w ⟨hi, H⟩
  repeat refine c_seq ?_
  refine c_region ?_; refine l_op (o_val (r_bin (a := (i : Int)) (b := (pl : Int)) rfl rfl (fun _ => b_lss)) ?_); first | refine l_end ?_ | refine l_nil ?_
  by_cases hc2 : (i : Int) < (pl : Int)
  ·
   repeat refine c_seq ?_
   refine c_yes (by exact congrArg Value.bool (decide_eq_true hc2)) ?_; refine c_skip ?_; repeat refine c_seq ?_
   refine c_block ?_; repeat refine c_seq ?_
   refine c_region ?_; obtain ⟨ab3, ao4, ah5⟩ := (H.rd hr (apart_nil _)).addr (by simp only [List.length_map]; omega)
   refine l_op (o_val (r_isN i rfl rfl el58 ah5 (by omega) (by (try simp only [Sl.cut]); omega)) ?_); obtain ⟨p6, hp7⟩ : ∃ p, ps[i]? = some p := ⟨_, List.getElem?_eq_getElem (by omega)⟩
   have hpok8 := hok p6 (List.mem_of_getElem? hp7)
   have hpok8n := hpok8.ln
   have hpok8m := hpok8.le
   refine l_op (o_val (r_ldP (k := i) (H.rd hr (apart_nil _)) ah5 rfl ct24 hp7) ?_); refine l_op (o_val r_as ?_); first | refine l_end ?_ | refine l_nil ?_
   have hs1 := fr_succ ps i p6 hp7
   have hs2 := fr_le ps (i + 1)
   have hs3 : (fr ps (i + 1)).length = (fr ps i).length + 8 + p6.l.length := by rw [hs1]; simp [be_len]; omega
   repeat refine c_seq ?_
   refine c_region ?_; refine l_op (o_val r_mv ?_); refine l_op (o_val (r_lens el24 rfl) ?_); refine l_op (o_val (r_conv (v := ((UInt64.ofNat p6.len).toNat : Int)) Tryz.underlying3 Tryz.underlying33 rfl (w_u64_N p6.len (by omega))) ?_); refine l_op (o_callR Tryz.func23 rfl rfl rfl (put0_ret _ (UInt64.ofNat p6.len) 8 (by omega) (by omega) (.inl rfl)) ?_); rintro _ w ⟨a9, c10, rfl, Hc⟩
   replace H : Hp _ w _ ([_, _, .own a9 8 c10 ((be (UInt64.ofNat p6.len).toNat 8).map V8) 5 1]) := H.call Hc
   clear Hc
   refine l_op (o_val r_mv ?_); refine l_op (o_val (r_ext rfl rfl) ?_); refine l_op (o_val (r_ext rfl rfl) ?_); refine l_op (o_val r_as ?_); refine l_op (o_val r_as ?_); first | refine l_end ?_ | refine l_nil ?_
   repeat refine c_seq ?_
   refine c_region ?_; refine l_op (o_val r_mv ?_); refine l_op (o_val r_mv ?_); refine l_op (o_appB (s := ⟨hd a9, 8, c10, be (UInt64.ofNat p6.len).toNat 8⟩) (l' := fr ps i ++ (be (UInt64.ofNat p6.len).toNat 8)) (len' := (fr ps i).length + 8) rfl rfl H (i := 1) rfl sl24 Tryz.underlying24 rfl rfl (H.slOwn (i := 2) rfl) (by omega) (fun a11 c12 w H => ?_)); replace H : Hp _ w _ ([_, .own a11 ((fr ps i).length + 8) c12 ((fr ps i ++ (be (UInt64.ofNat p6.len).toNat 8)).map V8) 5 1, _]) := H
   refine l_op (o_val r_mv ?_); refine l_op (o_appB (s := p6) (l' := fr ps (i + 1)) (len' := (fr ps (i + 1)).length) (by rw [hs1, ofNat_nat _ (by omega), hpok8n]) (by omega) H (i := 1) rfl sl24 Tryz.underlying24 rfl rfl (hpok8.up H (fun _ => apart_nil _)) (by omega) (fun a13 c14 w H => ?_)); replace H : Hp _ w _ ([_, .own a13 ((fr ps (i + 1)).length) c14 ((fr ps (i + 1)).map V8) 5 1, _]) := H
   refine l_op (o_val r_as ?_); first | refine l_end ?_ | refine l_nil ?_
   repeat refine c_seq ?_
   refine c_region ?_; refine l_op (o_val (r_bin (a := (i : Int)) (b := 1) rfl rfl (fun _ => b_add (by omega) (by omega))) ?_); refine l_op (o_val r_mv ?_); first | refine l_end ?_ | refine l_nil ?_
   refine round_end (i + 1, a13, c14) ?_ ?_ ?_
   · exact ⟨rfl, rfl, rfl, rfl, rfl, show VI ((i : Int) + 1) = VI ((i + 1 : Nat) : Int) from congrArg VI (by omega), trivial⟩
   · refine ⟨?_, ?_⟩
     · try dsimp only
       exact by omega
     · exact H.sub (.cons_cons _ (.cons_cons _ (List.nil_sublist _)))
   · show pl - (i + 1 : Nat) < pl - i; omega
  ·
   repeat refine c_seq ?_
   refine c_no (by exact congrArg Value.bool (decide_eq_false hc2)) ?_; refine c_exit ?_; have hi2 : i = pl := by omega
   subst hi2
   repeat refine c_seq ?_
   refine c_region ?_; refine l_op (o_val r_mv ?_); refine l_op (o_val r_mv ?_); refine l_op (o_callR Tryz.func24 rfl rfl rfl (raw_ret _ s ⟨hd a, (fr ps i).length, c, fr ps i⟩ (hs.up H (fun _ => apart_nil _)) (H.slOwn (i := 1) rfl)) ?_); rintro _ w ⟨rfl, Hc⟩
   replace H : Hp _ w _ ([_, _]) := H.call Hc
   clear Hc
   refine l_op (o_stA (l' := hmac (s.l) (fr ps i)) H (i := 0) rfl rfl rfl cs23 (show (List.replicate 32 (0 : UInt8)).length = 32 from (List.length_replicate ..)) (show (hmac (s.l) (fr ps i)).length = 32 from hmac_len _ _) (fun w H => ?_)); replace H : Hp _ w _ ([.blk b1 ((hmac (s.l) (fr ps i)).map V8) 23, _]) := H
   first | refine l_end ?_ | refine l_nil ?_
   refine c_ret ?_; try dsimp only [Exit.then, Exit.inBlock]
   refine e_retA (l := hmac (s.l) (fr ps i)) Tryz.results11 H (i := 0) rfl rfl rt23 (show (hmac (s.l) (fr ps i)).length = 32 from hmac_len _ _) ?_
   refine ⟨_, rfl, ?_⟩
   rw [fr_all ps i hl]
   exact ⟨rfl, H.sub (List.nil_sublist _)⟩
end Go.Proofs.YtiepekfcegdkoaaGreatDoor
namespace Go.Proofs.YtiepekfcegdkoaaGreatDoor
open Go
set_option maxRecDepth 100000
/-- a number in groups of seven bits. -/
def cnt (v : Nat) : List UInt8 := if 127 < v then (UInt8.ofNat v ||| 128) :: cnt (v / 128) else [UInt8.ofNat v]
termination_by v
decreasing_by omega
theorem cnt_more (v : UInt64) (h : 127 < v.toNat) : cnt v.toNat = (v.toUInt8 ||| 128) :: cnt (v >>> UInt64.ofNat 7).toNat := by
  have e : (v >>> UInt64.ofNat 7).toNat = v.toNat / 128 := by
    have e7 : (UInt64.ofNat 7).toNat % 64 = 7 := rfl
    rw [UInt64.toNat_shiftRight, e7, Nat.shiftRight_eq_div_pow]
  have e2 : v.toUInt8 = UInt8.ofNat v.toNat := by
    apply UInt8.toNat_inj.1; rw [UInt64.toNat_toUInt8, UInt8.toNat_ofNat']
  rw [cnt, if_pos h, e, e2]
theorem cnt_less (v : UInt64) (h : ¬ 127 < v.toNat) : cnt v.toNat = [v.toUInt8] := by
  have e2 : v.toUInt8 = UInt8.ofNat v.toNat := by
    apply UInt8.toNat_inj.1; rw [UInt64.toNat_toUInt8, UInt8.toNat_ofNat']
  rw [cnt, if_neg h, e2]
theorem shr7 (v : UInt64) : (v >>> UInt64.ofNat 7).toNat = v.toNat / 128 := by
  have e7 : (UInt64.ofNat 7).toNat % 64 = 7 := rfl
  rw [UInt64.toNat_shiftRight, e7, Nat.shiftRight_eq_div_pow]
def zigU (v : Int) : UInt64 := (UInt64.ofInt v <<< UInt64.ofNat 1) ^^^ UInt64.ofInt (v / 2 ^ (63 : Int).toNat)
theorem cnt_bound (x ln s : Nat) (hx : x < 2 ^ (64 - 7 * (ln - s))) (h : 127 < x) (h1 : s ≤ ln) (h2 : ln ≤ s + 10) : ln + 1 ≤ s + 10 ∧ x / 128 < 2 ^ (64 - 7 * (ln + 1 - s)) := by
  obtain ⟨k, rfl⟩ : ∃ k, ln = s + k := ⟨ln - s, by omega⟩
  rw [Nat.add_sub_cancel_left] at hx
  have hk : k < 9 := by
    refine Nat.lt_of_not_le fun hk => ?_
    have : 2 ^ (64 - 7 * k) ≤ 2 ^ 1 := Nat.pow_le_pow_right (by decide) (by omega)
    omega
  refine ⟨by omega, ?_⟩
  rw [show s + k + 1 - s = k + 1 by omega]
  have e : 2 ^ (64 - 7 * k) = 2 ^ (64 - 7 * (k + 1)) * 128 := by
    rw [show (128 : Nat) = 2 ^ 7 from rfl, ← Nat.pow_add]; congr 1; omega
  rw [e] at hx
  exact Nat.div_lt_of_lt_mul (by omega)
theorem count_ret (w0 : World) (s : Sl) (hs : s.ok w0) (u : UInt64) (hm : s.len ≤ 1048576) :
    Ret Tryz.prog 97 [s.v, V64 u] w0 fun v w' => ∃ a n c, v = .slice (hd a) n c ∧ n ≤ s.len + 11 ∧ Hp w0 w' [] [.own a n c ((s.l ++ cnt u.toNat).map V8) 5 1] := by
  refine ret_mk Tryz.func97 rfl Tryz.ntmps97 (by simp) ?_
  have H := Hp.refl w0 []
  repeat refine c_seq ?_
  refine c_region ?_; refine l_op (o_val r_as ?_); first | refine l_end ?_ | refine l_nil ?_
  repeat refine c_seq ?_
  refine c_region ?_; refine l_op (o_val r_mv ?_); refine l_op (o_callR Tryz.func67 rfl rfl rfl (own_ret _ s (hs.up H (fun _ => apart_nil _)) 10 (by omega)) ?_); rintro _ w ⟨a1, c2, rfl, Hc⟩
  replace H : Hp _ w _ ([.own a1 s.len c2 ((s.l).map V8) 5 1]) := H.call Hc
  clear Hc
  refine l_op (o_val r_as ?_); first | refine l_end ?_ | refine l_nil ?_
  repeat refine c_seq ?_
  refine c_block ?_; repeat refine c_seq ?_
  refine c_loop5 (fun (x : UInt64) (l : List UInt8) (a : Option Nat) (ln : Nat) (c : Nat) => [(1, V64 x), (5, .slice (hd a) ln c)])
    (fun (x : UInt64) (l : List UInt8) (a : Option Nat) (ln : Nat) (c : Nat) w => (l ++ cnt x.toNat = s.l ++ cnt u.toNat ∧ ln ≤ s.len + 10 ∧ x.toNat < 2 ^ (64 - 7 * (ln - s.len)) ∧ s.len ≤ ln) ∧ Hp w0 w [] ([.own a ln c ((l).map V8) 5 1]))
    (fun (x : UInt64) (l : List UInt8) (a : Option Nat) (ln : Nat) (c : Nat) => x.toNat) u s.l a1 s.len c2 ⟨rfl, rfl, trivial⟩ ⟨⟨rfl, by omega, by rw [Nat.sub_self]; exact u.toNat_lt, Nat.le_refl _⟩, H⟩ ?_
  clear H
  rintro x l a ln c τ w ⟨⟨hl, hln, hx, hge⟩, H⟩
  repeat refine c_seq ?_
  refine c_region ?_; refine l_op (o_val r_mv ?_); refine l_op (o_val (r_bin (a := (x.toNat : Int)) (b := 127) rfl rfl (fun _ => b_gtr)) ?_); first | refine l_end ?_ | refine l_nil ?_
  by_cases hc3 : 127 < (x.toNat : Int)
  ·
   repeat refine c_seq ?_
   refine c_yes (by exact congrArg Value.bool (decide_eq_true hc3)) ?_; refine c_skip ?_; repeat refine c_seq ?_
   refine c_block ?_; repeat refine c_seq ?_
   refine c_region ?_; refine l_op (o_val r_mv ?_); refine l_op (o_val r_mv ?_); refine l_op (o_val (r_conv Tryz.underlying33 Tryz.underlying5 rfl (w_u8_64 _)) ?_); refine l_op (o_val (r_bin rfl (c8 128 (by decide)) (fun _ => b_or_u8)) ?_); refine l_op (o_bslB ([x.toUInt8 ||| (128 : UInt8)]) H sl24 zc5 rfl rfl (by decide) (fun b4 w H hb4 => ?_)); replace H : Hp _ w _ ([_, .own (some b4) 1 1 (([x.toUInt8 ||| (128 : UInt8)]).map V8) 5 1]) := H
   refine l_op (o_appB (s := ⟨hd (some b4), 1, 1, [x.toUInt8 ||| (128 : UInt8)]⟩) (l' := l ++ ([x.toUInt8 ||| (128 : UInt8)])) (len' := ln + 1) rfl rfl H (i := 0) rfl sl24 Tryz.underlying24 rfl rfl (H.slOwn (i := 1) rfl) (by omega) (fun a5 c6 w H => ?_)); replace H : Hp _ w _ ([.own a5 (ln + 1) c6 ((l ++ ([x.toUInt8 ||| (128 : UInt8)])).map V8) 5 1, _]) := H
   refine l_op (o_val r_as ?_); first | refine l_end ?_ | refine l_nil ?_
   repeat refine c_seq ?_
   refine c_region ?_; refine l_op (o_val r_mv ?_); refine l_op (o_val (r_shift rfl rfl (.inr rfl) (fun _ => b_shr_u64N 7 (by omega))) ?_); refine l_op (o_val r_as ?_); first | refine l_end ?_ | refine l_nil ?_
   have hb7 := cnt_bound x.toNat ln s.len hx (by omega) hge hln
   refine round_end (x >>> UInt64.ofNat 7, l ++ ([x.toUInt8 ||| (128 : UInt8)]), a5, ln + 1, c6) ?_ ?_ ?_
   · exact ⟨show V64 (x >>> UInt64.ofNat 7) = V64 (x >>> UInt64.ofNat 7 : UInt64) from congrArg V64 rfl, rfl, trivial⟩
   · refine ⟨?_, ?_⟩
     · try dsimp only
       exact ⟨by rw [cnt_more x (by omega)] at hl; simpa using hl, by omega, by rw [shr7]; exact hb7.2, by omega⟩
     · exact H.sub (.cons_cons _ (List.nil_sublist _))
   · show (x >>> UInt64.ofNat 7).toNat < x.toNat; rw [shr7]; omega
  ·
   repeat refine c_seq ?_
   refine c_no (by exact congrArg Value.bool (decide_eq_false hc3)) ?_; refine c_exit ?_; repeat refine c_seq ?_
   refine c_region ?_; refine l_op (o_val r_mv ?_); refine l_op (o_val r_mv ?_); refine l_op (o_val (r_conv Tryz.underlying33 Tryz.underlying5 rfl (w_u8_64 _)) ?_); refine l_op (o_bslB ([x.toUInt8]) H sl24 zc5 rfl rfl (by decide) (fun b7 w H hb7 => ?_)); replace H : Hp _ w _ ([_, .own (some b7) 1 1 (([x.toUInt8]).map V8) 5 1]) := H
   refine l_op (o_appB (s := ⟨hd (some b7), 1, 1, [x.toUInt8]⟩) (l' := l ++ ([x.toUInt8])) (len' := ln + 1) rfl rfl H (i := 0) rfl sl24 Tryz.underlying24 rfl rfl (H.slOwn (i := 1) rfl) (by omega) (fun a8 c9 w H => ?_)); replace H : Hp _ w _ ([.own a8 (ln + 1) c9 ((l ++ ([x.toUInt8])).map V8) 5 1, _]) := H
   refine l_op (o_val r_as ?_); first | refine l_end ?_ | refine l_nil ?_
   refine c_ret ?_; try dsimp only [Exit.then, Exit.inBlock]
   refine e_ret1 (v := .slice (hd a8) (ln + 1) c9) Tryz.results97 rfl ?_
   refine ⟨_, rfl, ?_⟩
   refine ⟨_, _, _, rfl, by omega, ?_⟩
   rw [cnt_less x (by omega)] at hl
   rw [← hl]
   exact H.sub (.cons_cons _ (List.nil_sublist _))
theorem text_ret (w0 : World) (s u : Sl) (hs : s.ok w0) (hu : u.ok w0) (hm : s.len ≤ 1048576) (hn : u.len ≤ 65536) :
    Ret Tryz.prog 72 [s.v, u.v] w0 fun v w' => ∃ a n c, v = .tuple #[.slice (hd a) n c, VI 0] ∧ n ≤ s.len + 11 + u.len ∧ Hp w0 w' [] [.own a n c ((s.l ++ cnt u.len ++ u.l).map V8) 5 1] := by
  refine ret_mk Tryz.func72 rfl Tryz.ntmps72 (by simp) ?_
  have H := Hp.refl w0 []
  repeat refine c_seq ?_
  refine c_region ?_; refine l_op (o_val r_as ?_); refine l_op (o_val r_as ?_); first | refine l_end ?_ | refine l_nil ?_
  repeat refine c_seq ?_
  refine c_region ?_; refine l_op (o_val r_mv ?_); refine l_op (o_val (r_lens el24 rfl) ?_); refine l_op (o_val (r_bin (a := (u.len : Int)) (b := 65536) rfl rfl (fun _ => b_gtrB false (decide_eq_false (by omega)))) ?_); first | refine l_end ?_ | refine l_nil ?_
  repeat refine c_seq ?_
  refine c_no rfl ?_; refine c_skip ?_; repeat refine c_seq ?_
  refine c_region ?_; refine l_op (o_val r_mv ?_); refine l_op (o_val r_mv ?_); refine l_op (o_val (r_lens el24 rfl) ?_); refine l_op (o_val (r_conv (v := ((UInt64.ofNat u.len).toNat : Int)) Tryz.underlying3 Tryz.underlying33 rfl (w_u64_N u.len (by omega))) ?_); refine l_op (o_callR Tryz.func97 rfl rfl rfl (count_ret _ s (hs.up H (fun _ => apart_nil _)) (UInt64.ofNat u.len) (by (try simp only [Sl.cut]); omega)) ?_); rintro _ w ⟨a1, n2, c3, rfl, hn4, Hc⟩
  replace H : Hp _ w _ ([.own a1 n2 c3 ((s.l ++ cnt (UInt64.ofNat u.len).toNat).map V8) 5 1]) := H.call Hc
  clear Hc
  try dsimp only at hn4
  refine l_op (o_val r_mv ?_); refine l_op (o_appB (s := u) (l' := s.l ++ cnt (UInt64.ofNat u.len).toNat ++ u.l) (len' := n2 + u.len) rfl rfl H (i := 0) rfl sl24 Tryz.underlying24 rfl rfl (hu.up H (fun _ => apart_nil _)) (by omega) (fun a5 c6 w H => ?_)); replace H : Hp _ w _ ([.own a5 (n2 + u.len) c6 ((s.l ++ cnt (UInt64.ofNat u.len).toNat ++ u.l).map V8) 5 1]) := H
  refine l_op (o_val r_as ?_); refine l_op (o_val r_as ?_); first | refine l_end ?_ | refine l_nil ?_
  refine c_ret ?_; try dsimp only [Exit.then, Exit.inBlock]
  refine e_retN (vs := [.slice (hd a5) (n2 + u.len) c6, VI 0]) _ Tryz.results72 rfl (resT (v := .slice (hd a5) (n2 + u.len) c6) rfl (resT (v := VI 0) rfl (resZ))) ?_
  refine ⟨_, rfl, ?_⟩
  refine ⟨_, _, _, rfl, by omega, ?_⟩
  rw [ofNat_nat _ (by omega)] at H
  exact H
theorem zig_ret (w0 : World) (n : Int) :
    Ret Tryz.prog 114 [VI n] w0 fun v w' => v = V64 (zigU n) ∧ Hp w0 w' [] [] := by
  refine ret_mk Tryz.func114 rfl Tryz.ntmps114 (by simp) ?_
  have H := Hp.refl w0 []
  repeat refine c_seq ?_
  refine c_region ?_; refine l_op (o_val (r_asV (c64 0 (by decide))) ?_); first | refine l_end ?_ | refine l_nil ?_
  repeat refine c_seq ?_
  refine c_region ?_; refine l_op (o_val r_mv ?_); refine l_op (o_val (r_conv Tryz.underlying2 Tryz.underlying33 rfl (w_u64_I _)) ?_); refine l_op (o_val (r_shift rfl rfl (.inl rfl) (fun _ => b_shl_u64N 1 (by omega))) ?_); refine l_op (o_val r_mv ?_); refine l_op (o_val (r_shift (a := n) rfl rfl (.inr rfl) (fun _ => b_shr_i64 (by decide) (by decide))) ?_); refine l_op (o_val (r_conv Tryz.underlying2 Tryz.underlying33 rfl (w_u64_I _)) ?_); refine l_op (o_val (r_bin rfl rfl (fun _ => b_xor_u64)) ?_); refine l_op (o_val r_as ?_); first | refine l_end ?_ | refine l_nil ?_
  refine c_ret ?_; try dsimp only [Exit.then, Exit.inBlock]
  refine e_ret1 (v := V64 (((UInt64.ofInt n) <<< UInt64.ofNat 1) ^^^ (UInt64.ofInt (n / 2 ^ (63 : Int).toNat)))) Tryz.results114 rfl ?_
  refine ⟨_, rfl, ?_⟩
  exact ⟨rfl, H⟩
end Go.Proofs.YtiepekfcegdkoaaGreatDoor
namespace Go.Proofs.YtiepekfcegdkoaaGreatDoor
open Go
set_option maxRecDepth 100000
theorem rem_be (v : UInt64) (m : Nat) (h : v.toNat = m) : (v % 256).toUInt8 = UInt8.ofNat m := by
  apply UInt8.toNat_inj.1
  rw [UInt64.toNat_toUInt8, UInt64.toNat_mod, UInt8.toNat_ofNat', h]
  have : (256 : UInt64).toNat = 256 := rfl
  rw [this]; omega
theorem quo_be (v : UInt64) (x i : Nat) (h : v.toNat = x / 256 ^ i) : (v / 256).toNat = x / 256 ^ (i + 1) := by
  rw [UInt64.toNat_div, h, Nat.pow_succ, Nat.div_div_eq_div_mul]; rfl
theorem put1_ret (w0 : World) (s : Sl) (hs : s.ok w0) (u : UInt64) (n : Nat) (h1 : 1 ≤ n) (h8 : n ≤ 8) (hf : u.toNat < 256 ^ n) (hm : s.len ≤ 1048576) :
    Ret Tryz.prog 69 [s.v, V64 u, VI (n : Int)] w0 fun v w' => ∃ a cap, v = .tuple #[.slice (hd a) (s.len + n) cap, VI 0] ∧ Hp w0 w' [] [.own a (s.len + n) cap ((s.l ++ be u.toNat n).map V8) 5 1] := by
  refine ret_mk Tryz.func69 rfl Tryz.ntmps69 (by simp) ?_
  have H := Hp.refl w0 []
  repeat refine c_seq ?_
  refine c_region ?_; refine l_op (o_val r_as ?_); refine l_op (o_val r_as ?_); first | refine l_end ?_ | refine l_nil ?_
  repeat refine c_seq ?_
  refine c_region ?_; refine l_op (o_val r_mv ?_); refine l_op (o_val (r_bin (a := (n : Int)) (b := 1) rfl rfl (fun _ => b_lssB false (decide_eq_false (by omega)))) ?_); refine l_op (o_val r_mv ?_); refine l_yes rfl rfl rfl (o_val r_mv ?_); refine l_yes rfl rfl rfl (o_val (r_bin (a := (n : Int)) (b := 8) rfl rfl (fun _ => b_gtrB false (decide_eq_false (by omega)))) ?_); refine l_op (o_val (r_pick rfl) ?_); first | refine l_end ?_ | refine l_nil ?_
  repeat refine c_seq ?_
  refine c_no rfl ?_; refine c_skip ?_; repeat refine c_seq ?_
  refine c_region ?_; refine l_op (o_val r_as ?_); first | refine l_end ?_ | refine l_nil ?_
  repeat refine c_seq ?_
  refine c_region ?_; refine l_op (o_val r_as ?_); first | refine l_end ?_ | refine l_nil ?_
  repeat refine c_seq ?_
  refine c_block ?_; repeat refine c_seq ?_
  refine c_loop4 (fun (i : Nat) (x : UInt64) (a : Option Nat) (c : Nat) => [(0, s.v), (1, V64 x), (2, VI (n : Int)), (8, .slice (hd a) i c), (9, VI (i : Int))])
    (fun (i : Nat) (x : UInt64) (a : Option Nat) (c : Nat) w => (i ≤ n ∧ x.toNat = u.toNat / 256 ^ i) ∧ Hp w0 w [] ([.own a i c ((be u.toNat i).map V8) 5 1]))
    (fun (i : Nat) (x : UInt64) (a : Option Nat) (c : Nat) => n - i) 0 u none 0 ⟨rfl, rfl, rfl, rfl, rfl, trivial⟩ ⟨⟨Nat.zero_le _, by simp⟩, (H.nilEnd 5 1)⟩ ?_
  clear H
  rintro i x a c τ w ⟨⟨hi, hx⟩, H⟩
  repeat refine c_seq ?_
  refine c_region ?_; refine l_op (o_val r_mv ?_); refine l_op (o_val r_mv ?_); refine l_op (o_val (r_bin (a := (i : Int)) (b := (n : Int)) rfl rfl (fun _ => b_lss)) ?_); first | refine l_end ?_ | refine l_nil ?_
  by_cases hc1 : (i : Int) < (n : Int)
  ·
   repeat refine c_seq ?_
   refine c_yes (by exact congrArg Value.bool (decide_eq_true hc1)) ?_; refine c_skip ?_; repeat refine c_seq ?_
   refine c_block ?_; repeat refine c_seq ?_
   refine c_region ?_; refine l_op (o_val r_mv ?_); refine l_op (o_val (r_bin rfl (c64 256 (by decide)) (fun _ => b_rem_u64 (by decide))) ?_); refine l_op (o_val (r_conv Tryz.underlying33 Tryz.underlying5 rfl (w_u8_64 _)) ?_); refine l_op (o_bslB ([(x % (256 : UInt64)).toUInt8]) H sl24 zc5 rfl rfl (by decide) (fun b2 w H hb2 => ?_)); replace H : Hp _ w _ ([_, .own (some b2) 1 1 (([(x % (256 : UInt64)).toUInt8]).map V8) 5 1]) := H
   refine l_op (o_val r_mv ?_); refine l_op (o_appB (s := ⟨hd a, i, c, be u.toNat i⟩) (l' := be u.toNat (i + 1)) (len' := i + 1) (by rw [be, rem_be x _ hx]; rfl) (by (try dsimp only); omega) H (i := 1) rfl sl24 Tryz.underlying24 rfl rfl (H.slOwn (i := 0) rfl) (by omega) (fun a3 c4 w H => ?_)); replace H : Hp _ w _ ([_, .own a3 (i + 1) c4 ((be u.toNat (i + 1)).map V8) 5 1]) := H
   refine l_op (o_val r_as ?_); first | refine l_end ?_ | refine l_nil ?_
   repeat refine c_seq ?_
   refine c_region ?_; refine l_op (o_val r_mv ?_); refine l_op (o_val (r_bin rfl (c64 256 (by decide)) (fun _ => b_quo_u64 (by decide))) ?_); refine l_op (o_val r_as ?_); first | refine l_end ?_ | refine l_nil ?_
   repeat refine c_seq ?_
   refine c_region ?_; refine l_op (o_val r_mv ?_); refine l_op (o_val (r_bin (a := (i : Int)) (b := 1) rfl rfl (fun _ => b_add (by omega) (by omega))) ?_); refine l_op (o_val r_as ?_); first | refine l_end ?_ | refine l_nil ?_
   refine round_end (i + 1, x / (256 : UInt64), a3, c4) ?_ ?_ ?_
   · exact ⟨rfl, show V64 (x / (256 : UInt64)) = V64 (x / (256 : UInt64) : UInt64) from congrArg V64 rfl, rfl, rfl, show VI ((i : Int) + 1) = VI ((i + 1 : Nat) : Int) from congrArg VI (by omega), trivial⟩
   · refine ⟨?_, ?_⟩
     · try dsimp only
       exact ⟨by omega, quo_be _ _ _ hx⟩
     · exact H.sub (.cons _ (.cons_cons _ (List.nil_sublist _)))
   · show n - (i + 1 : Nat) < n - i; omega
  ·
   repeat refine c_seq ?_
   refine c_no (by exact congrArg Value.bool (decide_eq_false hc1)) ?_; refine c_exit ?_; have hx0 : x.toNat = 0 := by
     have hi2 : i = n := by omega
     rw [hx, hi2]; exact Nat.div_eq_of_lt hf
   repeat refine c_seq ?_
   refine c_region ?_; refine l_op (o_val r_mv ?_); refine l_op (o_val (r_bin (a := (x.toNat : Int)) (b := 0) rfl rfl (fun _ => b_gtrB false (decide_eq_false (by omega)))) ?_); first | refine l_end ?_ | refine l_nil ?_
   repeat refine c_seq ?_
   refine c_no rfl ?_; refine c_skip ?_; repeat refine c_seq ?_
   refine c_region ?_; refine l_op (o_bslB (([] : List UInt8)) H sl24 zc5 rfl rfl (by decide) (fun b5 w H hb5 => ?_)); replace H : Hp _ w _ ([_, .own (some b5) 0 0 ((([] : List UInt8)).map V8) 5 1]) := H
   refine l_op (o_val r_mv ?_); refine l_op (o_appB (s := s) (l' := s.l) (len' := s.len) rfl (Nat.zero_add _) H (i := 1) rfl sl24 Tryz.underlying24 rfl rfl (hs.up H (fun _ => apart_nil _)) (by omega) (fun a6 c7 w H => ?_)); replace H : Hp _ w _ ([_, .own a6 s.len c7 ((s.l).map V8) 5 1]) := H
   refine l_op (o_val r_mv ?_); refine l_op (o_appB (s := ⟨hd a, i, c, be u.toNat i⟩) (l' := s.l ++ (be u.toNat i)) (len' := s.len + i) rfl rfl H (i := 1) rfl sl24 Tryz.underlying24 rfl rfl (H.slOwn (i := 0) rfl) (by omega) (fun a8 c9 w H => ?_)); replace H : Hp _ w _ ([_, .own a8 (s.len + i) c9 ((s.l ++ (be u.toNat i)).map V8) 5 1]) := H
   refine l_op (o_val r_as ?_); refine l_op (o_val r_as ?_); first | refine l_end ?_ | refine l_nil ?_
   refine c_ret ?_; try dsimp only [Exit.then, Exit.inBlock]
   refine e_retN (vs := [.slice (hd a8) (s.len + i) c9, VI 0]) _ Tryz.results69 rfl (resT (v := .slice (hd a8) (s.len + i) c9) rfl (resT (v := VI 0) rfl (resZ))) ?_
   refine ⟨_, rfl, ?_⟩
   have hi2 : i = n := by omega
   subst hi2
   exact ⟨_, _, rfl, H.sub (.cons _ (.cons_cons _ (List.nil_sublist _)))⟩
theorem u64_fit8 (u : UInt64) : u.toNat < 256 ^ 8 := u.toNat_lt
theorem put1z_ret (w0 : World) (u : UInt64) (n : Nat) (h1 : 1 ≤ n) (h8 : n ≤ 8) (hf : u.toNat < 256 ^ n) :
    Ret Tryz.prog 69 [.slice none 0 0, V64 u, VI (n : Int)] w0 fun v w' => ∃ a cap, v = .tuple #[.slice (hd a) n cap, VI 0] ∧ Hp w0 w' [] [.own a n cap ((be u.toNat n).map V8) 5 1] :=
  (put1_ret w0 ⟨none, 0, 0, []⟩ (Sl.ok_nil _) u n h1 h8 hf (by simp)).mono fun v w' ⟨a, c, hv, H⟩ => ⟨a, c, by simpa using hv, by simpa using H⟩
theorem eight_ret (w0 : World) (u : UInt64) :
    Ret Tryz.prog 25 [V64 u] w0 fun v w' => ∃ a cap, v = .slice (hd a) 8 cap ∧ Hp w0 w' [] [.own a 8 cap ((be u.toNat 8).map V8) 5 1] := by
  refine ret_mk Tryz.func25 rfl Tryz.ntmps25 (by simp) ?_
  have H := Hp.refl w0 []
  repeat refine c_seq ?_
  refine c_region ?_; refine l_op (o_val r_as ?_); first | refine l_end ?_ | refine l_nil ?_
  repeat refine c_seq ?_
  refine c_region ?_; refine l_op (o_val r_mv ?_); refine l_op (o_callR Tryz.func69 rfl rfl rfl (put1z_ret _ (u) 8 (by omega) (by omega) (u64_fit8 _)) ?_); rintro _ w ⟨a1, c2, rfl, Hc⟩
  replace H : Hp _ w _ ([.own a1 8 c2 ((be (u).toNat 8).map V8) 5 1]) := H.call Hc
  clear Hc
  refine l_op (o_val r_mv ?_); refine l_op (o_val (r_ext rfl rfl) ?_); refine l_op (o_val (r_ext rfl rfl) ?_); refine l_op (o_val r_as ?_); refine l_op (o_val r_as ?_); first | refine l_end ?_ | refine l_nil ?_
  repeat refine c_seq ?_
  refine c_region ?_; refine l_op (o_val r_mv ?_); refine l_op (o_val r_as ?_); first | refine l_end ?_ | refine l_nil ?_
  refine c_ret ?_; try dsimp only [Exit.then, Exit.inBlock]
  refine e_ret1 (v := .slice (hd a1) 8 c2) Tryz.results25 rfl ?_
  refine ⟨_, rfl, ?_⟩
  exact ⟨_, _, rfl, H⟩
theorem kpad_len (K : List UInt8) (m : UInt8) (hK : K.length ≤ 64) : (kpad K m).length = 64 := by rw [kpad, List.length_map, padk_len K hK]
theorem kpad_step (K : List UInt8) (m c : UInt8) (i : Nat) (h : i < 64) (hK : K.length ≤ 64) (hc : c = K.getD i 0) : (kpad K m).take i ++ [c ^^^ m] = (kpad K m).take (i + 1) := by
  have hg : (padk K)[i]? = some c := by
    rw [hc, padk]
    by_cases hi : i < K.length
    · rw [List.getElem?_append_left hi, List.getD_eq_getElem?_getD]; simp [hi]
    · rw [List.getElem?_append_right (by omega), List.getElem?_replicate, if_pos (by omega), List.getD_eq_getElem?_getD, List.getElem?_eq_none (by omega)]; rfl
  have hk : (kpad K m)[i]? = some (c ^^^ m) := by rw [kpad, List.getElem?_map, hg]; rfl
  rw [List.take_add_one, hk]; rfl
theorem kpad_all (K : List UInt8) (m : UInt8) (hK : K.length ≤ 64) : (kpad K m).take 64 = kpad K m := List.take_of_length_le (Nat.le_of_eq (kpad_len K m hK))
theorem getD_none (K : List UInt8) (i : Nat) (h : K.length ≤ i) : (0 : UInt8) = K.getD i 0 := by
  rw [List.getD_eq_getElem?_getD, List.getElem?_eq_none h]; rfl
theorem raw3_ret (w0 : World) (s u : Sl) (hs : s.ok w0) (hu : u.ok w0) (h1 : s.len ≤ 1000000) (h2 : u.len ≤ 1000000) :
    Ret Tryz.prog 26 [s.v, u.v] w0 fun v w' => v = .agg ((hmac s.l u.l).map V8).toArray ∧ Hp w0 w' [] [] := by
  refine ret_mk Tryz.func26 rfl Tryz.ntmps26 (by simp) ?_
  have H := Hp.refl w0 []
  have hsl := hs.ln
  have hul := hu.ln
  repeat refine c_seq ?_
  refine c_region ?_; refine l_op (o_alloc H zc23 (fun b1 w H hb1 => ?_)); replace H : Hp _ w _ ([.blk b1 ((List.replicate 32 (0 : UInt8)).map V8) 23]) := H
  first | refine l_end ?_ | refine l_nil ?_
  repeat refine c_seq ?_
  refine c_region ?_; refine l_op (o_bslB (([] : List UInt8)) H sl24 zc5 rfl rfl (by decide) (fun b2 w H hb2 => ?_)); replace H : Hp _ w _ ([_, .own (some b2) 0 0 ((([] : List UInt8)).map V8) 5 1]) := H
  refine l_op (o_val r_mv ?_); refine l_op (o_appB (s := s) (l' := s.l) (len' := s.len) rfl (Nat.zero_add _) H (i := 1) rfl sl24 Tryz.underlying24 rfl rfl (hs.up H (fun _ => apart_nil _)) (by omega) (fun a3 c4 w H => ?_)); replace H : Hp _ w _ ([_, .own a3 s.len c4 ((s.l).map V8) 5 1]) := H
  refine l_op (o_val r_as ?_); first | refine l_end ?_ | refine l_nil ?_
  repeat refine c_seq ?_
  refine c_region ?_; refine l_op (o_val r_mv ?_); refine l_op (o_val (r_lens el24 rfl) ?_); refine l_op (o_val (r_bin (a := (s.len : Int)) (b := 64) rfl rfl (fun _ => b_gtr)) ?_); first | refine l_end ?_ | refine l_nil ?_
  by_cases hc5 : 64 < (s.len : Int)
  ·
   repeat refine c_seq ?_
   refine c_yes (by exact congrArg Value.bool (decide_eq_true hc5)) ?_; repeat refine c_seq ?_
   refine c_region ?_; refine l_op (o_val r_mv ?_); refine l_op (o_callR Tryz.func70 rfl rfl rfl (sum2_ret _ ⟨hd a3, s.len, c4, s.l⟩ (H.slOwn (i := 1) rfl) (by (try dsimp only); omega)) ?_); rintro _ w ⟨rfl, Hc⟩
   replace H : Hp _ w _ ([_, _]) := H.call Hc
   clear Hc
   refine l_op (o_alloc H zc23 (fun b6 w H hb6 => ?_)); replace H : Hp _ w _ ([_, _, .blk b6 ((List.replicate 32 (0 : UInt8)).map V8) 23]) := H
   refine l_op (o_stA (l' := sha256 (s.l)) H (i := 2) rfl rfl rfl cs23 (show (List.replicate 32 (0 : UInt8)).length = 32 from (List.length_replicate ..)) (show (sha256 (s.l)).length = 32 from sha256_len _) (fun w H => ?_)); replace H : Hp _ w _ ([_, _, .blk b6 ((sha256 (s.l)).map V8) 23]) := H
   first | refine l_end ?_ | refine l_nil ?_
   repeat refine c_seq ?_
   refine c_region ?_; refine l_op (o_val (r_slA (h := 32) (m := 32) (lv := none) (hv := none) (mv := none) rfl ar23 rfl rfl rfl (fun w => sbn w)) ?_); refine l_op (o_val r_as ?_); first | refine l_end ?_ | refine l_nil ?_
   repeat refine c_seq ?_
   refine c_region ?_; refine l_op (o_val r_as ?_); refine l_op (o_val r_as ?_); first | refine l_end ?_ | refine l_nil ?_
   repeat refine c_seq ?_
   refine c_region ?_; refine l_op (o_val r_as ?_); first | refine l_end ?_ | refine l_nil ?_
   repeat refine c_seq ?_
   refine c_block ?_; have hkl : (sha256 (s.l)).length = 32 := by first | exact sha256_len _ | exact hsl
   repeat refine c_seq ?_
   refine c_loop5 (fun (i : Nat) (a : Option Nat) (c : Nat) (a2 : Option Nat) (c2 : Nat) => [(1, u.v), (4, .pointer (some ⟨b1, 0, none⟩)), (5, (⟨some ⟨b6, 0, none⟩, 32, 32, sha256 (s.l)⟩ : Sl).v), (7, .slice (hd a) i c), (8, .slice (hd a2) i c2), (9, VI (i : Int))])
     (fun (i : Nat) (a : Option Nat) (c : Nat) (a2 : Option Nat) (c2 : Nat) w => (i ≤ 64) ∧ Hp w0 w [] ([.blk b1 ((List.replicate 32 (0 : UInt8)).map V8) 23, .own a3 s.len c4 ((s.l).map V8) 5 1, .blk b6 ((sha256 (s.l)).map V8) 23, .own a i c (((kpad (sha256 (s.l)) 54).take i).map V8) 5 1, .own a2 i c2 (((kpad (sha256 (s.l)) 92).take i).map V8) 5 1]))
     (fun (i : Nat) (a : Option Nat) (c : Nat) (a2 : Option Nat) (c2 : Nat) => 64 - i) 0 none 0 none 0 ⟨rfl, rfl, rfl, rfl, rfl, rfl, trivial⟩ ⟨Nat.zero_le _, ((H.nilEnd 5 1).nilEnd 5 1)⟩ ?_
   clear H
   rintro i a c a2 c2 τ w ⟨hi, H⟩
   repeat refine c_seq ?_
   refine c_region ?_; refine l_op (o_val r_mv ?_); refine l_op (o_val (r_bin (a := (i : Int)) (b := 64) rfl rfl (fun _ => b_lss)) ?_); first | refine l_end ?_ | refine l_nil ?_
   by_cases hc7 : (i : Int) < 64
   ·
    repeat refine c_seq ?_
    refine c_yes (by exact congrArg Value.bool (decide_eq_true hc7)) ?_; refine c_skip ?_; repeat refine c_seq ?_
    refine c_block ?_; repeat refine c_seq ?_
    refine c_region ?_; refine l_op (o_val (r_asV (c8 0 (by decide))) ?_); first | refine l_end ?_ | refine l_nil ?_
    repeat refine c_seq ?_
    refine c_region ?_; refine l_op (o_val r_mv ?_); refine l_op (o_val r_mv ?_); refine l_op (o_val (r_lens el24 rfl) ?_); refine l_op (o_val (r_bin (a := (i : Int)) (b := 32) rfl rfl (fun _ => b_lss)) ?_); first | refine l_end ?_ | refine l_nil ?_
    by_cases hc8 : (i : Int) < 32
    ·
     repeat refine c_seq ?_
     refine c_yes (by exact congrArg Value.bool (decide_eq_true hc8)) ?_; repeat refine c_seq ?_
     refine c_region ?_; refine l_op (o_val r_mv ?_); refine l_op (o_val r_mv ?_); have ah11 := ((H.slBlkA (i := 2) rfl 32 (show (sha256 (s.l)).length = 32 from sha256_len _) (by decide))).addr (by (try simp only []); omega)
     obtain ⟨ab9, ao10, ah11⟩ := ah11
     refine l_op (o_val (r_isN i rfl rfl el24 ah11 (by omega) (by (try simp only []); omega)) ?_); refine l_op (o_val (r_ldB (s := (⟨some ⟨b6, 0, none⟩, 32, 32, sha256 (s.l)⟩ : Sl)) (k := i) (H.slBlkA (i := 2) rfl 32 (show (sha256 (s.l)).length = 32 from sha256_len _) (by decide)) ah11 rfl ct5 (by (try simp only []); omega)) ?_); refine l_op (o_val r_as ?_); first | refine l_end ?_ | refine l_nil ?_
     repeat refine c_seq ?_
     refine c_region ?_; refine l_op (o_val r_mv ?_); refine l_op (o_val r_mv ?_); refine l_op (o_val (r_bin rfl (c8 54 (by decide)) (fun _ => b_xor_u8)) ?_); refine l_op (o_bslB ([((sha256 (s.l)).getD i 0) ^^^ (54 : UInt8)]) H sl24 zc5 rfl rfl (by decide) (fun b12 w H hb12 => ?_)); replace H : Hp _ w _ ([_, _, _, _, _, .own (some b12) 1 1 (([((sha256 (s.l)).getD i 0) ^^^ (54 : UInt8)]).map V8) 5 1]) := H
     refine l_op (o_appB (s := ⟨hd (some b12), 1, 1, [((sha256 (s.l)).getD i 0) ^^^ (54 : UInt8)]⟩) (l' := (kpad (sha256 (s.l)) 54).take (i + 1)) (len' := i + 1) (kpad_step _ _ _ _ (by omega) (by omega) rfl) rfl H (i := 3) rfl sl24 Tryz.underlying24 rfl rfl (H.slOwn (i := 5) rfl) (by omega) (fun a13 c14 w H => ?_)); replace H : Hp _ w _ ([_, _, _, .own a13 (i + 1) c14 (((kpad (sha256 (s.l)) 54).take (i + 1)).map V8) 5 1, _, _]) := H
     refine l_op (o_val r_mv ?_); refine l_op (o_val r_mv ?_); refine l_op (o_val (r_bin rfl (c8 92 (by decide)) (fun _ => b_xor_u8)) ?_); refine l_op (o_bslB ([((sha256 (s.l)).getD i 0) ^^^ (92 : UInt8)]) H sl24 zc5 rfl rfl (by decide) (fun b15 w H hb15 => ?_)); replace H : Hp _ w _ ([_, _, _, _, _, _, .own (some b15) 1 1 (([((sha256 (s.l)).getD i 0) ^^^ (92 : UInt8)]).map V8) 5 1]) := H
     refine l_op (o_appB (s := ⟨hd (some b15), 1, 1, [((sha256 (s.l)).getD i 0) ^^^ (92 : UInt8)]⟩) (l' := (kpad (sha256 (s.l)) 92).take (i + 1)) (len' := i + 1) (kpad_step _ _ _ _ (by omega) (by omega) rfl) rfl H (i := 4) rfl sl24 Tryz.underlying24 rfl rfl (H.slOwn (i := 6) rfl) (by omega) (fun a16 c17 w H => ?_)); replace H : Hp _ w _ ([_, _, _, _, .own a16 (i + 1) c17 (((kpad (sha256 (s.l)) 92).take (i + 1)).map V8) 5 1, _, _]) := H
     refine l_op (o_val r_as ?_); refine l_op (o_val r_as ?_); first | refine l_end ?_ | refine l_nil ?_
     repeat refine c_seq ?_
     refine c_region ?_; refine l_op (o_val r_mv ?_); refine l_op (o_val (r_bin (a := (i : Int)) (b := 1) rfl rfl (fun _ => b_add (by omega) (by omega))) ?_); refine l_op (o_val r_as ?_); first | refine l_end ?_ | refine l_nil ?_
     refine round_end (i + 1, a13, c14, a16, c17) ?_ ?_ ?_
     · exact ⟨rfl, rfl, rfl, rfl, rfl, show VI ((i : Int) + 1) = VI ((i + 1 : Nat) : Int) from congrArg VI (by omega), trivial⟩
     · refine ⟨?_, ?_⟩
       · try dsimp only
         exact by omega
       · exact H.sub (.cons_cons _ (.cons_cons _ (.cons_cons _ (.cons_cons _ (.cons_cons _ (List.nil_sublist _))))))
     · show 64 - (i + 1 : Nat) < 64 - i; omega
    ·
     repeat refine c_seq ?_
     refine c_no (by exact congrArg Value.bool (decide_eq_false hc8)) ?_; refine c_skip ?_; repeat refine c_seq ?_
     refine c_region ?_; refine l_op (o_val r_mv ?_); refine l_op (o_val r_mv ?_); refine l_op (o_val (r_bin rfl (c8 54 (by decide)) (fun _ => b_xor_u8)) ?_); refine l_op (o_bslB ([(0 : UInt8) ^^^ (54 : UInt8)]) H sl24 zc5 rfl rfl (by decide) (fun b18 w H hb18 => ?_)); replace H : Hp _ w _ ([_, _, _, _, _, .own (some b18) 1 1 (([(0 : UInt8) ^^^ (54 : UInt8)]).map V8) 5 1]) := H
     refine l_op (o_appB (s := ⟨hd (some b18), 1, 1, [(0 : UInt8) ^^^ (54 : UInt8)]⟩) (l' := (kpad (sha256 (s.l)) 54).take (i + 1)) (len' := i + 1) (kpad_step _ _ _ _ (by omega) (by omega) (getD_none _ _ (by omega))) rfl H (i := 3) rfl sl24 Tryz.underlying24 rfl rfl (H.slOwn (i := 5) rfl) (by omega) (fun a19 c20 w H => ?_)); replace H : Hp _ w _ ([_, _, _, .own a19 (i + 1) c20 (((kpad (sha256 (s.l)) 54).take (i + 1)).map V8) 5 1, _, _]) := H
     refine l_op (o_val r_mv ?_); refine l_op (o_val r_mv ?_); refine l_op (o_val (r_bin rfl (c8 92 (by decide)) (fun _ => b_xor_u8)) ?_); refine l_op (o_bslB ([(0 : UInt8) ^^^ (92 : UInt8)]) H sl24 zc5 rfl rfl (by decide) (fun b21 w H hb21 => ?_)); replace H : Hp _ w _ ([_, _, _, _, _, _, .own (some b21) 1 1 (([(0 : UInt8) ^^^ (92 : UInt8)]).map V8) 5 1]) := H
     refine l_op (o_appB (s := ⟨hd (some b21), 1, 1, [(0 : UInt8) ^^^ (92 : UInt8)]⟩) (l' := (kpad (sha256 (s.l)) 92).take (i + 1)) (len' := i + 1) (kpad_step _ _ _ _ (by omega) (by omega) (getD_none _ _ (by omega))) rfl H (i := 4) rfl sl24 Tryz.underlying24 rfl rfl (H.slOwn (i := 6) rfl) (by omega) (fun a22 c23 w H => ?_)); replace H : Hp _ w _ ([_, _, _, _, .own a22 (i + 1) c23 (((kpad (sha256 (s.l)) 92).take (i + 1)).map V8) 5 1, _, _]) := H
     refine l_op (o_val r_as ?_); refine l_op (o_val r_as ?_); first | refine l_end ?_ | refine l_nil ?_
     repeat refine c_seq ?_
     refine c_region ?_; refine l_op (o_val r_mv ?_); refine l_op (o_val (r_bin (a := (i : Int)) (b := 1) rfl rfl (fun _ => b_add (by omega) (by omega))) ?_); refine l_op (o_val r_as ?_); first | refine l_end ?_ | refine l_nil ?_
     refine round_end (i + 1, a19, c20, a22, c23) ?_ ?_ ?_
     · exact ⟨rfl, rfl, rfl, rfl, rfl, show VI ((i : Int) + 1) = VI ((i + 1 : Nat) : Int) from congrArg VI (by omega), trivial⟩
     · refine ⟨?_, ?_⟩
       · try dsimp only
         exact by omega
       · exact H.sub (.cons_cons _ (.cons_cons _ (.cons_cons _ (.cons_cons _ (.cons_cons _ (List.nil_sublist _))))))
     · show 64 - (i + 1 : Nat) < 64 - i; omega
   ·
    repeat refine c_seq ?_
    refine c_no (by exact congrArg Value.bool (decide_eq_false hc7)) ?_; refine c_exit ?_; have hi2 : i = 64 := by omega
    subst hi2
    rw [kpad_all _ _ (by omega), kpad_all _ _ (by omega)] at H
    replace H : Hp _ w _ ([_, _, _, .own a 64 c ((kpad (sha256 (s.l)) 54).map V8) 5 1, .own a2 64 c2 ((kpad (sha256 (s.l)) 92).map V8) 5 1]) := H
    repeat refine c_seq ?_
    refine c_region ?_; refine l_op (o_val r_mv ?_); refine l_op (o_val r_mv ?_); refine l_op (o_appB (s := u) (l' := kpad (sha256 (s.l)) 54 ++ u.l) (len' := 64 + u.len) rfl rfl H (i := 3) rfl sl24 Tryz.underlying24 rfl rfl (hu.up H (fun _ => apart_nil _)) (by omega) (fun a24 c25 w H => ?_)); replace H : Hp _ w _ ([_, _, _, .own a24 (64 + u.len) c25 ((kpad (sha256 (s.l)) 54 ++ u.l).map V8) 5 1, _]) := H
    refine l_op (o_callR Tryz.func70 rfl rfl rfl (sum2_ret _ ⟨hd a24, 64 + u.len, c25, kpad (sha256 (s.l)) 54 ++ u.l⟩ (H.slOwn (i := 3) rfl) (by (try dsimp only); omega)) ?_); rintro _ w ⟨rfl, Hc⟩
    replace H : Hp _ w _ ([_, _, _, _, _]) := H.call Hc
    clear Hc
    refine l_op (o_alloc H zc23 (fun b26 w H hb26 => ?_)); replace H : Hp _ w _ ([_, _, _, _, _, .blk b26 ((List.replicate 32 (0 : UInt8)).map V8) 23]) := H
    refine l_op (o_stA (l' := sha256 (kpad (sha256 (s.l)) 54 ++ u.l)) H (i := 5) rfl rfl rfl cs23 (show (List.replicate 32 (0 : UInt8)).length = 32 from (List.length_replicate ..)) (show (sha256 (kpad (sha256 (s.l)) 54 ++ u.l)).length = 32 from sha256_len _) (fun w H => ?_)); replace H : Hp _ w _ ([_, _, _, _, _, .blk b26 ((sha256 (kpad (sha256 (s.l)) 54 ++ u.l)).map V8) 23]) := H
    first | refine l_end ?_ | refine l_nil ?_
    repeat refine c_seq ?_
    refine c_region ?_; refine l_op (o_val r_mv ?_); refine l_op (o_val (r_slA (h := 32) (m := 32) (lv := none) (hv := none) (mv := none) rfl ar23 rfl rfl rfl (fun w => sbn w)) ?_); refine l_op (o_appB (s := (⟨some ⟨b26, 0, none⟩, 32, 32, sha256 (kpad (sha256 (s.l)) 54 ++ u.l)⟩ : Sl)) (l' := kpad (sha256 (s.l)) 92 ++ (sha256 (kpad (sha256 (s.l)) 54 ++ u.l))) (len' := 96) rfl rfl H (i := 4) rfl sl24 Tryz.underlying24 rfl rfl (H.slBlkA (i := 5) rfl 32 (show (sha256 (kpad (sha256 (s.l)) 54 ++ u.l)).length = 32 from sha256_len _) (by decide)) (by omega) (fun a27 c28 w H => ?_)); replace H : Hp _ w _ ([_, _, _, _, .own a27 96 c28 ((kpad (sha256 (s.l)) 92 ++ (sha256 (kpad (sha256 (s.l)) 54 ++ u.l))).map V8) 5 1, _]) := H
    refine l_op (o_callR Tryz.func70 rfl rfl rfl (sum2_ret _ ⟨hd a27, 96, c28, kpad (sha256 (s.l)) 92 ++ (sha256 (kpad (sha256 (s.l)) 54 ++ u.l))⟩ (H.slOwn (i := 4) rfl) (by (try dsimp only); omega)) ?_); rintro _ w ⟨rfl, Hc⟩
    replace H : Hp _ w _ ([_, _, _, _, _, _]) := H.call Hc
    clear Hc
    refine l_op (o_stA (l' := sha256 (kpad (sha256 (s.l)) 92 ++ (sha256 (kpad (sha256 (s.l)) 54 ++ u.l)))) H (i := 0) rfl rfl rfl cs23 (show (List.replicate 32 (0 : UInt8)).length = 32 from (List.length_replicate ..)) (show (sha256 (kpad (sha256 (s.l)) 92 ++ (sha256 (kpad (sha256 (s.l)) 54 ++ u.l)))).length = 32 from sha256_len _) (fun w H => ?_)); replace H : Hp _ w _ ([.blk b1 ((sha256 (kpad (sha256 (s.l)) 92 ++ (sha256 (kpad (sha256 (s.l)) 54 ++ u.l)))).map V8) 23, _, _, _, _, _]) := H
    first | refine l_end ?_ | refine l_nil ?_
    refine c_ret ?_; try dsimp only [Exit.then, Exit.inBlock]
    refine e_retA (l := sha256 (kpad (sha256 (s.l)) 92 ++ (sha256 (kpad (sha256 (s.l)) 54 ++ u.l)))) Tryz.results26 H (i := 0) rfl rfl rt23 (show (sha256 (kpad (sha256 (s.l)) 92 ++ (sha256 (kpad (sha256 (s.l)) 54 ++ u.l)))).length = 32 from sha256_len _) ?_
    refine ⟨_, rfl, ?_⟩
    refine ⟨?_, H.sub (List.nil_sublist _)⟩
    rw [hmac, hkey, if_pos (by omega)]
  ·
   repeat refine c_seq ?_
   refine c_no (by exact congrArg Value.bool (decide_eq_false hc5)) ?_; refine c_skip ?_; repeat refine c_seq ?_
   refine c_region ?_; refine l_op (o_val r_as ?_); refine l_op (o_val r_as ?_); first | refine l_end ?_ | refine l_nil ?_
   repeat refine c_seq ?_
   refine c_region ?_; refine l_op (o_val r_as ?_); first | refine l_end ?_ | refine l_nil ?_
   repeat refine c_seq ?_
   refine c_block ?_; have hkl : (s.l).length = s.len := by first | exact sha256_len _ | exact hsl
   repeat refine c_seq ?_
   refine c_loop5 (fun (i : Nat) (a : Option Nat) (c : Nat) (a2 : Option Nat) (c2 : Nat) => [(1, u.v), (4, .pointer (some ⟨b1, 0, none⟩)), (5, .slice (hd a3) s.len c4), (7, .slice (hd a) i c), (8, .slice (hd a2) i c2), (9, VI (i : Int))])
     (fun (i : Nat) (a : Option Nat) (c : Nat) (a2 : Option Nat) (c2 : Nat) w => (i ≤ 64) ∧ Hp w0 w [] ([.blk b1 ((List.replicate 32 (0 : UInt8)).map V8) 23, .own a3 s.len c4 ((s.l).map V8) 5 1, .own a i c (((kpad (s.l) 54).take i).map V8) 5 1, .own a2 i c2 (((kpad (s.l) 92).take i).map V8) 5 1]))
     (fun (i : Nat) (a : Option Nat) (c : Nat) (a2 : Option Nat) (c2 : Nat) => 64 - i) 0 none 0 none 0 ⟨rfl, rfl, rfl, rfl, rfl, rfl, trivial⟩ ⟨Nat.zero_le _, ((H.nilEnd 5 1).nilEnd 5 1)⟩ ?_
   clear H
   rintro i a c a2 c2 τ w ⟨hi, H⟩
   repeat refine c_seq ?_
   refine c_region ?_; refine l_op (o_val r_mv ?_); refine l_op (o_val (r_bin (a := (i : Int)) (b := 64) rfl rfl (fun _ => b_lss)) ?_); first | refine l_end ?_ | refine l_nil ?_
   by_cases hc29 : (i : Int) < 64
   ·
    repeat refine c_seq ?_
    refine c_yes (by exact congrArg Value.bool (decide_eq_true hc29)) ?_; refine c_skip ?_; repeat refine c_seq ?_
    refine c_block ?_; repeat refine c_seq ?_
    refine c_region ?_; refine l_op (o_val (r_asV (c8 0 (by decide))) ?_); first | refine l_end ?_ | refine l_nil ?_
    repeat refine c_seq ?_
    refine c_region ?_; refine l_op (o_val r_mv ?_); refine l_op (o_val r_mv ?_); refine l_op (o_val (r_lens el24 rfl) ?_); refine l_op (o_val (r_bin (a := (i : Int)) (b := (s.len : Int)) rfl rfl (fun _ => b_lss)) ?_); first | refine l_end ?_ | refine l_nil ?_
    by_cases hc30 : (i : Int) < (s.len : Int)
    ·
     repeat refine c_seq ?_
     refine c_yes (by exact congrArg Value.bool (decide_eq_true hc30)) ?_; repeat refine c_seq ?_
     refine c_region ?_; refine l_op (o_val r_mv ?_); refine l_op (o_val r_mv ?_); have ah32 := H.ownAddr (i := 1) rfl (by omega)
     obtain ⟨ab31, ah32⟩ := ah32
     refine l_op (o_val (r_isN i rfl rfl el24 ah32 (by omega) (by (try simp only [Sl.cut]); omega)) ?_); refine l_op (o_val (r_ldB (s := ⟨hd a3, s.len, c4, s.l⟩) (k := i) (H.slOwn (i := 1) rfl) ah32 rfl ct5 (by (try simp only []); omega)) ?_); refine l_op (o_val r_as ?_); first | refine l_end ?_ | refine l_nil ?_
     repeat refine c_seq ?_
     refine c_region ?_; refine l_op (o_val r_mv ?_); refine l_op (o_val r_mv ?_); refine l_op (o_val (r_bin rfl (c8 54 (by decide)) (fun _ => b_xor_u8)) ?_); refine l_op (o_bslB ([((s.l).getD i 0) ^^^ (54 : UInt8)]) H sl24 zc5 rfl rfl (by decide) (fun b33 w H hb33 => ?_)); replace H : Hp _ w _ ([_, _, _, _, .own (some b33) 1 1 (([((s.l).getD i 0) ^^^ (54 : UInt8)]).map V8) 5 1]) := H
     refine l_op (o_appB (s := ⟨hd (some b33), 1, 1, [((s.l).getD i 0) ^^^ (54 : UInt8)]⟩) (l' := (kpad (s.l) 54).take (i + 1)) (len' := i + 1) (kpad_step _ _ _ _ (by omega) (by omega) rfl) rfl H (i := 2) rfl sl24 Tryz.underlying24 rfl rfl (H.slOwn (i := 4) rfl) (by omega) (fun a34 c35 w H => ?_)); replace H : Hp _ w _ ([_, _, .own a34 (i + 1) c35 (((kpad (s.l) 54).take (i + 1)).map V8) 5 1, _, _]) := H
     refine l_op (o_val r_mv ?_); refine l_op (o_val r_mv ?_); refine l_op (o_val (r_bin rfl (c8 92 (by decide)) (fun _ => b_xor_u8)) ?_); refine l_op (o_bslB ([((s.l).getD i 0) ^^^ (92 : UInt8)]) H sl24 zc5 rfl rfl (by decide) (fun b36 w H hb36 => ?_)); replace H : Hp _ w _ ([_, _, _, _, _, .own (some b36) 1 1 (([((s.l).getD i 0) ^^^ (92 : UInt8)]).map V8) 5 1]) := H
     refine l_op (o_appB (s := ⟨hd (some b36), 1, 1, [((s.l).getD i 0) ^^^ (92 : UInt8)]⟩) (l' := (kpad (s.l) 92).take (i + 1)) (len' := i + 1) (kpad_step _ _ _ _ (by omega) (by omega) rfl) rfl H (i := 3) rfl sl24 Tryz.underlying24 rfl rfl (H.slOwn (i := 5) rfl) (by omega) (fun a37 c38 w H => ?_)); replace H : Hp _ w _ ([_, _, _, .own a37 (i + 1) c38 (((kpad (s.l) 92).take (i + 1)).map V8) 5 1, _, _]) := H
     refine l_op (o_val r_as ?_); refine l_op (o_val r_as ?_); first | refine l_end ?_ | refine l_nil ?_
     repeat refine c_seq ?_
     refine c_region ?_; refine l_op (o_val r_mv ?_); refine l_op (o_val (r_bin (a := (i : Int)) (b := 1) rfl rfl (fun _ => b_add (by omega) (by omega))) ?_); refine l_op (o_val r_as ?_); first | refine l_end ?_ | refine l_nil ?_
     refine round_end (i + 1, a34, c35, a37, c38) ?_ ?_ ?_
     · exact ⟨rfl, rfl, rfl, rfl, rfl, show VI ((i : Int) + 1) = VI ((i + 1 : Nat) : Int) from congrArg VI (by omega), trivial⟩
     · refine ⟨?_, ?_⟩
       · try dsimp only
         exact by omega
       · exact H.sub (.cons_cons _ (.cons_cons _ (.cons_cons _ (.cons_cons _ (List.nil_sublist _)))))
     · show 64 - (i + 1 : Nat) < 64 - i; omega
    ·
     repeat refine c_seq ?_
     refine c_no (by exact congrArg Value.bool (decide_eq_false hc30)) ?_; refine c_skip ?_; repeat refine c_seq ?_
     refine c_region ?_; refine l_op (o_val r_mv ?_); refine l_op (o_val r_mv ?_); refine l_op (o_val (r_bin rfl (c8 54 (by decide)) (fun _ => b_xor_u8)) ?_); refine l_op (o_bslB ([(0 : UInt8) ^^^ (54 : UInt8)]) H sl24 zc5 rfl rfl (by decide) (fun b39 w H hb39 => ?_)); replace H : Hp _ w _ ([_, _, _, _, .own (some b39) 1 1 (([(0 : UInt8) ^^^ (54 : UInt8)]).map V8) 5 1]) := H
     refine l_op (o_appB (s := ⟨hd (some b39), 1, 1, [(0 : UInt8) ^^^ (54 : UInt8)]⟩) (l' := (kpad (s.l) 54).take (i + 1)) (len' := i + 1) (kpad_step _ _ _ _ (by omega) (by omega) (getD_none _ _ (by omega))) rfl H (i := 2) rfl sl24 Tryz.underlying24 rfl rfl (H.slOwn (i := 4) rfl) (by omega) (fun a40 c41 w H => ?_)); replace H : Hp _ w _ ([_, _, .own a40 (i + 1) c41 (((kpad (s.l) 54).take (i + 1)).map V8) 5 1, _, _]) := H
     refine l_op (o_val r_mv ?_); refine l_op (o_val r_mv ?_); refine l_op (o_val (r_bin rfl (c8 92 (by decide)) (fun _ => b_xor_u8)) ?_); refine l_op (o_bslB ([(0 : UInt8) ^^^ (92 : UInt8)]) H sl24 zc5 rfl rfl (by decide) (fun b42 w H hb42 => ?_)); replace H : Hp _ w _ ([_, _, _, _, _, .own (some b42) 1 1 (([(0 : UInt8) ^^^ (92 : UInt8)]).map V8) 5 1]) := H
     refine l_op (o_appB (s := ⟨hd (some b42), 1, 1, [(0 : UInt8) ^^^ (92 : UInt8)]⟩) (l' := (kpad (s.l) 92).take (i + 1)) (len' := i + 1) (kpad_step _ _ _ _ (by omega) (by omega) (getD_none _ _ (by omega))) rfl H (i := 3) rfl sl24 Tryz.underlying24 rfl rfl (H.slOwn (i := 5) rfl) (by omega) (fun a43 c44 w H => ?_)); replace H : Hp _ w _ ([_, _, _, .own a43 (i + 1) c44 (((kpad (s.l) 92).take (i + 1)).map V8) 5 1, _, _]) := H
     refine l_op (o_val r_as ?_); refine l_op (o_val r_as ?_); first | refine l_end ?_ | refine l_nil ?_
     repeat refine c_seq ?_
     refine c_region ?_; refine l_op (o_val r_mv ?_); refine l_op (o_val (r_bin (a := (i : Int)) (b := 1) rfl rfl (fun _ => b_add (by omega) (by omega))) ?_); refine l_op (o_val r_as ?_); first | refine l_end ?_ | refine l_nil ?_
     refine round_end (i + 1, a40, c41, a43, c44) ?_ ?_ ?_
     · exact ⟨rfl, rfl, rfl, rfl, rfl, show VI ((i : Int) + 1) = VI ((i + 1 : Nat) : Int) from congrArg VI (by omega), trivial⟩
     · refine ⟨?_, ?_⟩
       · try dsimp only
         exact by omega
       · exact H.sub (.cons_cons _ (.cons_cons _ (.cons_cons _ (.cons_cons _ (List.nil_sublist _)))))
     · show 64 - (i + 1 : Nat) < 64 - i; omega
   ·
    repeat refine c_seq ?_
    refine c_no (by exact congrArg Value.bool (decide_eq_false hc29)) ?_; refine c_exit ?_; have hi2 : i = 64 := by omega
    subst hi2
    rw [kpad_all _ _ (by omega), kpad_all _ _ (by omega)] at H
    replace H : Hp _ w _ ([_, _, .own a 64 c ((kpad (s.l) 54).map V8) 5 1, .own a2 64 c2 ((kpad (s.l) 92).map V8) 5 1]) := H
    repeat refine c_seq ?_
    refine c_region ?_; refine l_op (o_val r_mv ?_); refine l_op (o_val r_mv ?_); refine l_op (o_appB (s := u) (l' := kpad (s.l) 54 ++ u.l) (len' := 64 + u.len) rfl rfl H (i := 2) rfl sl24 Tryz.underlying24 rfl rfl (hu.up H (fun _ => apart_nil _)) (by omega) (fun a45 c46 w H => ?_)); replace H : Hp _ w _ ([_, _, .own a45 (64 + u.len) c46 ((kpad (s.l) 54 ++ u.l).map V8) 5 1, _]) := H
    refine l_op (o_callR Tryz.func70 rfl rfl rfl (sum2_ret _ ⟨hd a45, 64 + u.len, c46, kpad (s.l) 54 ++ u.l⟩ (H.slOwn (i := 2) rfl) (by (try dsimp only); omega)) ?_); rintro _ w ⟨rfl, Hc⟩
    replace H : Hp _ w _ ([_, _, _, _]) := H.call Hc
    clear Hc
    refine l_op (o_alloc H zc23 (fun b47 w H hb47 => ?_)); replace H : Hp _ w _ ([_, _, _, _, .blk b47 ((List.replicate 32 (0 : UInt8)).map V8) 23]) := H
    refine l_op (o_stA (l' := sha256 (kpad (s.l) 54 ++ u.l)) H (i := 4) rfl rfl rfl cs23 (show (List.replicate 32 (0 : UInt8)).length = 32 from (List.length_replicate ..)) (show (sha256 (kpad (s.l) 54 ++ u.l)).length = 32 from sha256_len _) (fun w H => ?_)); replace H : Hp _ w _ ([_, _, _, _, .blk b47 ((sha256 (kpad (s.l) 54 ++ u.l)).map V8) 23]) := H
    first | refine l_end ?_ | refine l_nil ?_
    repeat refine c_seq ?_
    refine c_region ?_; refine l_op (o_val r_mv ?_); refine l_op (o_val (r_slA (h := 32) (m := 32) (lv := none) (hv := none) (mv := none) rfl ar23 rfl rfl rfl (fun w => sbn w)) ?_); refine l_op (o_appB (s := (⟨some ⟨b47, 0, none⟩, 32, 32, sha256 (kpad (s.l) 54 ++ u.l)⟩ : Sl)) (l' := kpad (s.l) 92 ++ (sha256 (kpad (s.l) 54 ++ u.l))) (len' := 96) rfl rfl H (i := 3) rfl sl24 Tryz.underlying24 rfl rfl (H.slBlkA (i := 4) rfl 32 (show (sha256 (kpad (s.l) 54 ++ u.l)).length = 32 from sha256_len _) (by decide)) (by omega) (fun a48 c49 w H => ?_)); replace H : Hp _ w _ ([_, _, _, .own a48 96 c49 ((kpad (s.l) 92 ++ (sha256 (kpad (s.l) 54 ++ u.l))).map V8) 5 1, _]) := H
    refine l_op (o_callR Tryz.func70 rfl rfl rfl (sum2_ret _ ⟨hd a48, 96, c49, kpad (s.l) 92 ++ (sha256 (kpad (s.l) 54 ++ u.l))⟩ (H.slOwn (i := 3) rfl) (by (try dsimp only); omega)) ?_); rintro _ w ⟨rfl, Hc⟩
    replace H : Hp _ w _ ([_, _, _, _, _]) := H.call Hc
    clear Hc
    refine l_op (o_stA (l' := sha256 (kpad (s.l) 92 ++ (sha256 (kpad (s.l) 54 ++ u.l)))) H (i := 0) rfl rfl rfl cs23 (show (List.replicate 32 (0 : UInt8)).length = 32 from (List.length_replicate ..)) (show (sha256 (kpad (s.l) 92 ++ (sha256 (kpad (s.l) 54 ++ u.l)))).length = 32 from sha256_len _) (fun w H => ?_)); replace H : Hp _ w _ ([.blk b1 ((sha256 (kpad (s.l) 92 ++ (sha256 (kpad (s.l) 54 ++ u.l)))).map V8) 23, _, _, _, _]) := H
    first | refine l_end ?_ | refine l_nil ?_
    refine c_ret ?_; try dsimp only [Exit.then, Exit.inBlock]
    refine e_retA (l := sha256 (kpad (s.l) 92 ++ (sha256 (kpad (s.l) 54 ++ u.l)))) Tryz.results26 H (i := 0) rfl rfl rt23 (show (sha256 (kpad (s.l) 92 ++ (sha256 (kpad (s.l) 54 ++ u.l)))).length = 32 from sha256_len _) ?_
    refine ⟨_, rfl, ?_⟩
    refine ⟨?_, H.sub (List.nil_sublist _)⟩
    rw [hmac, hkey, if_neg (by omega)]
theorem of3_ret (w0 : World) (s : Sl) (hs : s.ok w0) (pa : Option Addr) (pl pc : Nat) (ps : List Sl) (hr : RdS w0 pa (ps.map Sl.v)) (hl : ps.length = pl) (hok : ∀ p ∈ ps, p.ok w0) (h1 : s.len ≤ 1000000) (hp63 : pl ≤ 1048576) (hB : (framed (ps.map Sl.l)).length ≤ 1000000) :
    Ret Tryz.prog 12 [s.v, .slice pa pl pc] w0 fun v w' => v = .agg ((hmac s.l (framed (ps.map Sl.l))).map V8).toArray ∧ Hp w0 w' [] [] := by
  refine ret_mk Tryz.func12 rfl Tryz.ntmps12 (by simp) ?_
  have H := Hp.refl w0 []
  repeat refine c_seq ?_
  refine c_region ?_; refine l_op (o_alloc H zc23 (fun b1 w H hb1 => ?_)); replace H : Hp _ w _ ([.blk b1 ((List.replicate 32 (0 : UInt8)).map V8) 23]) := H
  first | refine l_end ?_ | refine l_nil ?_
  repeat refine c_seq ?_
  refine c_region ?_; refine l_op (o_val r_as ?_); first | refine l_end ?_ | refine l_nil ?_
  repeat refine c_seq ?_
  refine c_region ?_; refine l_op (o_val r_as ?_); first | refine l_end ?_ | refine l_nil ?_
  repeat refine c_seq ?_
  refine c_block ?_; repeat refine c_seq ?_
  refine c_loop3 (fun (i : Nat) (a : Option Nat) (c : Nat) => [(0, s.v), (1, .slice pa pl pc), (4, .pointer (some ⟨b1, 0, none⟩)), (5, .slice (hd a) ((fr ps i).length) c), (6, VI (i : Int))])
    (fun (i : Nat) (a : Option Nat) (c : Nat) w => (i ≤ pl) ∧ Hp w0 w [] ([.blk b1 ((List.replicate 32 (0 : UInt8)).map V8) 23, .own a ((fr ps i).length) c ((fr ps i).map V8) 5 1]))
    (fun (i : Nat) (a : Option Nat) (c : Nat) => pl - i) 0 none 0 ⟨rfl, rfl, rfl, rfl, rfl, trivial⟩ ⟨Nat.zero_le _, (H.nilEnd 5 1)⟩ ?_
  clear H
  rintro i a c τ w ⟨hi, H⟩
  repeat refine c_seq ?_
  refine c_region ?_; refine l_op (o_val r_mv ?_); refine l_op (o_val r_mv ?_); refine l_op (o_val (r_lens el58 rfl) ?_); refine l_op (o_val (r_bin (a := (i : Int)) (b := (pl : Int)) rfl rfl (fun _ => b_lss)) ?_); first | refine l_end ?_ | refine l_nil ?_
  by_cases hc2 : (i : Int) < (pl : Int)
  ·
   repeat refine c_seq ?_
   refine c_yes (by exact congrArg Value.bool (decide_eq_true hc2)) ?_; refine c_skip ?_; repeat refine c_seq ?_
   refine c_block ?_; repeat refine c_seq ?_
   refine wp_held (fun w => Hp w0 w [] [.blk b1 ((List.replicate 32 (0 : UInt8)).map V8) 23]) mixed ?_; replace H := H.drew
   have HS := H.sub (.cons_cons _ (List.nil_sublist _))
   refine t_take 0 rfl (by kernel_rfl) (by kernel_rfl) (by kernel_rfl) (fun _ _ _ h => h) (fun w HS => r_mv) HS ?_; refine t_take 1 rfl (by kernel_rfl) (by kernel_rfl) (by kernel_rfl) (fun _ _ _ h => h) (fun w HS => r_mv) HS ?_; refine t_take 2 rfl (by kernel_rfl) (by kernel_rfl) (by kernel_rfl) (fun _ _ _ h => h) (fun w HS => r_mv) HS ?_; obtain ⟨ab3, ao4, ah5⟩ := (HS.rd hr (apart_nil _)).addr (by simp only [List.length_map]; omega)
   refine t_take 3 rfl (by kernel_rfl) (by kernel_rfl) (by kernel_rfl) (fun _ _ _ h => h) (fun w HS => r_isN i rfl rfl el58 ah5 (by omega) (by (try simp only [Sl.cut]); omega)) HS ?_; obtain ⟨p6, hp7⟩ : ∃ p, ps[i]? = some p := ⟨_, List.getElem?_eq_getElem (by omega)⟩
   have hpok8 := hok p6 (List.mem_of_getElem? hp7)
   have hpok8n := hpok8.ln
   have hpok8m := hpok8.le
   refine t_take 4 rfl (by kernel_rfl) (by kernel_rfl) (by kernel_rfl) (fun _ _ _ h => h) (fun w HS => r_ldP (k := i) (HS.rd hr (apart_nil _)) ah5 rfl ct24 hp7) HS ?_; refine t_take 5 rfl (by kernel_rfl) (by kernel_rfl) (by kernel_rfl) (fun _ _ _ h => h) (fun w HS => r_lens el24 rfl) HS ?_; refine t_take 6 rfl (by kernel_rfl) (by kernel_rfl) (by kernel_rfl) (fun _ _ _ h => h) (fun w HS => r_conv (v := ((UInt64.ofNat p6.len).toNat : Int)) Tryz.underlying3 Tryz.underlying33 rfl (w_u64_N p6.len (by omega))) HS ?_; refine t_take 9 rfl (by kernel_rfl) (by kernel_rfl) (by kernel_rfl) (fun _ _ _ h => h) (fun w HS => r_mv) HS ?_; refine t_take 10 rfl (by kernel_rfl) (by kernel_rfl) (by kernel_rfl) (fun _ _ _ h => h) (fun w HS => r_mv) HS ?_; refine t_take 11 rfl (by kernel_rfl) (by kernel_rfl) (by kernel_rfl) (fun _ _ _ h => h) (fun w HS => r_isN i rfl rfl el58 ah5 (by omega) (by (try simp only [Sl.cut]); omega)) HS ?_; refine t_take 12 rfl (by kernel_rfl) (by kernel_rfl) (by kernel_rfl) (fun _ _ _ h => h) (fun w HS => r_ldP (k := i) (HS.rd hr (apart_nil _)) ah5 rfl ct24 hp7) HS ?_; refine t_step 7 rfl (by kernel_rfl) (o_callR Tryz.func25 rfl rfl rfl (eight_ret _ (UInt64.ofNat p6.len)) ?_); rintro _ w ⟨a9, c10, rfl, Hc⟩
   replace H : Hp _ w _ ([_, _, .own a9 8 c10 ((be (UInt64.ofNat p6.len).toNat 8).map V8) 5 1]) := H.call Hc
   clear Hc
   refine ⟨H.sub (.cons_cons _ (List.nil_sublist _)), ?_⟩
   replace HS := H.sub (.cons_cons _ (List.nil_sublist _))
   have hs1 := fr_succ ps i p6 hp7
   have hs2 := fr_le ps (i + 1)
   have hs3 : (fr ps (i + 1)).length = (fr ps i).length + 8 + p6.l.length := by rw [hs1]; simp [be_len]; omega
   refine t_step 8 rfl (by kernel_rfl) (o_appB (s := ⟨hd a9, 8, c10, be (UInt64.ofNat p6.len).toNat 8⟩) (l' := fr ps i ++ (be (UInt64.ofNat p6.len).toNat 8)) (len' := (fr ps i).length + 8) rfl rfl H (i := 1) rfl sl24 Tryz.underlying24 rfl rfl (H.slOwn (i := 2) rfl) (by omega) (fun a11 c12 w H => ?_)); replace H : Hp _ w _ ([_, .own a11 ((fr ps i).length + 8) c12 ((fr ps i ++ (be (UInt64.ofNat p6.len).toNat 8)).map V8) 5 1, _]) := H
   refine ⟨H.sub (.cons_cons _ (List.nil_sublist _)), ?_⟩
   replace HS := H.sub (.cons_cons _ (List.nil_sublist _))
   refine t_step 13 rfl (by kernel_rfl) (o_appB (s := p6) (l' := fr ps (i + 1)) (len' := (fr ps (i + 1)).length) (by rw [hs1, ofNat_nat _ (by omega), hpok8n]) (by omega) H (i := 1) rfl sl24 Tryz.underlying24 rfl rfl (hpok8.up H (fun _ => apart_nil _)) (by omega) (fun a13 c14 w H => ?_)); replace H : Hp _ w _ ([_, .own a13 ((fr ps (i + 1)).length) c14 ((fr ps (i + 1)).map V8) 5 1, _]) := H
   refine ⟨H.sub (.cons_cons _ (List.nil_sublist _)), ?_⟩
   replace HS := H.sub (.cons_cons _ (List.nil_sublist _))
   refine t_take 14 rfl (by kernel_rfl) (by kernel_rfl) (by kernel_rfl) (fun _ _ _ h => h) (fun w HS => r_as) HS ?_; refine t_done (by kernel_rfl) ?_
   clear HS
   repeat refine c_seq ?_
   refine c_region ?_; refine l_op (o_val r_mv ?_); refine l_op (o_val (r_bin (a := (i : Int)) (b := 1) rfl rfl (fun _ => b_add (by omega) (by omega))) ?_); refine l_op (o_val r_as ?_); first | refine l_end ?_ | refine l_nil ?_
   refine round_end (i + 1, a13, c14) ?_ ?_ ?_
   · exact ⟨rfl, rfl, rfl, rfl, show VI ((i : Int) + 1) = VI ((i + 1 : Nat) : Int) from congrArg VI (by omega), trivial⟩
   · refine ⟨?_, ?_⟩
     · try dsimp only
       exact by omega
     · exact H.sub (.cons_cons _ (.cons_cons _ (List.nil_sublist _)))
   · show pl - (i + 1 : Nat) < pl - i; omega
  ·
   repeat refine c_seq ?_
   refine c_no (by exact congrArg Value.bool (decide_eq_false hc2)) ?_; refine c_exit ?_; have hi2 : i = pl := by omega
   subst hi2
   have hfl := fr_le ps i
   repeat refine c_seq ?_
   refine c_region ?_; refine l_op (o_val r_mv ?_); refine l_op (o_val r_mv ?_); refine l_op (o_callR Tryz.func26 rfl rfl rfl (raw3_ret _ s ⟨hd a, (fr ps i).length, c, fr ps i⟩ (hs.up H (fun _ => apart_nil _)) (H.slOwn (i := 1) rfl) (by (try dsimp only); omega) (by (try dsimp only); omega)) ?_); rintro _ w ⟨rfl, Hc⟩
   replace H : Hp _ w _ ([_, _]) := H.call Hc
   clear Hc
   refine l_op (o_stA (l' := hmac (s.l) (fr ps i)) H (i := 0) rfl rfl rfl cs23 (show (List.replicate 32 (0 : UInt8)).length = 32 from (List.length_replicate ..)) (show (hmac (s.l) (fr ps i)).length = 32 from hmac_len _ _) (fun w H => ?_)); replace H : Hp _ w _ ([.blk b1 ((hmac (s.l) (fr ps i)).map V8) 23, _]) := H
   first | refine l_end ?_ | refine l_nil ?_
   refine c_ret ?_; try dsimp only [Exit.then, Exit.inBlock]
   refine e_retA (l := hmac (s.l) (fr ps i)) Tryz.results12 H (i := 0) rfl rfl rt23 (show (hmac (s.l) (fr ps i)).length = 32 from hmac_len _ _) ?_
   refine ⟨_, rfl, ?_⟩
   rw [fr_all ps i hl]
   exact ⟨rfl, H.sub (List.nil_sublist _)⟩
end Go.Proofs.YtiepekfcegdkoaaGreatDoor
namespace Go.Proofs.YtiepekfcegdkoaaGreatDoor
open Go
set_option maxRecDepth 100000
/-- the number that bytes make, the highest first. -/
def ofbe (l : List UInt8) : Nat := l.foldl (fun a b => a * 256 + b.toNat) 0
theorem ofbe_snoc (l : List UInt8) (b : UInt8) : ofbe (l ++ [b]) = ofbe l * 256 + b.toNat := by simp [ofbe]
theorem ofbe_lt (l : List UInt8) : ofbe l < 256 ^ l.length := by
  suffices h : ∀ n (l : List UInt8), l.length = n → ofbe l < 256 ^ n from h _ l rfl
  intro n
  induction n with
  | zero => intro l hl; rw [List.length_eq_zero_iff.1 hl]; decide
  | succ n ih =>
    intro l hl
    obtain ⟨r, b, rfl⟩ : ∃ r b, l = r ++ [b] := by
      refine ⟨l.dropLast, l.getLast (by intro e; subst e; simp at hl), (List.dropLast_concat_getLast _).symm⟩
    have := ih r (by simpa using hl)
    have hb := u8_lt b
    rw [ofbe_snoc, Nat.pow_succ]; omega
theorem shl_or (v : UInt64) (x : UInt8) : (v <<< UInt64.ofNat 8) ||| x.toUInt64 = v * 256 + x.toUInt64 := by
  apply UInt64.toNat_inj.1
  have hx := u8_lt x
  have e8 : (UInt64.ofNat 8).toNat % 64 = 8 := rfl
  rw [UInt64.toNat_or, UInt64.toNat_add, UInt64.toNat_mul, UInt64.toNat_shiftLeft, e8, UInt8.toNat_toUInt64, Nat.shiftLeft_eq]
  have e1 : v.toNat * 2 ^ 8 % 2 ^ 64 = (v.toNat % 2 ^ 56) * 2 ^ 8 := by omega
  have e2 : (256 : UInt64).toNat = 256 := rfl
  rw [e1, ← Nat.shiftLeft_eq, ← Nat.shiftLeft_add_eq_or_of_lt (by omega), Nat.shiftLeft_eq, e2]
  omega
theorem num_step (m : Nat) (x : UInt8) : UInt64.ofNat m * 256 + x.toUInt64 = UInt64.ofNat (m * 256 + x.toNat) := by
  rw [UInt64.ofNat_add, UInt64.ofNat_mul, u8_u64]; rfl
theorem take_snoc (l : List UInt8) (i : Nat) (h : i < l.length) : l.take (i + 1) = l.take i ++ [l.getD i 0] := by
  rw [List.take_add_one, List.getD_eq_getElem?_getD]; simp [h]
def num (l : List UInt8) (at_ n : Nat) : UInt64 := UInt64.ofNat (ofbe ((l.drop at_).take n))
def nump (l : List UInt8) (at_ i : Nat) : UInt64 := UInt64.ofNat (ofbe ((l.drop at_).take i))
theorem nump_succ (l : List UInt8) (a i : Nat) (h : a + i < l.length) (x : UInt8) (hx : x = l.getD (a + i) 0) : nump l a i * 256 + x.toUInt64 = nump l a (i + 1) := by
  have e : (l.drop a).getD i 0 = x := by rw [hx, List.getD_eq_getElem?_getD, List.getD_eq_getElem?_getD, List.getElem?_drop]
  rw [nump, nump, num_step, take_snoc _ _ (by simp; omega), ofbe_snoc, e]
theorem getD_cut (l : List UInt8) (a n i : Nat) (hi : i < n) : ((l.drop a).take n).getD i 0 = l.getD (a + i) 0 := by
  rw [List.getD_eq_getElem?_getD, List.getD_eq_getElem?_getD, List.getElem?_take_of_lt hi, List.getElem?_drop]
theorem at_ok (w0 : World) (s : Sl) (hs : s.ok w0) (at_ n : Nat) (h1 : 1 ≤ n) (h8 : n ≤ 8) (hat : at_ ≤ 1099511627776) (hl : at_ + n ≤ s.len) :
    Ret Tryz.prog 115 [s.v, VI (at_ : Int), VI (n : Int)] w0 fun v w' => v = .tuple #[V64 (num s.l at_ n), VI 0] ∧ Hp w0 w' [] [] := by
  refine ret_mk Tryz.func115 rfl Tryz.ntmps115 (by simp) ?_
  have H := Hp.refl w0 []
  have hsl := hs.ln
  have hle := hs.le
  have hmx := hs.mx
  repeat refine c_seq ?_
  refine c_region ?_; refine l_op (o_val (r_asV (c64 0 (by decide))) ?_); refine l_op (o_val r_as ?_); first | refine l_end ?_ | refine l_nil ?_
  repeat refine c_seq ?_
  refine c_block ?_; repeat refine c_seq ?_
  refine c_region ?_; refine l_op (o_val r_mv ?_); refine l_op (o_val (r_bin (a := (n : Int)) (b := 1) rfl rfl (fun _ => b_lssB false (decide_eq_false (by omega)))) ?_); refine l_op (o_val r_mv ?_); refine l_yes rfl rfl rfl (o_val r_mv ?_); refine l_yes rfl rfl rfl (o_val (r_bin (a := (n : Int)) (b := 8) rfl rfl (fun _ => b_gtrB false (decide_eq_false (by omega)))) ?_); refine l_op (o_val (r_pick rfl) ?_); refine l_op (o_val r_mv ?_); refine l_yes rfl rfl rfl (o_val r_mv ?_); refine l_yes rfl rfl rfl (o_val (r_bin (a := (at_ : Int)) (b := 0) rfl rfl (fun _ => b_lssB false (decide_eq_false (by omega)))) ?_); refine l_op (o_val (r_pick rfl) ?_); refine l_op (o_val r_as ?_); first | refine l_end ?_ | refine l_nil ?_
  repeat refine c_seq ?_
  refine c_no rfl ?_; repeat refine c_seq ?_
  refine c_region ?_; refine l_op (o_val r_mv ?_); refine l_op (o_val r_mv ?_); refine l_op (o_val (r_lens el24 rfl) ?_); refine l_op (o_val r_mv ?_); refine l_op (o_val (r_bin (a := (s.len : Int)) (b := (n : Int)) rfl rfl (fun _ => b_sub (by omega) (by omega))) ?_); refine l_op (o_val (r_bin (a := (at_ : Int)) (b := (s.len : Int) - (n : Int)) rfl rfl (fun _ => b_gtrB false (decide_eq_false (by omega)))) ?_); refine l_op (o_val r_as ?_); first | refine l_end ?_ | refine l_nil ?_
  repeat refine c_seq ?_
  refine c_no rfl ?_; refine c_skip ?_; repeat refine c_seq ?_
  refine c_region ?_; refine l_op (o_val (r_asV (c64 0 (by decide))) ?_); first | refine l_end ?_ | refine l_nil ?_
  repeat refine c_seq ?_
  refine c_region ?_; refine l_op (o_val r_mv ?_); refine l_op (o_val r_mv ?_); refine l_op (o_val r_mv ?_); refine l_op (o_val r_mv ?_); refine l_op (o_val (r_bin (a := (at_ : Int)) (b := (n : Int)) rfl rfl (fun _ => b_add (by omega) (by omega))) ?_); refine l_op (o_val (r_slS (s := s) at_ (at_ + n) s.cap (lv := some (VI (at_ : Int))) (hv := some (VI ((at_ : Int) + (n : Int)))) (mv := none) rfl el24 rfl rfl rfl (fun w => by exact sblh at_ (at_ + n) (by omega) (by omega) (by (try simp only [Sl.cut]); omega) (by (try simp only [Sl.cut]); omega) w)) ?_); refine l_op (o_val (r_lens el24 rfl) ?_); refine l_op (o_val r_mv ?_); first | refine l_end ?_ | refine l_nil ?_
  repeat refine c_seq ?_
  refine c_block ?_; repeat refine c_seq ?_
  refine c_loop (fun (i : Nat) => [(8, V64 (nump s.l at_ i)), (34, (Sl.cut s at_ (at_ + n) s.cap).v), (35, VI ((at_ + n - at_ : Nat) : Int)), (36, VI (i : Int))])
    (fun (i : Nat) w => (i ≤ n) ∧ Hp w0 w [] ([]))
    (fun (i : Nat) => n - i) 0 ⟨rfl, rfl, rfl, rfl, trivial⟩ ⟨Nat.zero_le _, H⟩ ?_
  clear H
  rintro i τ w ⟨hi, H⟩
  repeat refine c_seq ?_
  refine c_region ?_; refine l_op (o_val (r_bin (a := (i : Int)) (b := ((at_ + n - at_ : Nat) : Int)) rfl rfl (fun _ => b_lss)) ?_); first | refine l_end ?_ | refine l_nil ?_
  by_cases hc1 : (i : Int) < ((at_ + n - at_ : Nat) : Int)
  ·
   repeat refine c_seq ?_
   refine c_yes (by exact congrArg Value.bool (decide_eq_true hc1)) ?_; refine c_skip ?_; repeat refine c_seq ?_
   refine c_block ?_; repeat refine c_seq ?_
   refine c_region ?_; have ah4 := (((hs.up H (fun _ => apart_nil _)).cut (l := at_) (h := at_ + n) (m := s.cap) (by omega) (by (try simp only [Sl.cut]); omega) (by omega) (by (try simp only [Sl.cut]); omega))).addr (by (try simp only [Sl.cut]); omega)
   obtain ⟨ab2, ao3, ah4⟩ := ah4
   refine l_op (o_val (r_isN i rfl rfl el24 ah4 (by omega) (by (try simp only [Sl.cut]); omega)) ?_); refine l_op (o_val (r_ldB (s := (Sl.cut s at_ (at_ + n) s.cap)) (k := i) ((hs.up H (fun _ => apart_nil _)).cut (l := at_) (h := at_ + n) (m := s.cap) (by omega) (by (try simp only [Sl.cut]); omega) (by omega) (by (try simp only [Sl.cut]); omega)) ah4 rfl ct5 (by (try simp only [Sl.cut]); omega)) ?_); refine l_op (o_val r_as ?_); first | refine l_end ?_ | refine l_nil ?_
   repeat refine c_seq ?_
   refine c_region ?_; refine l_op (o_val r_mv ?_); refine l_op (o_val (r_shift rfl rfl (.inl rfl) (fun _ => b_shl_u64N 8 (by omega))) ?_); refine l_op (o_val r_mv ?_); refine l_op (o_val (r_conv Tryz.underlying5 Tryz.underlying33 rfl (w_u64_8 _)) ?_); refine l_op (o_val (r_bin rfl rfl (fun _ => b_or_u64)) ?_); refine l_op (o_val r_as ?_); first | refine l_end ?_ | refine l_nil ?_
   repeat refine c_seq ?_
   refine c_region ?_; refine l_op (o_val (r_bin (a := (i : Int)) (b := 1) rfl rfl (fun _ => b_add (by omega) (by omega))) ?_); refine l_op (o_val r_mv ?_); first | refine l_end ?_ | refine l_nil ?_
   refine round_end (i + 1) ?_ ?_ ?_
   · exact ⟨show V64 (((nump s.l at_ i) <<< UInt64.ofNat 8) ||| (((((s.l).drop at_).take (at_ + n - at_)).getD i 0).toUInt64)) = V64 (nump s.l at_ (i + 1 : Nat)) from congrArg V64 (by rw [shl_or, getD_cut _ _ _ _ (by omega)]; exact nump_succ _ _ _ (by omega) _ rfl), rfl, rfl, show VI ((i : Int) + 1) = VI ((i + 1 : Nat) : Int) from congrArg VI (by omega), trivial⟩
   · refine ⟨?_, ?_⟩
     · try dsimp only
       exact by omega
     · exact H
   · show n - (i + 1 : Nat) < n - i; omega
  ·
   repeat refine c_seq ?_
   refine c_no (by exact congrArg Value.bool (decide_eq_false hc1)) ?_; refine c_exit ?_; repeat refine c_seq ?_
   refine c_region ?_; refine l_op (o_val r_mv ?_); refine l_op (o_val r_as ?_); refine l_op (o_val r_as ?_); first | refine l_end ?_ | refine l_nil ?_
   refine c_ret ?_; try dsimp only [Exit.then, Exit.inBlock]
   refine e_retN (vs := [V64 (nump s.l at_ i), VI 0]) _ Tryz.results115 rfl (resT (v := V64 (nump s.l at_ i)) rfl (resT (v := VI 0) rfl (resZ))) ?_
   refine ⟨_, rfl, ?_⟩
   have hin : i = n := by omega
   subst hin
   exact ⟨by rw [num, ← nump], H⟩
theorem at_short (w0 : World) (s : Sl) (hs : s.ok w0) (at_ n : Nat) (h1 : 1 ≤ n) (h8 : n ≤ 8) (hat : at_ ≤ 1099511627776) (hl : s.len < at_ + n) :
    Ret Tryz.prog 115 [s.v, VI (at_ : Int), VI (n : Int)] w0 fun v w' => v = .tuple #[V64 0, VI 3] ∧ Hp w0 w' [] [] := by
  refine ret_mk Tryz.func115 rfl Tryz.ntmps115 (by simp) ?_
  have H := Hp.refl w0 []
  have hsl := hs.ln
  have hle := hs.le
  have hmx := hs.mx
  repeat refine c_seq ?_
  refine c_region ?_; refine l_op (o_val (r_asV (c64 0 (by decide))) ?_); refine l_op (o_val r_as ?_); first | refine l_end ?_ | refine l_nil ?_
  repeat refine c_seq ?_
  refine c_block ?_; repeat refine c_seq ?_
  refine c_region ?_; refine l_op (o_val r_mv ?_); refine l_op (o_val (r_bin (a := (n : Int)) (b := 1) rfl rfl (fun _ => b_lssB false (decide_eq_false (by omega)))) ?_); refine l_op (o_val r_mv ?_); refine l_yes rfl rfl rfl (o_val r_mv ?_); refine l_yes rfl rfl rfl (o_val (r_bin (a := (n : Int)) (b := 8) rfl rfl (fun _ => b_gtrB false (decide_eq_false (by omega)))) ?_); refine l_op (o_val (r_pick rfl) ?_); refine l_op (o_val r_mv ?_); refine l_yes rfl rfl rfl (o_val r_mv ?_); refine l_yes rfl rfl rfl (o_val (r_bin (a := (at_ : Int)) (b := 0) rfl rfl (fun _ => b_lssB false (decide_eq_false (by omega)))) ?_); refine l_op (o_val (r_pick rfl) ?_); refine l_op (o_val r_as ?_); first | refine l_end ?_ | refine l_nil ?_
  repeat refine c_seq ?_
  refine c_no rfl ?_; repeat refine c_seq ?_
  refine c_region ?_; refine l_op (o_val r_mv ?_); refine l_op (o_val r_mv ?_); refine l_op (o_val (r_lens el24 rfl) ?_); refine l_op (o_val r_mv ?_); refine l_op (o_val (r_bin (a := (s.len : Int)) (b := (n : Int)) rfl rfl (fun _ => b_sub (by omega) (by omega))) ?_); refine l_op (o_val (r_bin (a := (at_ : Int)) (b := (s.len : Int) - (n : Int)) rfl rfl (fun _ => b_gtrB true (decide_eq_true (by omega)))) ?_); refine l_op (o_val r_as ?_); first | refine l_end ?_ | refine l_nil ?_
  repeat refine c_seq ?_
  refine c_yes rfl ?_; repeat refine c_seq ?_
  refine c_region ?_; refine l_op (o_val (r_asV (c64 0 (by decide))) ?_); refine l_op (o_val r_as ?_); first | refine l_end ?_ | refine l_nil ?_
  refine c_ret ?_; try dsimp only [Exit.then, Exit.inBlock]
  refine e_retN (vs := [V64 (0 : UInt64), VI 3]) _ Tryz.results115 rfl (resT (v := V64 (0 : UInt64)) rfl (resT (v := VI 3) rfl (resZ))) ?_
  refine ⟨_, rfl, ?_⟩
  exact ⟨rfl, H⟩
end Go.Proofs.YtiepekfcegdkoaaGreatDoor
namespace Go.Proofs.YtiepekfcegdkoaaGreatDoor
open Go
set_option maxRecDepth 100000
/-- an entry, as a world has it. -/
structure Ent where
  seq : Int
  tick : Int
  serial : UInt64
  tenant : List UInt8
  do_ : Int
  status : Int
  of_ : List UInt8
deriving DecidableEq
def entE (e : Ent) : List Value := [VI e.seq, VI e.tick, V64 e.serial, .string ⟨e.tenant.toArray⟩, VI e.do_, VI e.status] ++ e.of_.map V8
theorem entE_len (e : Ent) : (entE e).length = 38 ↔ e.of_.length = 32 := by simp [entE]
theorem ent_len {e : Ent} (h : e.of_.length = 32) : (entE e).length = 38 := (entE_len e).2 h
theorem ent_all (e : Ent) : (entE e).all (·.oneCell') = true := all_tail rfl
/-- numbers are such as int64 has. -/
def Ent.bd (e : Ent) : Prop := e.seq ≤ 9223372036854775807 ∧ e.tick ≤ 9223372036854775807
def mayE (e : Ent) : Bool := decide (0 ≤ e.seq ∧ 0 ≤ e.tick ∧ 0 ≤ e.do_ ∧ e.do_ ≤ 255 ∧ 0 ≤ e.status ∧ e.status ≤ 999 ∧ e.tenant.length ≤ 16)
theorem mayE_iff (e : Ent) : mayE e = true ↔ 0 ≤ e.seq ∧ 0 ≤ e.tick ∧ 0 ≤ e.do_ ∧ e.do_ ≤ 255 ∧ 0 ≤ e.status ∧ e.status ≤ 999 ∧ e.tenant.length ≤ 16 := by simp [mayE]
def entB (e : Ent) : List UInt8 := be e.seq.toNat 8 ++ be e.tick.toNat 8 ++ be e.serial.toNat 8 ++ [UInt8.ofNat e.tenant.length] ++ e.tenant ++ be e.do_.toNat 1 ++ be e.status.toNat 2 ++ e.of_
theorem entB_len (e : Ent) (h : e.of_.length = 32) : (entB e).length = 60 + e.tenant.length := by simp [entB, be_len, h]; omega
theorem au_cnt (n : Nat) (h : n ≤ 127) : cnt n = [UInt8.ofNat n] := by rw [cnt, if_neg (by omega)]
def linkF (h : List UInt8) (e : Ent) : List UInt8 := sha256 (h ++ entB e)
theorem linkF_len (h : List UInt8) (e : Ent) : (linkF h e).length = 32 := sha256_len _
theorem aMay_ret (w0 : World) (e : Ent) (_he : e.of_.length = 32) :
    Ret Tryz.prog 108 [.agg ([VI e.seq, VI e.tick, V64 e.serial, .string ⟨(e.tenant).toArray⟩, VI e.do_, VI e.status] ++ (e.of_).map V8).toArray] w0 fun v w' => v = .bool (mayE e) ∧ Hp w0 w' [] [] := by
  refine ret_mk Tryz.func108 rfl Tryz.ntmps108 (by simp) ?_
  have H := Hp.refl w0 []
  repeat refine c_seq ?_
  refine c_region ?_; refine l_op (o_box (v := .agg ([VI e.seq, VI e.tick, V64 e.serial, .string ⟨(e.tenant).toArray⟩, VI e.do_, VI e.status] ++ (e.of_).map V8).toArray) H rfl (fun b1 w H hb1 => ?_)); replace H : Hp _ w _ ([.blk b1 ([VI e.seq, VI e.tick, V64 e.serial, .string ⟨(e.tenant).toArray⟩, VI e.do_, VI e.status] ++ (e.of_).map V8) 55]) := H
  refine l_op (o_val r_as ?_); first | refine l_end ?_ | refine l_nil ?_
  repeat refine c_seq ?_
  refine c_region ?_; refine l_op (o_val (r_fa rfl fo55_0) ?_); refine l_op (o_val (r_ld (v := VI e.seq) H (i := 0) rfl rfl ct2 rfl) ?_); refine l_op (o_val (r_bin (a := e.seq) (b := 0) rfl rfl (fun _ => b_geq)) ?_); refine l_op (o_val r_mv ?_)
  by_cases hc2 : 0 ≤ e.seq
  ·
   refine l_yes rfl rfl (by exact congrArg Value.bool (decide_eq_true hc2)) (o_val (r_fa rfl fo55_1) ?_); refine l_yes rfl rfl (by exact congrArg Value.bool (decide_eq_true hc2)) (o_val (r_ld (v := VI e.tick) H (i := 0) rfl rfl ct2 rfl) ?_); refine l_yes rfl rfl (by exact congrArg Value.bool (decide_eq_true hc2)) (o_val (r_bin (a := e.tick) (b := 0) rfl rfl (fun _ => b_geq)) ?_); refine l_op (o_val (r_pick (b := true) (congrArg Value.bool (decide_eq_true hc2))) ?_); refine l_op (o_val r_mv ?_)
   by_cases hc3 : 0 ≤ e.tick
   ·
    refine l_yes rfl rfl (by exact congrArg Value.bool (decide_eq_true hc3)) (o_val (r_fa rfl fo55_4) ?_); refine l_yes rfl rfl (by exact congrArg Value.bool (decide_eq_true hc3)) (o_val (r_ld (v := VI e.do_) H (i := 0) rfl rfl ct3 rfl) ?_); refine l_yes rfl rfl (by exact congrArg Value.bool (decide_eq_true hc3)) (o_val (r_bin (a := e.do_) (b := 0) rfl rfl (fun _ => b_geq)) ?_); refine l_op (o_val (r_pick (b := true) (congrArg Value.bool (decide_eq_true hc3))) ?_); refine l_op (o_val r_mv ?_)
    by_cases hc4 : 0 ≤ e.do_
    ·
     refine l_yes rfl rfl (by exact congrArg Value.bool (decide_eq_true hc4)) (o_val (r_fa rfl fo55_4) ?_); refine l_yes rfl rfl (by exact congrArg Value.bool (decide_eq_true hc4)) (o_val (r_ld (v := VI e.do_) H (i := 0) rfl rfl ct3 rfl) ?_); refine l_yes rfl rfl (by exact congrArg Value.bool (decide_eq_true hc4)) (o_val (r_bin (a := e.do_) (b := 255) rfl rfl (fun _ => b_leq)) ?_); refine l_op (o_val (r_pick (b := true) (congrArg Value.bool (decide_eq_true hc4))) ?_); refine l_op (o_val r_mv ?_)
     by_cases hc5 : e.do_ ≤ 255
     ·
      refine l_yes rfl rfl (by exact congrArg Value.bool (decide_eq_true hc5)) (o_val (r_fa rfl fo55_5) ?_); refine l_yes rfl rfl (by exact congrArg Value.bool (decide_eq_true hc5)) (o_val (r_ld (v := VI e.status) H (i := 0) rfl rfl ct3 rfl) ?_); refine l_yes rfl rfl (by exact congrArg Value.bool (decide_eq_true hc5)) (o_val (r_bin (a := e.status) (b := 0) rfl rfl (fun _ => b_geq)) ?_); refine l_op (o_val (r_pick (b := true) (congrArg Value.bool (decide_eq_true hc5))) ?_); refine l_op (o_val r_mv ?_)
      by_cases hc6 : 0 ≤ e.status
      ·
       refine l_yes rfl rfl (by exact congrArg Value.bool (decide_eq_true hc6)) (o_val (r_fa rfl fo55_5) ?_); refine l_yes rfl rfl (by exact congrArg Value.bool (decide_eq_true hc6)) (o_val (r_ld (v := VI e.status) H (i := 0) rfl rfl ct3 rfl) ?_); refine l_yes rfl rfl (by exact congrArg Value.bool (decide_eq_true hc6)) (o_val (r_bin (a := e.status) (b := 999) rfl rfl (fun _ => b_leq)) ?_); refine l_op (o_val (r_pick (b := true) (congrArg Value.bool (decide_eq_true hc6))) ?_); refine l_op (o_val r_mv ?_)
       by_cases hc7 : e.status ≤ 999
       ·
        refine l_yes rfl rfl (by exact congrArg Value.bool (decide_eq_true hc7)) (o_val (r_fa rfl fo55_3) ?_); refine l_yes rfl rfl (by exact congrArg Value.bool (decide_eq_true hc7)) (o_val (r_ld (v := .string ⟨(e.tenant).toArray⟩) H (i := 0) rfl rfl ct9 rfl) ?_); refine l_yes rfl rfl (by exact congrArg Value.bool (decide_eq_true hc7)) (o_val (r_lenstr (s := ⟨(e.tenant).toArray⟩) Tryz.underlying9 rfl) ?_); refine l_yes rfl rfl (by exact congrArg Value.bool (decide_eq_true hc7)) (o_val (r_bin (a := ((e.tenant).length : Int)) (b := 16) rfl rfl (fun _ => b_leq)) ?_); refine l_op (o_val (r_pick (b := true) (congrArg Value.bool (decide_eq_true hc7))) ?_); refine l_op (o_val r_as ?_); first | refine l_end ?_ | refine l_nil ?_
        refine c_ret ?_; try dsimp only [Exit.then, Exit.inBlock]
        refine e_ret1 (v := .bool (decide (((e.tenant).length : Int) ≤ 16))) Tryz.results108 rfl ?_
        refine ⟨_, rfl, ?_⟩
        refine ⟨?_, H.sub (List.nil_sublist _)⟩
        congr 1
        exact decide_eq_decide.2 (by omega)
       ·
        refine l_no rfl rfl (by exact congrArg Value.bool (decide_eq_false hc7)) rfl ?_; refine l_no rfl rfl (by exact congrArg Value.bool (decide_eq_false hc7)) rfl ?_; refine l_no rfl rfl (by exact congrArg Value.bool (decide_eq_false hc7)) rfl ?_; refine l_no rfl rfl (by exact congrArg Value.bool (decide_eq_false hc7)) rfl ?_; refine l_op (o_val (r_pick (b := false) (congrArg Value.bool (decide_eq_false hc7))) ?_); refine l_op (o_val r_as ?_); first | refine l_end ?_ | refine l_nil ?_
        refine c_ret ?_; try dsimp only [Exit.then, Exit.inBlock]
        refine e_ret1 (v := .bool false) Tryz.results108 rfl ?_
        refine ⟨_, rfl, ?_⟩
        refine ⟨?_, H.sub (List.nil_sublist _)⟩
        have e1 : mayE e = false := decide_eq_false (by omega)
        rw [e1]
      ·
       refine l_no rfl rfl (by exact congrArg Value.bool (decide_eq_false hc6)) rfl ?_; refine l_no rfl rfl (by exact congrArg Value.bool (decide_eq_false hc6)) rfl ?_; refine l_no rfl rfl (by exact congrArg Value.bool (decide_eq_false hc6)) rfl ?_; refine l_op (o_val (r_pick (b := false) (congrArg Value.bool (decide_eq_false hc6))) ?_); refine l_op (o_val r_mv ?_); refine l_no rfl rfl rfl rfl ?_; refine l_no rfl rfl rfl rfl ?_; refine l_no rfl rfl rfl rfl ?_; refine l_no rfl rfl rfl rfl ?_; refine l_op (o_val (r_pick rfl) ?_); refine l_op (o_val r_as ?_); first | refine l_end ?_ | refine l_nil ?_
       refine c_ret ?_; try dsimp only [Exit.then, Exit.inBlock]
       refine e_ret1 (v := .bool false) Tryz.results108 rfl ?_
       refine ⟨_, rfl, ?_⟩
       refine ⟨?_, H.sub (List.nil_sublist _)⟩
       have e1 : mayE e = false := decide_eq_false (by omega)
       rw [e1]
     ·
      refine l_no rfl rfl (by exact congrArg Value.bool (decide_eq_false hc5)) rfl ?_; refine l_no rfl rfl (by exact congrArg Value.bool (decide_eq_false hc5)) rfl ?_; refine l_no rfl rfl (by exact congrArg Value.bool (decide_eq_false hc5)) rfl ?_; refine l_op (o_val (r_pick (b := false) (congrArg Value.bool (decide_eq_false hc5))) ?_); refine l_op (o_val r_mv ?_); refine l_no rfl rfl rfl rfl ?_; refine l_no rfl rfl rfl rfl ?_; refine l_no rfl rfl rfl rfl ?_; refine l_op (o_val (r_pick rfl) ?_); refine l_op (o_val r_mv ?_); refine l_no rfl rfl rfl rfl ?_; refine l_no rfl rfl rfl rfl ?_; refine l_no rfl rfl rfl rfl ?_; refine l_no rfl rfl rfl rfl ?_; refine l_op (o_val (r_pick rfl) ?_); refine l_op (o_val r_as ?_); first | refine l_end ?_ | refine l_nil ?_
      refine c_ret ?_; try dsimp only [Exit.then, Exit.inBlock]
      refine e_ret1 (v := .bool false) Tryz.results108 rfl ?_
      refine ⟨_, rfl, ?_⟩
      refine ⟨?_, H.sub (List.nil_sublist _)⟩
      have e1 : mayE e = false := decide_eq_false (by omega)
      rw [e1]
    ·
     refine l_no rfl rfl (by exact congrArg Value.bool (decide_eq_false hc4)) rfl ?_; refine l_no rfl rfl (by exact congrArg Value.bool (decide_eq_false hc4)) rfl ?_; refine l_no rfl rfl (by exact congrArg Value.bool (decide_eq_false hc4)) rfl ?_; refine l_op (o_val (r_pick (b := false) (congrArg Value.bool (decide_eq_false hc4))) ?_); refine l_op (o_val r_mv ?_); refine l_no rfl rfl rfl rfl ?_; refine l_no rfl rfl rfl rfl ?_; refine l_no rfl rfl rfl rfl ?_; refine l_op (o_val (r_pick rfl) ?_); refine l_op (o_val r_mv ?_); refine l_no rfl rfl rfl rfl ?_; refine l_no rfl rfl rfl rfl ?_; refine l_no rfl rfl rfl rfl ?_; refine l_op (o_val (r_pick rfl) ?_); refine l_op (o_val r_mv ?_); refine l_no rfl rfl rfl rfl ?_; refine l_no rfl rfl rfl rfl ?_; refine l_no rfl rfl rfl rfl ?_; refine l_no rfl rfl rfl rfl ?_; refine l_op (o_val (r_pick rfl) ?_); refine l_op (o_val r_as ?_); first | refine l_end ?_ | refine l_nil ?_
     refine c_ret ?_; try dsimp only [Exit.then, Exit.inBlock]
     refine e_ret1 (v := .bool false) Tryz.results108 rfl ?_
     refine ⟨_, rfl, ?_⟩
     refine ⟨?_, H.sub (List.nil_sublist _)⟩
     have e1 : mayE e = false := decide_eq_false (by omega)
     rw [e1]
   ·
    refine l_no rfl rfl (by exact congrArg Value.bool (decide_eq_false hc3)) rfl ?_; refine l_no rfl rfl (by exact congrArg Value.bool (decide_eq_false hc3)) rfl ?_; refine l_no rfl rfl (by exact congrArg Value.bool (decide_eq_false hc3)) rfl ?_; refine l_op (o_val (r_pick (b := false) (congrArg Value.bool (decide_eq_false hc3))) ?_); refine l_op (o_val r_mv ?_); refine l_no rfl rfl rfl rfl ?_; refine l_no rfl rfl rfl rfl ?_; refine l_no rfl rfl rfl rfl ?_; refine l_op (o_val (r_pick rfl) ?_); refine l_op (o_val r_mv ?_); refine l_no rfl rfl rfl rfl ?_; refine l_no rfl rfl rfl rfl ?_; refine l_no rfl rfl rfl rfl ?_; refine l_op (o_val (r_pick rfl) ?_); refine l_op (o_val r_mv ?_); refine l_no rfl rfl rfl rfl ?_; refine l_no rfl rfl rfl rfl ?_; refine l_no rfl rfl rfl rfl ?_; refine l_op (o_val (r_pick rfl) ?_); refine l_op (o_val r_mv ?_); refine l_no rfl rfl rfl rfl ?_; refine l_no rfl rfl rfl rfl ?_; refine l_no rfl rfl rfl rfl ?_; refine l_no rfl rfl rfl rfl ?_; refine l_op (o_val (r_pick rfl) ?_); refine l_op (o_val r_as ?_); first | refine l_end ?_ | refine l_nil ?_
    refine c_ret ?_; try dsimp only [Exit.then, Exit.inBlock]
    refine e_ret1 (v := .bool false) Tryz.results108 rfl ?_
    refine ⟨_, rfl, ?_⟩
    refine ⟨?_, H.sub (List.nil_sublist _)⟩
    have e1 : mayE e = false := decide_eq_false (by omega)
    rw [e1]
  ·
   refine l_no rfl rfl (by exact congrArg Value.bool (decide_eq_false hc2)) rfl ?_; refine l_no rfl rfl (by exact congrArg Value.bool (decide_eq_false hc2)) rfl ?_; refine l_no rfl rfl (by exact congrArg Value.bool (decide_eq_false hc2)) rfl ?_; refine l_op (o_val (r_pick (b := false) (congrArg Value.bool (decide_eq_false hc2))) ?_); refine l_op (o_val r_mv ?_); refine l_no rfl rfl rfl rfl ?_; refine l_no rfl rfl rfl rfl ?_; refine l_no rfl rfl rfl rfl ?_; refine l_op (o_val (r_pick rfl) ?_); refine l_op (o_val r_mv ?_); refine l_no rfl rfl rfl rfl ?_; refine l_no rfl rfl rfl rfl ?_; refine l_no rfl rfl rfl rfl ?_; refine l_op (o_val (r_pick rfl) ?_); refine l_op (o_val r_mv ?_); refine l_no rfl rfl rfl rfl ?_; refine l_no rfl rfl rfl rfl ?_; refine l_no rfl rfl rfl rfl ?_; refine l_op (o_val (r_pick rfl) ?_); refine l_op (o_val r_mv ?_); refine l_no rfl rfl rfl rfl ?_; refine l_no rfl rfl rfl rfl ?_; refine l_no rfl rfl rfl rfl ?_; refine l_op (o_val (r_pick rfl) ?_); refine l_op (o_val r_mv ?_); refine l_no rfl rfl rfl rfl ?_; refine l_no rfl rfl rfl rfl ?_; refine l_no rfl rfl rfl rfl ?_; refine l_no rfl rfl rfl rfl ?_; refine l_op (o_val (r_pick rfl) ?_); refine l_op (o_val r_as ?_); first | refine l_end ?_ | refine l_nil ?_
   refine c_ret ?_; try dsimp only [Exit.then, Exit.inBlock]
   refine e_ret1 (v := .bool false) Tryz.results108 rfl ?_
   refine ⟨_, rfl, ?_⟩
   refine ⟨?_, H.sub (List.nil_sublist _)⟩
   have e1 : mayE e = false := decide_eq_false (by omega)
   rw [e1]
theorem aBytes_ok (w0 : World) (e : Ent) (he : e.of_.length = 32) (hb : e.bd) (hm : mayE e = true) :
    Ret Tryz.prog 65 [.agg ([VI e.seq, VI e.tick, V64 e.serial, .string ⟨(e.tenant).toArray⟩, VI e.do_, VI e.status] ++ (e.of_).map V8).toArray] w0 fun v w' => ∃ a n k, v = .tuple #[.slice (hd a) n k, VI 0] ∧ (entB e).length = n ∧ Hp w0 w' [] [.own a n k ((entB e).map V8) 5 1] := by
  refine ret_mk Tryz.func65 rfl Tryz.ntmps65 (by simp) ?_
  have H := Hp.refl w0 []
  have hm2 := (mayE_iff e).1 hm
  have hb1 := hb.1
  have hb2 := hb.2
  have q1 : (UInt64.ofNat e.seq.toNat).toNat = e.seq.toNat := ofNat_nat _ (by omega)
  have q2 : (UInt64.ofNat e.tick.toNat).toNat = e.tick.toNat := ofNat_nat _ (by omega)
  have q3 : (UInt64.ofNat e.do_.toNat).toNat = e.do_.toNat := ofNat_nat _ (by omega)
  have q4 : (UInt64.ofNat e.status.toNat).toNat = e.status.toNat := ofNat_nat _ (by omega)
  repeat refine c_seq ?_
  refine c_region ?_; refine l_op (o_box (v := .agg ([VI e.seq, VI e.tick, V64 e.serial, .string ⟨(e.tenant).toArray⟩, VI e.do_, VI e.status] ++ (e.of_).map V8).toArray) H rfl (fun b1 w H hb1 => ?_)); replace H : Hp _ w _ ([.blk b1 ([VI e.seq, VI e.tick, V64 e.serial, .string ⟨(e.tenant).toArray⟩, VI e.do_, VI e.status] ++ (e.of_).map V8) 55]) := H
  refine l_op (o_val r_as ?_); refine l_op (o_val r_as ?_); first | refine l_end ?_ | refine l_nil ?_
  repeat refine c_seq ?_
  refine c_region ?_; refine l_op (o_val (r_ldA (C := [VI e.seq, VI e.tick, V64 e.serial, .string ⟨(e.tenant).toArray⟩, VI e.do_, VI e.status] ++ (e.of_).map V8) H (i := 0) rfl rfl rt55 (by rw [List.length_append, List.length_map, (show (e.of_).length = 32 from he)]; rfl)) ?_); refine l_op (o_callR Tryz.func108 rfl rfl rfl (aMay_ret _ e (show (e.of_).length = 32 from he)) ?_); rintro _ w ⟨rfl, Hc⟩
  replace H : Hp _ w _ ([_]) := H.call Hc
  clear Hc
  have hk2 : (mayE e) = true := hm
  refine l_op (o_val (r_not rfl) ?_); first | refine l_end ?_ | refine l_nil ?_
  repeat refine c_seq ?_
  refine c_no (by exact congrArg Value.bool (congrArg not hk2)) ?_; refine c_skip ?_; repeat refine c_seq ?_
  refine c_region ?_; refine l_op (o_val (r_fa rfl fo55_0) ?_); refine l_op (o_val (r_ld (v := VI e.seq) H (i := 0) rfl rfl ct2 rfl) ?_); refine l_op (o_val (r_conv (v := ((UInt64.ofNat (e.seq).toNat).toNat : Int)) Tryz.underlying2 Tryz.underlying33 rfl (w_u64_N (e.seq).toNat (by omega))) ?_); refine l_op (o_callR Tryz.func23 rfl rfl rfl (put0_ret _ (UInt64.ofNat (e.seq).toNat) 8 (by omega) (by omega) (.inl rfl)) ?_); rintro _ w ⟨a3, c4, rfl, Hc⟩
  replace H : Hp _ w _ ([_, .own a3 8 c4 ((be (UInt64.ofNat (e.seq).toNat).toNat 8).map V8) 5 1]) := H.call Hc
  clear Hc
  refine l_op (o_val r_mv ?_); refine l_op (o_val (r_ext rfl rfl) ?_); refine l_op (o_val (r_ext rfl rfl) ?_); refine l_op (o_val r_as ?_); refine l_op (o_val r_as ?_); first | refine l_end ?_ | refine l_nil ?_
  repeat refine c_seq ?_
  refine c_region ?_; refine l_op (o_val r_mv ?_); refine l_op (o_val (r_fa rfl fo55_1) ?_); refine l_op (o_val (r_ld (v := VI e.tick) H (i := 0) rfl rfl ct2 rfl) ?_); refine l_op (o_val (r_conv (v := ((UInt64.ofNat (e.tick).toNat).toNat : Int)) Tryz.underlying2 Tryz.underlying33 rfl (w_u64_N (e.tick).toNat (by omega))) ?_); refine l_op (o_callR Tryz.func23 rfl rfl rfl (put_ret _ ⟨hd a3, 8, c4, be (UInt64.ofNat (e.seq).toNat).toNat 8⟩ (H.slOwn (i := 1) rfl) (UInt64.ofNat (e.tick).toNat) 8 (by omega) (by omega) (.inl rfl) (by (try dsimp only); omega)) ?_); rintro _ w ⟨a5, c6, rfl, Hc⟩
  replace H : Hp _ w _ ([_, _, .own a5 (8 + 8) c6 ((be (UInt64.ofNat (e.seq).toNat).toNat 8 ++ be (UInt64.ofNat (e.tick).toNat).toNat 8).map V8) 5 1]) := H.call Hc
  clear Hc
  refine l_op (o_val r_mv ?_); refine l_op (o_val (r_ext rfl rfl) ?_); refine l_op (o_val (r_ext rfl rfl) ?_); refine l_op (o_val r_as ?_); first | refine l_end ?_ | refine l_nil ?_
  repeat refine c_seq ?_
  refine c_region ?_; refine l_op (o_val r_mv ?_); refine l_op (o_val (r_fa rfl fo55_2) ?_); refine l_op (o_val (r_ld (v := V64 e.serial) H (i := 0) rfl rfl ct33 rfl) ?_); refine l_op (o_callR Tryz.func23 rfl rfl rfl (put_ret _ ⟨hd a5, 8 + 8, c6, be (UInt64.ofNat (e.seq).toNat).toNat 8 ++ be (UInt64.ofNat (e.tick).toNat).toNat 8⟩ (H.slOwn (i := 2) rfl) (e.serial) 8 (by omega) (by omega) (.inl rfl) (by (try dsimp only); omega)) ?_); rintro _ w ⟨a7, c8, rfl, Hc⟩
  replace H : Hp _ w _ ([_, _, _, .own a7 (8 + 8 + 8) c8 ((be (UInt64.ofNat (e.seq).toNat).toNat 8 ++ be (UInt64.ofNat (e.tick).toNat).toNat 8 ++ be (e.serial).toNat 8).map V8) 5 1]) := H.call Hc
  clear Hc
  refine l_op (o_val r_mv ?_); refine l_op (o_val (r_ext rfl rfl) ?_); refine l_op (o_val (r_ext rfl rfl) ?_); refine l_op (o_val r_as ?_); first | refine l_end ?_ | refine l_nil ?_
  repeat refine c_seq ?_
  refine c_region ?_; refine l_op (o_val r_mv ?_); refine l_op (o_val (r_fa rfl fo55_3) ?_); refine l_op (o_val (r_ld (v := .string ⟨(e.tenant).toArray⟩) H (i := 0) rfl rfl ct9 rfl) ?_); refine l_op (o_s2B (l := e.tenant) H Tryz.underlying9 Tryz.underlying24 Tryz.underlying5 rfl (by omega) (fun b9 c10 ob11 w H hb9 hr12 => ?_)); replace H : Hp _ w _ ([_, _, _, _, .obj b9 ob11]) := H
  refine l_op (o_callR Tryz.func72 rfl rfl rfl (text_ret _ ⟨hd a7, 8 + 8 + 8, c8, be (UInt64.ofNat (e.seq).toNat).toNat 8 ++ be (UInt64.ofNat (e.tick).toNat).toNat 8 ++ be (e.serial).toNat 8⟩ (⟨some ⟨b9, 0, none⟩, (e.tenant).length, c10, e.tenant⟩ : Sl) (H.slOwn (i := 3) rfl) (hr12 _ (H.has (.obj b9 ob11) (by simp))) (by (try simp only []); omega) (by (try simp only []); omega)) ?_); rintro _ w ⟨a13, n14, c15, rfl, hn16, Hc⟩
  replace H : Hp _ w _ ([_, _, _, _, _, .own a13 n14 c15 ((be (UInt64.ofNat (e.seq).toNat).toNat 8 ++ be (UInt64.ofNat (e.tick).toNat).toNat 8 ++ be (e.serial).toNat 8 ++ cnt ((e.tenant).length) ++ e.tenant).map V8) 5 1]) := H.call Hc
  clear Hc
  try dsimp only at hn16
  refine l_op (o_val r_mv ?_); refine l_op (o_val (r_ext rfl rfl) ?_); refine l_op (o_val (r_ext rfl rfl) ?_); refine l_op (o_val r_as ?_); first | refine l_end ?_ | refine l_nil ?_
  repeat refine c_seq ?_
  refine c_region ?_; refine l_op (o_val r_mv ?_); refine l_op (o_val (r_fa rfl fo55_4) ?_); refine l_op (o_val (r_ld (v := VI e.do_) H (i := 0) rfl rfl ct3 rfl) ?_); refine l_op (o_val (r_conv (v := ((UInt64.ofNat (e.do_).toNat).toNat : Int)) Tryz.underlying3 Tryz.underlying33 rfl (w_u64_N (e.do_).toNat (by omega))) ?_); refine l_op (o_callR Tryz.func23 rfl rfl rfl (put_ret _ ⟨hd a13, n14, c15, be (UInt64.ofNat (e.seq).toNat).toNat 8 ++ be (UInt64.ofNat (e.tick).toNat).toNat 8 ++ be (e.serial).toNat 8 ++ cnt ((e.tenant).length) ++ e.tenant⟩ (H.slOwn (i := 5) rfl) (UInt64.ofNat (e.do_).toNat) 1 (by omega) (by omega) (.inr (by rw [ofNat_nat _ (by omega)]; first | exact Nat.lt_of_le_of_lt (m := 255) (by omega) (by decide) | exact Nat.lt_of_le_of_lt (m := 999) (by omega) (by decide))) (by (try dsimp only); omega)) ?_); rintro _ w ⟨a17, c18, rfl, Hc⟩
  replace H : Hp _ w _ ([_, _, _, _, _, _, .own a17 (n14 + 1) c18 ((be (UInt64.ofNat (e.seq).toNat).toNat 8 ++ be (UInt64.ofNat (e.tick).toNat).toNat 8 ++ be (e.serial).toNat 8 ++ cnt ((e.tenant).length) ++ e.tenant ++ be (UInt64.ofNat (e.do_).toNat).toNat 1).map V8) 5 1]) := H.call Hc
  clear Hc
  refine l_op (o_val r_mv ?_); refine l_op (o_val (r_ext rfl rfl) ?_); refine l_op (o_val (r_ext rfl rfl) ?_); refine l_op (o_val r_as ?_); first | refine l_end ?_ | refine l_nil ?_
  repeat refine c_seq ?_
  refine c_region ?_; refine l_op (o_val r_mv ?_); refine l_op (o_val (r_fa rfl fo55_5) ?_); refine l_op (o_val (r_ld (v := VI e.status) H (i := 0) rfl rfl ct3 rfl) ?_); refine l_op (o_val (r_conv (v := ((UInt64.ofNat (e.status).toNat).toNat : Int)) Tryz.underlying3 Tryz.underlying33 rfl (w_u64_N (e.status).toNat (by omega))) ?_); refine l_op (o_callR Tryz.func23 rfl rfl rfl (put_ret _ ⟨hd a17, n14 + 1, c18, be (UInt64.ofNat (e.seq).toNat).toNat 8 ++ be (UInt64.ofNat (e.tick).toNat).toNat 8 ++ be (e.serial).toNat 8 ++ cnt ((e.tenant).length) ++ e.tenant ++ be (UInt64.ofNat (e.do_).toNat).toNat 1⟩ (H.slOwn (i := 6) rfl) (UInt64.ofNat (e.status).toNat) 2 (by omega) (by omega) (.inr (by rw [ofNat_nat _ (by omega)]; first | exact Nat.lt_of_le_of_lt (m := 255) (by omega) (by decide) | exact Nat.lt_of_le_of_lt (m := 999) (by omega) (by decide))) (by (try dsimp only); omega)) ?_); rintro _ w ⟨a19, c20, rfl, Hc⟩
  replace H : Hp _ w _ ([_, _, _, _, _, _, _, .own a19 (n14 + 1 + 2) c20 ((be (UInt64.ofNat (e.seq).toNat).toNat 8 ++ be (UInt64.ofNat (e.tick).toNat).toNat 8 ++ be (e.serial).toNat 8 ++ cnt ((e.tenant).length) ++ e.tenant ++ be (UInt64.ofNat (e.do_).toNat).toNat 1 ++ be (UInt64.ofNat (e.status).toNat).toNat 2).map V8) 5 1]) := H.call Hc
  clear Hc
  refine l_op (o_val r_mv ?_); refine l_op (o_val (r_ext rfl rfl) ?_); refine l_op (o_val (r_ext rfl rfl) ?_); refine l_op (o_val r_as ?_); first | refine l_end ?_ | refine l_nil ?_
  repeat refine c_seq ?_
  refine c_region ?_; refine l_op (o_val r_mv ?_); refine l_op (o_val (r_fa rfl fo55_6) ?_); refine l_op (o_val (r_slAo (o := 6) (h := 32) (m := 32) (lv := none) (hv := none) (mv := none) rfl ar23 rfl rfl rfl (fun w => sbn w)) ?_); refine l_op (o_appB (s := (⟨some ⟨b1, 6, none⟩, 32, 32, e.of_⟩ : Sl)) (l' := be (UInt64.ofNat (e.seq).toNat).toNat 8 ++ be (UInt64.ofNat (e.tick).toNat).toNat 8 ++ be (e.serial).toNat 8 ++ cnt ((e.tenant).length) ++ e.tenant ++ be (UInt64.ofNat (e.do_).toNat).toNat 1 ++ be (UInt64.ofNat (e.status).toNat).toNat 2 ++ e.of_) (len' := n14 + 1 + 2 + 32) rfl rfl H (i := 7) rfl sl24 Tryz.underlying24 rfl rfl (H.slTail (i := 0) (o := 6) (pre := [VI e.seq, VI e.tick, V64 e.serial, .string ⟨(e.tenant).toArray⟩, VI e.do_, VI e.status]) rfl rfl (show (e.of_).length = 32 from he) (by decide)) (by omega) (fun a21 c22 w H => ?_)); replace H : Hp _ w _ ([_, _, _, _, _, _, _, .own a21 (n14 + 1 + 2 + 32) c22 ((be (UInt64.ofNat (e.seq).toNat).toNat 8 ++ be (UInt64.ofNat (e.tick).toNat).toNat 8 ++ be (e.serial).toNat 8 ++ cnt ((e.tenant).length) ++ e.tenant ++ be (UInt64.ofNat (e.do_).toNat).toNat 1 ++ be (UInt64.ofNat (e.status).toNat).toNat 2 ++ e.of_).map V8) 5 1]) := H
  refine l_op (o_val r_as ?_); refine l_op (o_val r_as ?_); first | refine l_end ?_ | refine l_nil ?_
  refine c_ret ?_; try dsimp only [Exit.then, Exit.inBlock]
  refine e_retN (vs := [.slice (hd a21) (n14 + 1 + 2 + 32) c22, VI 0]) _ Tryz.results65 rfl (resT (v := .slice (hd a21) (n14 + 1 + 2 + 32) c22) rfl (resT (v := VI 0) rfl (resZ))) ?_
  refine ⟨_, rfl, ?_⟩
  have e1 : be (UInt64.ofNat (e.seq).toNat).toNat 8 ++ be (UInt64.ofNat (e.tick).toNat).toNat 8 ++ be (e.serial).toNat 8 ++ cnt ((e.tenant).length) ++ e.tenant ++ be (UInt64.ofNat (e.do_).toNat).toNat 1 ++ be (UInt64.ofNat (e.status).toNat).toNat 2 ++ e.of_ = entB e := by
    rw [q1, q2, q3, q4, au_cnt _ (show e.tenant.length ≤ 127 by omega), entB] <;> simp
  rw [e1] at H
  have hh := (H.ownLen (i := 7) rfl).1
  exact ⟨_, _, _, rfl, by simpa using hh, H.sub (.cons _ (.cons _ (.cons _ (.cons _ (.cons _ (.cons _ (.cons _ (.cons_cons _ (List.nil_sublist _)))))))))⟩
theorem aLink_ok (w0 : World) (h : List UInt8) (hh : h.length = 32) (e : Ent) (he : e.of_.length = 32) (hb : e.bd) (hm : mayE e = true) :
    Ret Tryz.prog 22 [.agg ((h).map V8).toArray, .agg ([VI e.seq, VI e.tick, V64 e.serial, .string ⟨(e.tenant).toArray⟩, VI e.do_, VI e.status] ++ (e.of_).map V8).toArray] w0 fun v w' => v = .tuple #[.agg ((linkF h e).map V8).toArray, VI 0] ∧ Hp w0 w' [] [] := by
  refine ret_mk Tryz.func22 rfl Tryz.ntmps22 (by simp) ?_
  have H := Hp.refl w0 []
  have hm2 := (mayE_iff e).1 hm
  have hbl := entB_len e he
  repeat refine c_seq ?_
  refine c_region ?_; refine l_op (o_box (v := .agg ((h).map V8).toArray) H rfl (fun b1 w H hb1 => ?_)); replace H : Hp _ w _ ([.blk b1 ((h).map V8) 23]) := H
  refine l_op (o_box (v := .agg ([VI e.seq, VI e.tick, V64 e.serial, .string ⟨(e.tenant).toArray⟩, VI e.do_, VI e.status] ++ (e.of_).map V8).toArray) H rfl (fun b2 w H hb2 => ?_)); replace H : Hp _ w _ ([_, .blk b2 ([VI e.seq, VI e.tick, V64 e.serial, .string ⟨(e.tenant).toArray⟩, VI e.do_, VI e.status] ++ (e.of_).map V8) 55]) := H
  refine l_op (o_alloc H zc23 (fun b3 w H hb3 => ?_)); replace H : Hp _ w _ ([_, _, .blk b3 ((List.replicate 32 (0 : UInt8)).map V8) 23]) := H
  refine l_op (o_val r_as ?_); first | refine l_end ?_ | refine l_nil ?_
  repeat refine c_seq ?_
  refine c_region ?_; refine l_op (o_val (r_ldA (C := [VI e.seq, VI e.tick, V64 e.serial, .string ⟨(e.tenant).toArray⟩, VI e.do_, VI e.status] ++ (e.of_).map V8) H (i := 1) rfl rfl rt55 (by rw [List.length_append, List.length_map, (show (e.of_).length = 32 from he)]; rfl)) ?_); have hk4 : (mayE e) = true := hm
  refine l_op (o_callR Tryz.func65 rfl rfl rfl (aBytes_ok _ e (show (e.of_).length = 32 from he) hb hk4) ?_); rintro _ w ⟨a5, n6, c7, rfl, hn8, Hc⟩
  replace H : Hp _ w _ ([_, _, _, .own a5 n6 c7 ((entB e).map V8) 5 1]) := H.call Hc
  clear Hc
  refine l_op (o_val r_mv ?_); refine l_op (o_val (r_ext rfl rfl) ?_); refine l_op (o_val (r_ext rfl rfl) ?_); refine l_op (o_val r_as ?_); refine l_op (o_val r_as ?_); first | refine l_end ?_ | refine l_nil ?_
  repeat refine c_seq ?_
  refine c_region ?_; refine l_op (o_val r_mv ?_); refine l_op (o_val (r_bin (a := 0) (b := 0) rfl rfl (fun _ => b_neqB false (decide_eq_false (by decide)))) ?_); first | refine l_end ?_ | refine l_nil ?_
  repeat refine c_seq ?_
  refine c_no rfl ?_; refine c_skip ?_; repeat refine c_seq ?_
  refine c_region ?_; refine l_op (o_val (r_slA (h := 32) (m := 32) (lv := none) (hv := none) (mv := none) rfl ar23 rfl rfl rfl (fun w => sbn w)) ?_); refine l_op (o_val r_mv ?_); refine l_op (o_bslV ([(⟨some ⟨b1, 0, none⟩, 32, 32, h⟩ : Sl).v, .slice (hd a5) n6 c7]) H sl58 zc24 rfl (by simp [Value.oneCell', Sl.v]) rfl (by decide) (fun b9 w H hb9 => ?_)); replace H : Hp _ w _ ([_, _, _, _, .own (some b9) 2 2 ([(⟨some ⟨b1, 0, none⟩, 32, 32, h⟩ : Sl).v, .slice (hd a5) n6 c7]) 24 1]) := H
  refine l_op (o_callR Tryz.func66 rfl rfl rfl (sha2_ret _ _ (⟨some ⟨b1, 0, none⟩, 32, 32, h⟩ : Sl) (⟨hd a5, n6, c7, entB e⟩) (H.own (i := 4) rfl) (H.slBlkA (i := 0) rfl 32 (show (h).length = 32 from hh) (by decide)) (H.slOwn (i := 3) rfl)) ?_); rintro _ w ⟨rfl, Hc⟩
  replace H : Hp _ w _ ([_, _, _, _, _]) := H.call Hc
  clear Hc
  refine l_op (o_stA (l' := sha256 (h ++ (entB e))) H (i := 2) rfl rfl rfl cs23 (show (List.replicate 32 (0 : UInt8)).length = 32 from (List.length_replicate ..)) (show (sha256 (h ++ (entB e))).length = 32 from sha256_len _) (fun w H => ?_)); replace H : Hp _ w _ ([_, _, .blk b3 ((sha256 (h ++ (entB e))).map V8) 23, _, _]) := H
  refine l_op (o_val r_as ?_); first | refine l_end ?_ | refine l_nil ?_
  refine c_ret ?_; try dsimp only [Exit.then, Exit.inBlock]
  refine e_retN (vs := [.agg ((sha256 (h ++ (entB e))).map V8).toArray, VI 0]) _ Tryz.results22 rfl (H.resA (l := sha256 (h ++ (entB e))) (i := 2) rfl rfl rt23 (show (sha256 (h ++ (entB e))).length = 32 from sha256_len _) (resT (v := VI 0) rfl (resZ))) ?_
  refine ⟨_, rfl, ?_⟩
  exact ⟨rfl, H.sub (List.nil_sublist _)⟩
end Go.Proofs.YtiepekfcegdkoaaGreatDoor
namespace Go.Proofs.YtiepekfcegdkoaaGreatDoor
open Go
set_option maxRecDepth 100000
/-- 32 zeros. -/
def zId : Id32 := ⟨List.replicate 32 0, List.length_replicate⟩
structure Bl where
  of : Id32
  data : Sl
structure Mf where
  root : Id32
  time : Int
  label : List UInt8
deriving DecidableEq
structure Sn where
  number : Int
  mf : Mf
  doom : Int
structure Dm where
  of : Id32
  doom : Int
deriving DecidableEq
structure Tn where
  name : List UInt8
  key : Id32
  quota : Int
  next : Int
  blobs : Gl Bl
  snaps : Gl Sn
  doomed : Gl Dm
def tnE (x : Tn) : List Value := ([.string ⟨(x.name).toArray⟩] : List Value) ++ ((x.key.1).map V8 ++ (([VI x.quota, VI x.next, x.blobs.v, x.snaps.v, x.doomed.v] : List Value)))
theorem tnE_len (x : Tn) : (tnE x).length = 38 := by
  show (([.string ⟨(x.name).toArray⟩] : List Value) ++ ((x.key.1).map V8 ++ (([VI x.quota, VI x.next, x.blobs.v, x.snaps.v, x.doomed.v] : List Value)))).length = 38
  exact (by simp only [List.length_append, List.length_map, List.length_cons, List.length_nil, (show (x.key.1).length = 32 from x.key.2)])
theorem tnE_all (x : Tn) : (tnE x).all (·.oneCell') = true := by
  show (([.string ⟨(x.name).toArray⟩] : List Value) ++ ((x.key.1).map V8 ++ (([VI x.quota, VI x.next, x.blobs.v, x.snaps.v, x.doomed.v] : List Value)))).all (·.oneCell') = true
  simp only [List.all_append, List.all_cons, List.all_nil, List.all_map]; simp [Value.oneCell', Function.comp_def, Gl.v]
theorem tnE_c0 (x : Tn) : Cut3 (tnE x) (([] : List Value)) (([.string ⟨(x.name).toArray⟩] : List Value)) ((x.key.1).map V8 ++ (([VI x.quota, VI x.next, x.blobs.v, x.snaps.v, x.doomed.v] : List Value))) 0 1 :=
  ⟨by simp only [tnE, List.cons_append, List.nil_append], (by rfl), (by rfl)⟩
theorem tnE_p0 (x : Tn) (v : List UInt8) : Put3 (tnE x) (tnE ⟨v, x.key, x.quota, x.next, x.blobs, x.snaps, x.doomed⟩) (([.string ⟨(x.name).toArray⟩] : List Value)) (([.string ⟨(v).toArray⟩] : List Value)) 0 1 :=
  .of (tnE_c0 x) (by simp only [tnE, List.cons_append, List.nil_append]) (by rfl)
theorem tnE_c1 (x : Tn) : Cut3 (tnE x) (([.string ⟨(x.name).toArray⟩] : List Value)) ((x.key.1).map V8) (([VI x.quota, VI x.next, x.blobs.v, x.snaps.v, x.doomed.v] : List Value)) 1 32 :=
  ⟨by simp only [tnE, List.cons_append, List.nil_append], (by rfl), (by simp only [List.length_map, (show (x.key.1).length = 32 from x.key.2)])⟩
theorem tnE_p1 (x : Tn) (v : Id32) : Put3 (tnE x) (tnE ⟨x.name, v, x.quota, x.next, x.blobs, x.snaps, x.doomed⟩) ((x.key.1).map V8) ((v.1).map V8) 1 32 :=
  .of (tnE_c1 x) (by simp only [tnE, List.cons_append, List.nil_append]) (by simp only [List.length_map, (show (v.1).length = 32 from v.2)])
structure Sta where
  root : Id32
  delay : Int
  serial : UInt64
  tenants : Gl Tn
  revoked : Gl UInt64
  log : Gl Ent
  head : Id32
def staE (x : Sta) : List Value := (x.root.1).map V8 ++ (([VI x.delay, V64 x.serial, x.tenants.v, x.revoked.v, x.log.v] : List Value) ++ ((x.head.1).map V8))
theorem staE_len (x : Sta) : (staE x).length = 69 := by
  show ((x.root.1).map V8 ++ (([VI x.delay, V64 x.serial, x.tenants.v, x.revoked.v, x.log.v] : List Value) ++ ((x.head.1).map V8))).length = 69
  exact (by simp only [List.length_append, List.length_map, List.length_cons, List.length_nil, (show (x.root.1).length = 32 from x.root.2), (show (x.head.1).length = 32 from x.head.2)])
theorem staE_all (x : Sta) : (staE x).all (·.oneCell') = true := by
  show ((x.root.1).map V8 ++ (([VI x.delay, V64 x.serial, x.tenants.v, x.revoked.v, x.log.v] : List Value) ++ ((x.head.1).map V8))).all (·.oneCell') = true
  simp only [List.all_append, List.all_cons, List.all_nil, List.all_map]; simp [Value.oneCell', Function.comp_def, Gl.v]
theorem staE_c0 (x : Sta) : Cut3 (staE x) (([] : List Value)) ((x.root.1).map V8) (([VI x.delay, V64 x.serial, x.tenants.v, x.revoked.v, x.log.v] : List Value) ++ ((x.head.1).map V8)) 0 32 :=
  ⟨by simp only [staE, List.cons_append, List.nil_append], (by rfl), (by simp only [List.length_map, (show (x.root.1).length = 32 from x.root.2)])⟩
theorem staE_p0 (x : Sta) (v : Id32) : Put3 (staE x) (staE ⟨v, x.delay, x.serial, x.tenants, x.revoked, x.log, x.head⟩) ((x.root.1).map V8) ((v.1).map V8) 0 32 :=
  .of (staE_c0 x) (by simp only [staE, List.cons_append, List.nil_append]) (by simp only [List.length_map, (show (v.1).length = 32 from v.2)])
theorem staE_c1 (x : Sta) : Cut3 (staE x) ((x.root.1).map V8) (([VI x.delay] : List Value)) (([V64 x.serial, x.tenants.v, x.revoked.v, x.log.v] : List Value) ++ ((x.head.1).map V8)) 32 1 :=
  ⟨by simp only [staE, List.cons_append, List.nil_append], (by simp only [List.length_map, (show (x.root.1).length = 32 from x.root.2)]), (by rfl)⟩
theorem staE_p1 (x : Sta) (v : Int) : Put3 (staE x) (staE ⟨x.root, v, x.serial, x.tenants, x.revoked, x.log, x.head⟩) (([VI x.delay] : List Value)) (([VI v] : List Value)) 32 1 :=
  .of (staE_c1 x) (by simp only [staE, List.cons_append, List.nil_append]) (by rfl)
theorem staE_c3 (x : Sta) : Cut3 (staE x) ((x.root.1).map V8 ++ (([VI x.delay, V64 x.serial] : List Value))) (([x.tenants.v] : List Value)) (([x.revoked.v, x.log.v] : List Value) ++ ((x.head.1).map V8)) 34 1 :=
  ⟨by simp only [staE, List.append_assoc, List.cons_append, List.nil_append], (by simp only [List.length_append, List.length_map, List.length_cons, List.length_nil, (show (x.root.1).length = 32 from x.root.2)]), (by rfl)⟩
theorem staE_p3 (x : Sta) (v : Gl Tn) : Put3 (staE x) (staE ⟨x.root, x.delay, x.serial, v, x.revoked, x.log, x.head⟩) (([x.tenants.v] : List Value)) (([v.v] : List Value)) 34 1 :=
  .of (staE_c3 x) (by simp only [staE, List.append_assoc, List.cons_append, List.nil_append]) (by rfl)
theorem staE_c4 (x : Sta) : Cut3 (staE x) ((x.root.1).map V8 ++ (([VI x.delay, V64 x.serial, x.tenants.v] : List Value))) (([x.revoked.v] : List Value)) (([x.log.v] : List Value) ++ ((x.head.1).map V8)) 35 1 :=
  ⟨by simp only [staE, List.append_assoc, List.cons_append, List.nil_append], (by simp only [List.length_append, List.length_map, List.length_cons, List.length_nil, (show (x.root.1).length = 32 from x.root.2)]), (by rfl)⟩
theorem staE_p4 (x : Sta) (v : Gl UInt64) : Put3 (staE x) (staE ⟨x.root, x.delay, x.serial, x.tenants, v, x.log, x.head⟩) (([x.revoked.v] : List Value)) (([v.v] : List Value)) 35 1 :=
  .of (staE_c4 x) (by simp only [staE, List.append_assoc, List.cons_append, List.nil_append]) (by rfl)
theorem staE_c5 (x : Sta) : Cut3 (staE x) ((x.root.1).map V8 ++ (([VI x.delay, V64 x.serial, x.tenants.v, x.revoked.v] : List Value))) (([x.log.v] : List Value)) ((x.head.1).map V8) 36 1 :=
  ⟨by simp only [staE, List.append_assoc, List.cons_append, List.nil_append], (by simp only [List.length_append, List.length_map, List.length_cons, List.length_nil, (show (x.root.1).length = 32 from x.root.2)]), (by rfl)⟩
theorem staE_p5 (x : Sta) (v : Gl Ent) : Put3 (staE x) (staE ⟨x.root, x.delay, x.serial, x.tenants, x.revoked, v, x.head⟩) (([x.log.v] : List Value)) (([v.v] : List Value)) 36 1 :=
  .of (staE_c5 x) (by simp only [staE, List.append_assoc, List.cons_append, List.nil_append]) (by rfl)
theorem staE_c6 (x : Sta) : Cut3 (staE x) ((x.root.1).map V8 ++ (([VI x.delay, V64 x.serial, x.tenants.v, x.revoked.v, x.log.v] : List Value))) ((x.head.1).map V8) (([] : List Value)) 37 32 :=
  ⟨by simp only [staE, List.append_assoc, List.cons_append, List.nil_append, List.append_nil], (by simp only [List.length_append, List.length_map, List.length_cons, List.length_nil, (show (x.root.1).length = 32 from x.root.2)]), (by simp only [List.length_map, (show (x.head.1).length = 32 from x.head.2)])⟩
theorem staE_p6 (x : Sta) (v : Id32) : Put3 (staE x) (staE ⟨x.root, x.delay, x.serial, x.tenants, x.revoked, x.log, v⟩) ((x.head.1).map V8) ((v.1).map V8) 37 32 :=
  .of (staE_c6 x) (by simp only [staE, List.append_assoc, List.cons_append, List.nil_append, List.append_nil]) (by simp only [List.length_map, (show (v.1).length = 32 from v.2)])
end Go.Proofs.YtiepekfcegdkoaaGreatDoor
namespace Go.Proofs.YtiepekfcegdkoaaGreatDoor
open Go
section
variable {P : Program} {Q : Exit → Act → World → Prop} {n : Nat} {σ : Nat → Value} {w w0 : World} {K : Act → World → Prop}
  {ty : TypeId} {pos : String} {aft : Array Edge} {g : Option (Nat × Bool)} {d : Nat} {t tx : TypeId} {x y : Operand} {S : List Nat} {L : List Ch}
theorem r_mx {k : IntKind} {a b c : Int} {ats : Array TypeId} (hx : ev n σ x = .int k a) (hy : ev n σ y = .int k b) (hc : (if a < b then b else a) = c) :
    (execOp (ev n σ) ⟨some d, .call ⟨.builtin .max, #[x, y], ats⟩, ty, pos, aft, g⟩).run P w = .ok (.value (.int k c)) w := by
  rw [← hc]; exact r_max hx hy
end
end Go.Proofs.YtiepekfcegdkoaaGreatDoor
namespace Go.Proofs.YtiepekfcegdkoaaGreatDoor
open Go
set_option maxRecDepth 100000
theorem Gl.ok_nil {α : Type} {enc : α → List Value} {sz : Nat} (w : World) : (⟨none, 0, 0, []⟩ : Gl α).ok enc sz w := ⟨.inl rfl, rfl, Nat.le_refl _, Nat.zero_le _, fun c hc => (by cases hc)⟩
def rMay (r : UInt8) : Bool := decide (((r &&& ~~~(15 : UInt8)).toNat : Int) = 0)
def rCov (a b : UInt8) : Bool := decide (((b &&& ~~~a).toNat : Int) = 0)
def nm1 (c : UInt8) : Bool := (decide (97 ≤ c.toNat) && decide (c.toNat ≤ 122)) || (decide (48 ≤ c.toNat) && decide (c.toNat ≤ 57)) || decide (c.toNat = 45)
theorem nm1_iff (c : UInt8) : nm1 c = true ↔ (97 ≤ c.toNat ∧ c.toNat ≤ 122) ∨ (48 ≤ c.toNat ∧ c.toNat ≤ 57) ∨ c.toNat = 45 := by simp [nm1, or_assoc]
/-- may these bytes be a tenant's name? -/
def nameMay (l : List UInt8) : Bool := decide (1 ≤ l.length) && decide (l.length ≤ 16) && decide (97 ≤ (l.getD 0 0).toNat) && decide ((l.getD 0 0).toNat ≤ 122) && l.all nm1
theorem nameMay_iff (l : List UInt8) : nameMay l = true ↔ 1 ≤ l.length ∧ l.length ≤ 16 ∧ 97 ≤ (l.getD 0 0).toNat ∧ (l.getD 0 0).toNat ≤ 122 ∧ ∀ i, i < l.length → nm1 (l.getD i 0) = true := by
  simp only [nameMay, Bool.and_eq_true, decide_eq_true_eq, List.all_eq_true, and_assoc]
  refine ⟨fun ⟨h1, h2, h3, h4, h5⟩ => ⟨h1, h2, h3, h4, fun i hi => h5 _ ?_⟩, fun ⟨h1, h2, h3, h4, h5⟩ => ⟨h1, h2, h3, h4, fun c hc => ?_⟩⟩
  · rw [List.getD_eq_getElem?_getD, List.getElem?_eq_getElem hi]; exact List.getElem_mem hi
  · obtain ⟨i, hi, rfl⟩ := List.getElem_of_mem hc
    have := h5 i hi
    rwa [List.getD_eq_getElem?_getD, List.getElem?_eq_getElem hi] at this
theorem rmay_ret (w0 : World) (r : UInt8) :
    Ret Tryz.prog 39 [V8 r] w0 fun v w' => v = .bool (rMay r) ∧ w' = w0 := by
  refine ret_mk Tryz.func39 rfl Tryz.ntmps39 (by simp) ?_
  have H := Hp.refl w0 []
  repeat refine c_seq ?_
  refine c_region ?_; refine l_op (o_val r_as ?_); first | refine l_end ?_ | refine l_nil ?_
  repeat refine c_seq ?_
  refine c_region ?_; refine l_op (o_val r_mv ?_); refine l_op (o_val (r_bin rfl (c8 15 (by decide)) (fun _ => b_andNot_u8)) ?_); refine l_op (o_val (r_bin (a := ((r &&& ~~~(15 : UInt8)).toNat : Int)) (b := 0) rfl rfl (fun _ => b_eql)) ?_); refine l_op (o_val r_as ?_); first | refine l_end ?_ | refine l_nil ?_
  refine c_ret ?_; try dsimp only [Exit.then, Exit.inBlock]
  refine e_ret1 (v := .bool (decide (((r &&& ~~~(15 : UInt8)).toNat : Int) = 0))) Tryz.results39 rfl ?_
  refine ⟨_, rfl, ?_⟩
  exact ⟨rfl, rfl⟩
theorem rcov_ret (w0 : World) (a b : UInt8) :
    Ret Tryz.prog 46 [V8 a, V8 b] w0 fun v w' => v = .bool (rCov a b) ∧ w' = w0 := by
  refine ret_mk Tryz.func46 rfl Tryz.ntmps46 (by simp) ?_
  have H := Hp.refl w0 []
  repeat refine c_seq ?_
  refine c_region ?_; refine l_op (o_val r_as ?_); first | refine l_end ?_ | refine l_nil ?_
  repeat refine c_seq ?_
  refine c_region ?_; refine l_op (o_val r_mv ?_); refine l_op (o_val r_mv ?_); refine l_op (o_val (r_bin rfl rfl (fun _ => b_andNot_u8)) ?_); refine l_op (o_val (r_bin (a := ((b &&& ~~~a).toNat : Int)) (b := 0) rfl rfl (fun _ => b_eql)) ?_); refine l_op (o_val r_as ?_); first | refine l_end ?_ | refine l_nil ?_
  refine c_ret ?_; try dsimp only [Exit.then, Exit.inBlock]
  refine e_ret1 (v := .bool (decide (((b &&& ~~~a).toNat : Int) = 0))) Tryz.results46 rfl ?_
  refine ⟨_, rfl, ?_⟩
  exact ⟨rfl, rfl⟩
theorem rmeet_ret (w0 : World) (a b : UInt8) :
    Ret Tryz.prog 81 [V8 a, V8 b] w0 fun v w' => v = V8 (a &&& b) ∧ w' = w0 := by
  refine ret_mk Tryz.func81 rfl Tryz.ntmps81 (by simp) ?_
  have H := Hp.refl w0 []
  repeat refine c_seq ?_
  refine c_region ?_; refine l_op (o_val (r_asV (c8 0 (by decide))) ?_); first | refine l_end ?_ | refine l_nil ?_
  repeat refine c_seq ?_
  refine c_region ?_; refine l_op (o_val r_mv ?_); refine l_op (o_val r_mv ?_); refine l_op (o_val (r_bin rfl rfl (fun _ => b_and_u8)) ?_); refine l_op (o_val r_as ?_); first | refine l_end ?_ | refine l_nil ?_
  refine c_ret ?_; try dsimp only [Exit.then, Exit.inBlock]
  refine e_ret1 (v := V8 (a &&& b)) Tryz.results81 rfl ?_
  refine ⟨_, rfl, ?_⟩
  exact ⟨rfl, rfl⟩
theorem nmay_ret (w0 : World) (l : List UInt8) (hl : l.length ≤ 1099511627776) :
    Ret Tryz.prog 40 [.string ⟨(l).toArray⟩] w0 fun v w' => v = .bool (nameMay l) ∧ Hp w0 w' [] [] := by
  refine ret_mk Tryz.func40 rfl Tryz.ntmps40 (by simp) ?_
  have H := Hp.refl w0 []
  repeat refine c_seq ?_
  refine c_region ?_; refine l_op (o_val r_as ?_); first | refine l_end ?_ | refine l_nil ?_
  repeat refine c_seq ?_
  refine c_region ?_; refine l_op (o_val r_mv ?_); refine l_op (o_val (r_lenstr (s := ⟨(l).toArray⟩) Tryz.underlying9 rfl) ?_); refine l_op (o_val (r_bin (a := ((l).length : Int)) (b := 1) rfl rfl (fun _ => b_lss)) ?_); refine l_op (o_val r_mv ?_)
  by_cases hc1 : ((l).length : Int) < 1
  ·
   refine l_no rfl rfl (by exact congrArg Value.bool (decide_eq_true hc1)) rfl ?_; refine l_no rfl rfl (by exact congrArg Value.bool (decide_eq_true hc1)) rfl ?_; refine l_no rfl rfl (by exact congrArg Value.bool (decide_eq_true hc1)) rfl ?_; refine l_op (o_val (r_pick (b := true) (congrArg Value.bool (decide_eq_true hc1))) ?_); refine l_op (o_val r_mv ?_); refine l_no rfl rfl rfl rfl ?_; refine l_no rfl rfl rfl rfl ?_; refine l_no rfl rfl rfl rfl ?_; refine l_op (o_val (r_pick rfl) ?_); refine l_op (o_val r_mv ?_); refine l_no rfl rfl rfl rfl ?_; refine l_no rfl rfl rfl rfl ?_; refine l_no rfl rfl rfl rfl ?_; refine l_op (o_val (r_pick rfl) ?_); first | refine l_end ?_ | refine l_nil ?_
   repeat refine c_seq ?_
   refine c_yes rfl ?_; repeat refine c_seq ?_
   refine c_region ?_; refine l_op (o_val r_as ?_); first | refine l_end ?_ | refine l_nil ?_
   refine c_ret ?_; try dsimp only [Exit.then, Exit.inBlock]
   refine e_ret1 (v := .bool false) Tryz.results40 rfl ?_
   refine ⟨_, rfl, ?_⟩
   refine ⟨?_, H⟩
   have e : nameMay l = false := Bool.eq_false_iff.2 fun h => by
     have h2 := (nameMay_iff l).1 h
     exact absurd h2 (by omega)
   rw [e]
  ·
   refine l_yes rfl rfl (by exact congrArg Value.bool (decide_eq_false hc1)) (o_val r_mv ?_); refine l_yes rfl rfl (by exact congrArg Value.bool (decide_eq_false hc1)) (o_val (r_lenstr (s := ⟨(l).toArray⟩) Tryz.underlying9 rfl) ?_); refine l_yes rfl rfl (by exact congrArg Value.bool (decide_eq_false hc1)) (o_val (r_bin (a := ((l).length : Int)) (b := 16) rfl rfl (fun _ => b_gtr)) ?_); refine l_op (o_val (r_pick (b := false) (congrArg Value.bool (decide_eq_false hc1))) ?_); refine l_op (o_val r_mv ?_)
   by_cases hc2 : 16 < ((l).length : Int)
   ·
    refine l_no rfl rfl (by exact congrArg Value.bool (decide_eq_true hc2)) rfl ?_; refine l_no rfl rfl (by exact congrArg Value.bool (decide_eq_true hc2)) rfl ?_; refine l_no rfl rfl (by exact congrArg Value.bool (decide_eq_true hc2)) rfl ?_; refine l_op (o_val (r_pick (b := true) (congrArg Value.bool (decide_eq_true hc2))) ?_); refine l_op (o_val r_mv ?_); refine l_no rfl rfl rfl rfl ?_; refine l_no rfl rfl rfl rfl ?_; refine l_no rfl rfl rfl rfl ?_; refine l_op (o_val (r_pick rfl) ?_); first | refine l_end ?_ | refine l_nil ?_
    repeat refine c_seq ?_
    refine c_yes rfl ?_; repeat refine c_seq ?_
    refine c_region ?_; refine l_op (o_val r_as ?_); first | refine l_end ?_ | refine l_nil ?_
    refine c_ret ?_; try dsimp only [Exit.then, Exit.inBlock]
    refine e_ret1 (v := .bool false) Tryz.results40 rfl ?_
    refine ⟨_, rfl, ?_⟩
    refine ⟨?_, H⟩
    have e : nameMay l = false := Bool.eq_false_iff.2 fun h => by
      have h2 := (nameMay_iff l).1 h
      exact absurd h2 (by omega)
    rw [e]
   ·
    refine l_yes rfl rfl (by exact congrArg Value.bool (decide_eq_false hc2)) (o_val r_mv ?_); refine l_yes rfl rfl (by exact congrArg Value.bool (decide_eq_false hc2)) (o_val (r_idxS (l := l) 0 Tryz.underlying9 rfl rfl (by omega) (by omega)) ?_); refine l_yes rfl rfl (by exact congrArg Value.bool (decide_eq_false hc2)) (o_val (r_bin (a := (((l).getD 0 0).toNat : Int)) (b := 97) rfl rfl (fun _ => b_lss)) ?_); refine l_op (o_val (r_pick (b := false) (congrArg Value.bool (decide_eq_false hc2))) ?_); refine l_op (o_val r_mv ?_)
    by_cases hc3 : (((l).getD 0 0).toNat : Int) < 97
    ·
     refine l_no rfl rfl (by exact congrArg Value.bool (decide_eq_true hc3)) rfl ?_; refine l_no rfl rfl (by exact congrArg Value.bool (decide_eq_true hc3)) rfl ?_; refine l_no rfl rfl (by exact congrArg Value.bool (decide_eq_true hc3)) rfl ?_; refine l_op (o_val (r_pick (b := true) (congrArg Value.bool (decide_eq_true hc3))) ?_); first | refine l_end ?_ | refine l_nil ?_
     repeat refine c_seq ?_
     refine c_yes rfl ?_; repeat refine c_seq ?_
     refine c_region ?_; refine l_op (o_val r_as ?_); first | refine l_end ?_ | refine l_nil ?_
     refine c_ret ?_; try dsimp only [Exit.then, Exit.inBlock]
     refine e_ret1 (v := .bool false) Tryz.results40 rfl ?_
     refine ⟨_, rfl, ?_⟩
     refine ⟨?_, H⟩
     have e : nameMay l = false := Bool.eq_false_iff.2 fun h => by
       have h2 := (nameMay_iff l).1 h
       exact absurd h2 (by omega)
     rw [e]
    ·
     refine l_yes rfl rfl (by exact congrArg Value.bool (decide_eq_false hc3)) (o_val r_mv ?_); refine l_yes rfl rfl (by exact congrArg Value.bool (decide_eq_false hc3)) (o_val (r_idxS (l := l) 0 Tryz.underlying9 rfl rfl (by omega) (by omega)) ?_); refine l_yes rfl rfl (by exact congrArg Value.bool (decide_eq_false hc3)) (o_val (r_bin (a := (((l).getD 0 0).toNat : Int)) (b := 122) rfl rfl (fun _ => b_gtr)) ?_); refine l_op (o_val (r_pick (b := false) (congrArg Value.bool (decide_eq_false hc3))) ?_); first | refine l_end ?_ | refine l_nil ?_
     by_cases hc4 : 122 < (((l).getD 0 0).toNat : Int)
     ·
      repeat refine c_seq ?_
      refine c_yes (by exact congrArg Value.bool (decide_eq_true hc4)) ?_; repeat refine c_seq ?_
      refine c_region ?_; refine l_op (o_val r_as ?_); first | refine l_end ?_ | refine l_nil ?_
      refine c_ret ?_; try dsimp only [Exit.then, Exit.inBlock]
      refine e_ret1 (v := .bool false) Tryz.results40 rfl ?_
      refine ⟨_, rfl, ?_⟩
      refine ⟨?_, H⟩
      have e : nameMay l = false := Bool.eq_false_iff.2 fun h => by
        have h2 := (nameMay_iff l).1 h
        exact absurd h2 (by omega)
      rw [e]
     ·
      repeat refine c_seq ?_
      refine c_no (by exact congrArg Value.bool (decide_eq_false hc4)) ?_; refine c_skip ?_; repeat refine c_seq ?_
      refine c_region ?_; refine l_op (o_val r_mv ?_); refine l_op (o_val (r_lenstr (s := ⟨(l).toArray⟩) Tryz.underlying9 rfl) ?_); refine l_op (o_val r_mv ?_); first | refine l_end ?_ | refine l_nil ?_
      repeat refine c_seq ?_
      refine c_block ?_; repeat refine c_seq ?_
      refine c_loop (fun (i : Nat) => [(0, .string ⟨(l).toArray⟩), (24, VI ((l).length : Int)), (25, VI (i : Int))])
        (fun (i : Nat) w => (i ≤ l.length ∧ ∀ j, j < i → nm1 (l.getD j 0) = true) ∧ Hp w0 w [] ([]))
        (fun (i : Nat) => l.length - i) 0 ⟨rfl, rfl, rfl, trivial⟩ ⟨⟨Nat.zero_le _, fun j hj => absurd hj (by omega)⟩, H⟩ ?_
      clear H
      rintro i τ w ⟨⟨hi, hall⟩, H⟩
      repeat refine c_seq ?_
      refine c_region ?_; refine l_op (o_val (r_bin (a := (i : Int)) (b := ((l).length : Int)) rfl rfl (fun _ => b_lss)) ?_); first | refine l_end ?_ | refine l_nil ?_
      by_cases hc5 : (i : Int) < ((l).length : Int)
      ·
       repeat refine c_seq ?_
       refine c_yes (by exact congrArg Value.bool (decide_eq_true hc5)) ?_; refine c_skip ?_; repeat refine c_seq ?_
       refine c_block ?_; repeat refine c_seq ?_
       refine c_region ?_; refine l_op (o_val r_mv ?_); refine l_op (o_val r_as ?_); first | refine l_end ?_ | refine l_nil ?_
       repeat refine c_seq ?_
       refine c_region ?_; refine l_op (o_val r_mv ?_); refine l_op (o_val r_mv ?_); refine l_op (o_val (r_idxS (l := l) i Tryz.underlying9 rfl rfl (by omega) (by omega)) ?_); refine l_op (o_val r_as ?_); first | refine l_end ?_ | refine l_nil ?_
       repeat refine c_seq ?_
       refine c_block ?_; repeat refine c_seq ?_
       refine c_region ?_; refine l_op (o_val r_mv ?_); refine l_op (o_val (r_bin (a := (((l).getD i 0).toNat : Int)) (b := 97) rfl rfl (fun _ => b_geq)) ?_); refine l_op (o_val r_mv ?_)
       by_cases hc6 : 97 ≤ (((l).getD i 0).toNat : Int)
       ·
        refine l_yes rfl rfl (by exact congrArg Value.bool (decide_eq_true hc6)) (o_val r_mv ?_); refine l_yes rfl rfl (by exact congrArg Value.bool (decide_eq_true hc6)) (o_val (r_bin (a := (((l).getD i 0).toNat : Int)) (b := 122) rfl rfl (fun _ => b_leq)) ?_); refine l_op (o_val (r_pick (b := true) (congrArg Value.bool (decide_eq_true hc6))) ?_); refine l_op (o_val r_as ?_); first | refine l_end ?_ | refine l_nil ?_
        by_cases hc7 : (((l).getD i 0).toNat : Int) ≤ 122
        ·
         repeat refine c_seq ?_
         refine c_yes (by exact congrArg Value.bool (decide_eq_true hc7)) ?_; refine c_skip ?_; repeat refine c_seq ?_
         refine c_yes (by exact congrArg Value.bool (decide_eq_true hc7)) ?_; refine c_skip ?_; repeat refine c_seq ?_
         refine c_region ?_; refine l_op (o_val (r_bin (a := (i : Int)) (b := 1) rfl rfl (fun _ => b_add (by omega) (by omega))) ?_); refine l_op (o_val r_mv ?_); first | refine l_end ?_ | refine l_nil ?_
         refine round_end (i + 1) ?_ ?_ ?_
         · exact ⟨rfl, rfl, show VI ((i : Int) + 1) = VI ((i + 1 : Nat) : Int) from congrArg VI (by omega), trivial⟩
         · refine ⟨?_, ?_⟩
           · try dsimp only
             exact ⟨by omega, fun j hj => by
               by_cases hji : j < i
               · exact hall j hji
               · have e : j = i := by omega
                 rw [e]; exact (nm1_iff _).2 (by omega)⟩
           · exact H
         · show l.length - (i + 1 : Nat) < l.length - i; omega
        ·
         repeat refine c_seq ?_
         refine c_no (by exact congrArg Value.bool (decide_eq_false hc7)) ?_; repeat refine c_seq ?_
         refine c_region ?_; refine l_op (o_val r_mv ?_); refine l_op (o_val (r_bin (a := (((l).getD i 0).toNat : Int)) (b := 48) rfl rfl (fun _ => b_geq)) ?_); refine l_op (o_val r_mv ?_)
         by_cases hc8 : 48 ≤ (((l).getD i 0).toNat : Int)
         ·
          refine l_yes rfl rfl (by exact congrArg Value.bool (decide_eq_true hc8)) (o_val r_mv ?_); refine l_yes rfl rfl (by exact congrArg Value.bool (decide_eq_true hc8)) (o_val (r_bin (a := (((l).getD i 0).toNat : Int)) (b := 57) rfl rfl (fun _ => b_leq)) ?_); refine l_op (o_val (r_pick (b := true) (congrArg Value.bool (decide_eq_true hc8))) ?_); refine l_op (o_val r_as ?_); first | refine l_end ?_ | refine l_nil ?_
          by_cases hc9 : (((l).getD i 0).toNat : Int) ≤ 57
          ·
           repeat refine c_seq ?_
           refine c_yes (by exact congrArg Value.bool (decide_eq_true hc9)) ?_; refine c_skip ?_; repeat refine c_seq ?_
           refine c_yes (by exact congrArg Value.bool (decide_eq_true hc9)) ?_; refine c_skip ?_; repeat refine c_seq ?_
           refine c_region ?_; refine l_op (o_val (r_bin (a := (i : Int)) (b := 1) rfl rfl (fun _ => b_add (by omega) (by omega))) ?_); refine l_op (o_val r_mv ?_); first | refine l_end ?_ | refine l_nil ?_
           refine round_end (i + 1) ?_ ?_ ?_
           · exact ⟨rfl, rfl, show VI ((i : Int) + 1) = VI ((i + 1 : Nat) : Int) from congrArg VI (by omega), trivial⟩
           · refine ⟨?_, ?_⟩
             · try dsimp only
               exact ⟨by omega, fun j hj => by
                 by_cases hji : j < i
                 · exact hall j hji
                 · have e : j = i := by omega
                   rw [e]; exact (nm1_iff _).2 (by omega)⟩
             · exact H
           · show l.length - (i + 1 : Nat) < l.length - i; omega
          ·
           repeat refine c_seq ?_
           refine c_no (by exact congrArg Value.bool (decide_eq_false hc9)) ?_; repeat refine c_seq ?_
           refine c_region ?_; refine l_op (o_val r_mv ?_); refine l_op (o_val (r_bin (a := (((l).getD i 0).toNat : Int)) (b := 45) rfl rfl (fun _ => b_eql)) ?_); refine l_op (o_val r_as ?_); first | refine l_end ?_ | refine l_nil ?_
           by_cases hc10 : (((l).getD i 0).toNat : Int) = 45
           ·
            repeat refine c_seq ?_
            refine c_yes (by exact congrArg Value.bool (decide_eq_true hc10)) ?_; refine c_skip ?_; repeat refine c_seq ?_
            refine c_region ?_; refine l_op (o_val (r_bin (a := (i : Int)) (b := 1) rfl rfl (fun _ => b_add (by omega) (by omega))) ?_); refine l_op (o_val r_mv ?_); first | refine l_end ?_ | refine l_nil ?_
            refine round_end (i + 1) ?_ ?_ ?_
            · exact ⟨rfl, rfl, show VI ((i : Int) + 1) = VI ((i + 1 : Nat) : Int) from congrArg VI (by omega), trivial⟩
            · refine ⟨?_, ?_⟩
              · try dsimp only
                exact ⟨by omega, fun j hj => by
                  by_cases hji : j < i
                  · exact hall j hji
                  · have e : j = i := by omega
                    rw [e]; exact (nm1_iff _).2 (by omega)⟩
              · exact H
            · show l.length - (i + 1 : Nat) < l.length - i; omega
           ·
            repeat refine c_seq ?_
            refine c_no (by exact congrArg Value.bool (decide_eq_false hc10)) ?_; repeat refine c_seq ?_
            refine c_region ?_; refine l_op (o_val r_as ?_); first | refine l_end ?_ | refine l_nil ?_
            refine c_ret ?_; try dsimp only [Exit.then, Exit.inBlock]
            refine e_ret1 (v := .bool false) Tryz.results40 rfl ?_
            refine ⟨_, rfl, ?_⟩
            refine ⟨?_, H⟩
            have e : nameMay l = false := Bool.eq_false_iff.2 fun h => by
              have h2 := (nameMay_iff l).1 h
              have h3 := (nm1_iff _).1 (h2.2.2.2.2 i (by omega))
              exact absurd h2 (by omega)
            rw [e]
         ·
          refine l_no rfl rfl (by exact congrArg Value.bool (decide_eq_false hc8)) rfl ?_; refine l_no rfl rfl (by exact congrArg Value.bool (decide_eq_false hc8)) rfl ?_; refine l_op (o_val (r_pick (b := false) (congrArg Value.bool (decide_eq_false hc8))) ?_); refine l_op (o_val r_as ?_); first | refine l_end ?_ | refine l_nil ?_
          repeat refine c_seq ?_
          refine c_no rfl ?_; repeat refine c_seq ?_
          refine c_region ?_; refine l_op (o_val r_mv ?_); refine l_op (o_val (r_bin (a := (((l).getD i 0).toNat : Int)) (b := 45) rfl rfl (fun _ => b_eql)) ?_); refine l_op (o_val r_as ?_); first | refine l_end ?_ | refine l_nil ?_
          by_cases hc11 : (((l).getD i 0).toNat : Int) = 45
          ·
           repeat refine c_seq ?_
           refine c_yes (by exact congrArg Value.bool (decide_eq_true hc11)) ?_; refine c_skip ?_; repeat refine c_seq ?_
           refine c_region ?_; refine l_op (o_val (r_bin (a := (i : Int)) (b := 1) rfl rfl (fun _ => b_add (by omega) (by omega))) ?_); refine l_op (o_val r_mv ?_); first | refine l_end ?_ | refine l_nil ?_
           refine round_end (i + 1) ?_ ?_ ?_
           · exact ⟨rfl, rfl, show VI ((i : Int) + 1) = VI ((i + 1 : Nat) : Int) from congrArg VI (by omega), trivial⟩
           · refine ⟨?_, ?_⟩
             · try dsimp only
               exact ⟨by omega, fun j hj => by
                 by_cases hji : j < i
                 · exact hall j hji
                 · have e : j = i := by omega
                   rw [e]; exact (nm1_iff _).2 (by omega)⟩
             · exact H
           · show l.length - (i + 1 : Nat) < l.length - i; omega
          ·
           repeat refine c_seq ?_
           refine c_no (by exact congrArg Value.bool (decide_eq_false hc11)) ?_; repeat refine c_seq ?_
           refine c_region ?_; refine l_op (o_val r_as ?_); first | refine l_end ?_ | refine l_nil ?_
           refine c_ret ?_; try dsimp only [Exit.then, Exit.inBlock]
           refine e_ret1 (v := .bool false) Tryz.results40 rfl ?_
           refine ⟨_, rfl, ?_⟩
           refine ⟨?_, H⟩
           have e : nameMay l = false := Bool.eq_false_iff.2 fun h => by
             have h2 := (nameMay_iff l).1 h
             have h3 := (nm1_iff _).1 (h2.2.2.2.2 i (by omega))
             exact absurd h2 (by omega)
           rw [e]
       ·
        refine l_no rfl rfl (by exact congrArg Value.bool (decide_eq_false hc6)) rfl ?_; refine l_no rfl rfl (by exact congrArg Value.bool (decide_eq_false hc6)) rfl ?_; refine l_op (o_val (r_pick (b := false) (congrArg Value.bool (decide_eq_false hc6))) ?_); refine l_op (o_val r_as ?_); first | refine l_end ?_ | refine l_nil ?_
        repeat refine c_seq ?_
        refine c_no rfl ?_; repeat refine c_seq ?_
        refine c_region ?_; refine l_op (o_val r_mv ?_); refine l_op (o_val (r_bin (a := (((l).getD i 0).toNat : Int)) (b := 48) rfl rfl (fun _ => b_geq)) ?_); refine l_op (o_val r_mv ?_)
        by_cases hc12 : 48 ≤ (((l).getD i 0).toNat : Int)
        ·
         refine l_yes rfl rfl (by exact congrArg Value.bool (decide_eq_true hc12)) (o_val r_mv ?_); refine l_yes rfl rfl (by exact congrArg Value.bool (decide_eq_true hc12)) (o_val (r_bin (a := (((l).getD i 0).toNat : Int)) (b := 57) rfl rfl (fun _ => b_leq)) ?_); refine l_op (o_val (r_pick (b := true) (congrArg Value.bool (decide_eq_true hc12))) ?_); refine l_op (o_val r_as ?_); first | refine l_end ?_ | refine l_nil ?_
         by_cases hc13 : (((l).getD i 0).toNat : Int) ≤ 57
         ·
          repeat refine c_seq ?_
          refine c_yes (by exact congrArg Value.bool (decide_eq_true hc13)) ?_; refine c_skip ?_; repeat refine c_seq ?_
          refine c_yes (by exact congrArg Value.bool (decide_eq_true hc13)) ?_; refine c_skip ?_; repeat refine c_seq ?_
          refine c_region ?_; refine l_op (o_val (r_bin (a := (i : Int)) (b := 1) rfl rfl (fun _ => b_add (by omega) (by omega))) ?_); refine l_op (o_val r_mv ?_); first | refine l_end ?_ | refine l_nil ?_
          refine round_end (i + 1) ?_ ?_ ?_
          · exact ⟨rfl, rfl, show VI ((i : Int) + 1) = VI ((i + 1 : Nat) : Int) from congrArg VI (by omega), trivial⟩
          · refine ⟨?_, ?_⟩
            · try dsimp only
              exact ⟨by omega, fun j hj => by
                by_cases hji : j < i
                · exact hall j hji
                · have e : j = i := by omega
                  rw [e]; exact (nm1_iff _).2 (by omega)⟩
            · exact H
          · show l.length - (i + 1 : Nat) < l.length - i; omega
         ·
          repeat refine c_seq ?_
          refine c_no (by exact congrArg Value.bool (decide_eq_false hc13)) ?_; repeat refine c_seq ?_
          refine c_region ?_; refine l_op (o_val r_mv ?_); refine l_op (o_val (r_bin (a := (((l).getD i 0).toNat : Int)) (b := 45) rfl rfl (fun _ => b_eql)) ?_); refine l_op (o_val r_as ?_); first | refine l_end ?_ | refine l_nil ?_
          by_cases hc14 : (((l).getD i 0).toNat : Int) = 45
          ·
           repeat refine c_seq ?_
           refine c_yes (by exact congrArg Value.bool (decide_eq_true hc14)) ?_; refine c_skip ?_; repeat refine c_seq ?_
           refine c_region ?_; refine l_op (o_val (r_bin (a := (i : Int)) (b := 1) rfl rfl (fun _ => b_add (by omega) (by omega))) ?_); refine l_op (o_val r_mv ?_); first | refine l_end ?_ | refine l_nil ?_
           refine round_end (i + 1) ?_ ?_ ?_
           · exact ⟨rfl, rfl, show VI ((i : Int) + 1) = VI ((i + 1 : Nat) : Int) from congrArg VI (by omega), trivial⟩
           · refine ⟨?_, ?_⟩
             · try dsimp only
               exact ⟨by omega, fun j hj => by
                 by_cases hji : j < i
                 · exact hall j hji
                 · have e : j = i := by omega
                   rw [e]; exact (nm1_iff _).2 (by omega)⟩
             · exact H
           · show l.length - (i + 1 : Nat) < l.length - i; omega
          ·
           repeat refine c_seq ?_
           refine c_no (by exact congrArg Value.bool (decide_eq_false hc14)) ?_; repeat refine c_seq ?_
           refine c_region ?_; refine l_op (o_val r_as ?_); first | refine l_end ?_ | refine l_nil ?_
           refine c_ret ?_; try dsimp only [Exit.then, Exit.inBlock]
           refine e_ret1 (v := .bool false) Tryz.results40 rfl ?_
           refine ⟨_, rfl, ?_⟩
           refine ⟨?_, H⟩
           have e : nameMay l = false := Bool.eq_false_iff.2 fun h => by
             have h2 := (nameMay_iff l).1 h
             have h3 := (nm1_iff _).1 (h2.2.2.2.2 i (by omega))
             exact absurd h2 (by omega)
           rw [e]
        ·
         refine l_no rfl rfl (by exact congrArg Value.bool (decide_eq_false hc12)) rfl ?_; refine l_no rfl rfl (by exact congrArg Value.bool (decide_eq_false hc12)) rfl ?_; refine l_op (o_val (r_pick (b := false) (congrArg Value.bool (decide_eq_false hc12))) ?_); refine l_op (o_val r_as ?_); first | refine l_end ?_ | refine l_nil ?_
         repeat refine c_seq ?_
         refine c_no rfl ?_; repeat refine c_seq ?_
         refine c_region ?_; refine l_op (o_val r_mv ?_); refine l_op (o_val (r_bin (a := (((l).getD i 0).toNat : Int)) (b := 45) rfl rfl (fun _ => b_eql)) ?_); refine l_op (o_val r_as ?_); first | refine l_end ?_ | refine l_nil ?_
         by_cases hc15 : (((l).getD i 0).toNat : Int) = 45
         ·
          repeat refine c_seq ?_
          refine c_yes (by exact congrArg Value.bool (decide_eq_true hc15)) ?_; refine c_skip ?_; repeat refine c_seq ?_
          refine c_region ?_; refine l_op (o_val (r_bin (a := (i : Int)) (b := 1) rfl rfl (fun _ => b_add (by omega) (by omega))) ?_); refine l_op (o_val r_mv ?_); first | refine l_end ?_ | refine l_nil ?_
          refine round_end (i + 1) ?_ ?_ ?_
          · exact ⟨rfl, rfl, show VI ((i : Int) + 1) = VI ((i + 1 : Nat) : Int) from congrArg VI (by omega), trivial⟩
          · refine ⟨?_, ?_⟩
            · try dsimp only
              exact ⟨by omega, fun j hj => by
                by_cases hji : j < i
                · exact hall j hji
                · have e : j = i := by omega
                  rw [e]; exact (nm1_iff _).2 (by omega)⟩
            · exact H
          · show l.length - (i + 1 : Nat) < l.length - i; omega
         ·
          repeat refine c_seq ?_
          refine c_no (by exact congrArg Value.bool (decide_eq_false hc15)) ?_; repeat refine c_seq ?_
          refine c_region ?_; refine l_op (o_val r_as ?_); first | refine l_end ?_ | refine l_nil ?_
          refine c_ret ?_; try dsimp only [Exit.then, Exit.inBlock]
          refine e_ret1 (v := .bool false) Tryz.results40 rfl ?_
          refine ⟨_, rfl, ?_⟩
          refine ⟨?_, H⟩
          have e : nameMay l = false := Bool.eq_false_iff.2 fun h => by
            have h2 := (nameMay_iff l).1 h
            have h3 := (nm1_iff _).1 (h2.2.2.2.2 i (by omega))
            exact absurd h2 (by omega)
          rw [e]
      ·
       repeat refine c_seq ?_
       refine c_no (by exact congrArg Value.bool (decide_eq_false hc5)) ?_; refine c_exit ?_; repeat refine c_seq ?_
       refine c_region ?_; refine l_op (o_val r_as ?_); first | refine l_end ?_ | refine l_nil ?_
       refine c_ret ?_; try dsimp only [Exit.then, Exit.inBlock]
       refine e_ret1 (v := .bool true) Tryz.results40 rfl ?_
       refine ⟨_, rfl, ?_⟩
       refine ⟨?_, H⟩
       rw [(nameMay_iff l).2 ⟨by omega, by omega, by omega, by omega, fun j hj => hall j (by omega)⟩]
abbrev Cav := UInt8 × Int
def cavE (c : Cav) : List Value := [V8 c.1, VI c.2]
/-- a token, as a world has it. -/
structure Tok where
  serial : UInt64
  tenant : List UInt8
  rights : UInt8
  from_ : Int
  until_ : Int
  cs : Gl Cav
  tag : List UInt8
def timeB (v : Int) : List UInt8 := be (zigU v).toNat 8
def cavB (c : Cav) : List UInt8 := [c.1] ++ timeB c.2
def headB (serial : UInt64) (tenant : List UInt8) (rights : UInt8) (from_ until_ : Int) : List UInt8 := be serial.toNat 8 ++ cnt tenant.length ++ tenant ++ [rights] ++ timeB from_ ++ timeB until_
def Tok.head (t : Tok) : List UInt8 := headB t.serial t.tenant t.rights t.from_ t.until_
theorem time_ret (w0 : World) (s : Sl) (hs : s.ok w0) (hm : s.len ≤ 1048576) (n : Int) :
    Ret Tryz.prog 73 [s.v, VI n] w0 fun v w' => ∃ a c, v = .slice (hd a) (s.len + 8) c ∧ Hp w0 w' [] [.own a (s.len + 8) c ((s.l ++ timeB n).map V8) 5 1] := by
  refine ret_mk Tryz.func73 rfl Tryz.ntmps73 (by simp) ?_
  have H := Hp.refl w0 []
  repeat refine c_seq ?_
  refine c_region ?_; refine l_op (o_val r_as ?_); first | refine l_end ?_ | refine l_nil ?_
  repeat refine c_seq ?_
  refine c_region ?_; refine l_op (o_val r_mv ?_); refine l_op (o_val r_mv ?_); refine l_op (o_callR Tryz.func114 rfl rfl rfl (zig_ret _ (n)) ?_); rintro _ w ⟨rfl, Hc⟩
  replace H : Hp _ w _ ([]) := H.call Hc
  clear Hc
  refine l_op (o_callR Tryz.func23 rfl rfl rfl (put_ret _ s (hs.up H (fun _ => apart_nil _)) (zigU (n)) 8 (by omega) (by omega) (.inl rfl) (by (try dsimp only); omega)) ?_); rintro _ w ⟨a1, c2, rfl, Hc⟩
  replace H : Hp _ w _ ([.own a1 (s.len + 8) c2 ((s.l ++ be (zigU (n)).toNat 8).map V8) 5 1]) := H.call Hc
  clear Hc
  refine l_op (o_val r_mv ?_); refine l_op (o_val (r_ext rfl rfl) ?_); refine l_op (o_val (r_ext rfl rfl) ?_); refine l_op (o_val r_as ?_); refine l_op (o_val r_as ?_); first | refine l_end ?_ | refine l_nil ?_
  repeat refine c_seq ?_
  refine c_region ?_; refine l_op (o_val r_mv ?_); refine l_op (o_val r_as ?_); first | refine l_end ?_ | refine l_nil ?_
  refine c_ret ?_; try dsimp only [Exit.then, Exit.inBlock]
  refine e_ret1 (v := .slice (hd a1) (s.len + 8) c2) Tryz.results73 rfl ?_
  refine ⟨_, rfl, ?_⟩
  exact ⟨_, _, rfl, H⟩
theorem caveat_ret (w0 : World) (c : Cav) :
    Ret Tryz.prog 117 [.agg ([V8 c.1, VI c.2]).toArray] w0 fun v w' => ∃ a k, v = .slice (hd a) 9 k ∧ Hp w0 w' [] [.own a 9 k ((cavB c).map V8) 5 1] := by
  refine ret_mk Tryz.func117 rfl Tryz.ntmps117 (by simp) ?_
  have H := Hp.refl w0 []
  repeat refine c_seq ?_
  refine c_region ?_; refine l_op (o_box (v := .agg ([V8 c.1, VI c.2]).toArray) H rfl (fun b1 w H hb1 => ?_)); replace H : Hp _ w _ ([.blk b1 ([V8 c.1, VI c.2]) 63]) := H
  refine l_op (o_val r_as ?_); first | refine l_end ?_ | refine l_nil ?_
  repeat refine c_seq ?_
  refine c_region ?_; refine l_op (o_val (r_fa rfl fo63_0) ?_); refine l_op (o_val (r_ld (v := V8 c.1) H (i := 0) rfl rfl ct43 rfl) ?_); refine l_op (o_bslB ([c.1]) H sl24 zc5 rfl rfl (by decide) (fun b2 w H hb2 => ?_)); replace H : Hp _ w _ ([_, .own (some b2) 1 1 (([c.1]).map V8) 5 1]) := H
  refine l_op (o_val (r_fa rfl fo63_1) ?_); refine l_op (o_val (r_ld (v := VI c.2) H (i := 0) rfl rfl ct2 rfl) ?_); refine l_op (o_callR Tryz.func73 rfl rfl rfl (time_ret _ ⟨hd (some b2), 1, 1, [c.1]⟩ (H.slOwn (i := 1) rfl) (by (try simp only []); omega) (c.2)) ?_); rintro _ w ⟨a3, c4, rfl, Hc⟩
  replace H : Hp _ w _ ([_, _, .own a3 (1 + 8) c4 (([c.1] ++ timeB (c.2)).map V8) 5 1]) := H.call Hc
  clear Hc
  refine l_op (o_val r_as ?_); first | refine l_end ?_ | refine l_nil ?_
  refine c_ret ?_; try dsimp only [Exit.then, Exit.inBlock]
  refine e_ret1 (v := .slice (hd a3) (1 + 8) c4) Tryz.results117 rfl ?_
  refine ⟨_, rfl, ?_⟩
  exact ⟨_, _, rfl, H.sub (.cons _ (.cons _ (.cons_cons _ (List.nil_sublist _))))⟩
theorem head_ret (w0 : World) (t : Tok) (_hc : t.cs.ok cavE 2 w0) (_htag : t.tag.length = 32) (hn : t.tenant.length ≤ 65536) :
    Ret Tryz.prog 31 [.agg ([V64 t.serial, .string ⟨(t.tenant).toArray⟩, V8 t.rights, VI t.from_, VI t.until_, t.cs.v] ++ (t.tag).map V8).toArray] w0 fun v w' => ∃ a n c, v = .slice (hd a) n c ∧ n ≤ t.tenant.length + 64 ∧ t.head.length = n ∧ Hp w0 w' [] [.own a n c (t.head.map V8) 5 1] := by
  refine ret_mk Tryz.func31 rfl Tryz.ntmps31 (by simp) ?_
  have H := Hp.refl w0 []
  repeat refine c_seq ?_
  refine c_region ?_; refine l_op (o_box (v := .agg ([V64 t.serial, .string ⟨(t.tenant).toArray⟩, V8 t.rights, VI t.from_, VI t.until_, t.cs.v] ++ (t.tag).map V8).toArray) H rfl (fun b1 w H hb1 => ?_)); replace H : Hp _ w _ ([.blk b1 ([V64 t.serial, .string ⟨(t.tenant).toArray⟩, V8 t.rights, VI t.from_, VI t.until_, t.cs.v] ++ (t.tag).map V8) 46]) := H
  refine l_op (o_val r_as ?_); first | refine l_end ?_ | refine l_nil ?_
  repeat refine c_seq ?_
  refine c_region ?_; refine l_op (o_val (r_fa rfl fo46_0) ?_); refine l_op (o_val (r_ld (v := V64 t.serial) H (i := 0) rfl rfl ct33 rfl) ?_); refine l_op (o_callR Tryz.func23 rfl rfl rfl (put0_ret _ (t.serial) 8 (by omega) (by omega) (.inl rfl)) ?_); rintro _ w ⟨a2, c3, rfl, Hc⟩
  replace H : Hp _ w _ ([_, .own a2 8 c3 ((be (t.serial).toNat 8).map V8) 5 1]) := H.call Hc
  clear Hc
  refine l_op (o_val r_mv ?_); refine l_op (o_val (r_ext rfl rfl) ?_); refine l_op (o_val (r_ext rfl rfl) ?_); refine l_op (o_val r_as ?_); refine l_op (o_val r_as ?_); first | refine l_end ?_ | refine l_nil ?_
  repeat refine c_seq ?_
  refine c_region ?_; refine l_op (o_val r_mv ?_); refine l_op (o_val (r_fa rfl fo46_1) ?_); refine l_op (o_val (r_ld (v := .string ⟨(t.tenant).toArray⟩) H (i := 0) rfl rfl ct9 rfl) ?_); refine l_op (o_s2B (l := t.tenant) H Tryz.underlying9 Tryz.underlying24 Tryz.underlying5 rfl (by omega) (fun b4 c5 ob6 w H hb4 hr7 => ?_)); replace H : Hp _ w _ ([_, _, .obj b4 ob6]) := H
  refine l_op (o_callR Tryz.func72 rfl rfl rfl (text_ret _ ⟨hd a2, 8, c3, be (t.serial).toNat 8⟩ (⟨some ⟨b4, 0, none⟩, (t.tenant).length, c5, t.tenant⟩ : Sl) (H.slOwn (i := 1) rfl) (hr7 _ (H.has (.obj b4 ob6) (by simp))) (by (try simp only []); omega) (by (try simp only []); omega)) ?_); rintro _ w ⟨a8, n9, c10, rfl, hn11, Hc⟩
  replace H : Hp _ w _ ([_, _, _, .own a8 n9 c10 ((be (t.serial).toNat 8 ++ cnt ((t.tenant).length) ++ t.tenant).map V8) 5 1]) := H.call Hc
  clear Hc
  try dsimp only at hn11
  refine l_op (o_val r_mv ?_); refine l_op (o_val (r_ext rfl rfl) ?_); refine l_op (o_val (r_ext rfl rfl) ?_); refine l_op (o_val r_as ?_); first | refine l_end ?_ | refine l_nil ?_
  repeat refine c_seq ?_
  refine wp_held (fun w => Hp w0 w [] [.blk b1 ([V64 t.serial, .string ⟨(t.tenant).toArray⟩, V8 t.rights, VI t.from_, VI t.until_, t.cs.v] ++ (t.tag).map V8) 46, .own a2 8 c3 ((be (t.serial).toNat 8).map V8) 5 1, .obj b4 ob6]) mixed ?_; replace H := H.drew
  have HS := H.sub (.cons_cons _ (.cons_cons _ (.cons_cons _ (List.nil_sublist _))))
  refine t_take 0 rfl (by kernel_rfl) (by kernel_rfl) (by kernel_rfl) (fun _ _ _ h => h) (fun w HS => r_mv) HS ?_; refine t_take 1 rfl (by kernel_rfl) (by kernel_rfl) (by kernel_rfl) (fun _ _ _ h => h) (fun w HS => r_fa rfl fo46_2) HS ?_; refine t_take 2 rfl (by kernel_rfl) (by kernel_rfl) (by kernel_rfl) (fun _ _ _ h => h) (fun w HS => r_ld (v := V8 t.rights) HS (i := 0) rfl rfl ct43 rfl) HS ?_; refine t_take 5 rfl (by kernel_rfl) (by kernel_rfl) (by kernel_rfl) (fun _ _ _ h => h) (fun w HS => r_fa rfl fo46_3) HS ?_; refine t_take 6 rfl (by kernel_rfl) (by kernel_rfl) (by kernel_rfl) (fun _ _ _ h => h) (fun w HS => r_ld (v := VI t.from_) HS (i := 0) rfl rfl ct2 rfl) HS ?_; refine t_take 8 rfl (by kernel_rfl) (by kernel_rfl) (by kernel_rfl) (fun _ _ _ h => h) (fun w HS => r_fa rfl fo46_4) HS ?_; refine t_take 9 rfl (by kernel_rfl) (by kernel_rfl) (by kernel_rfl) (fun _ _ _ h => h) (fun w HS => r_ld (v := VI t.until_) HS (i := 0) rfl rfl ct2 rfl) HS ?_; refine t_step 3 rfl (by kernel_rfl) (o_bslB ([t.rights]) H sl24 zc5 rfl rfl (by decide) (fun b12 w H hb12 => ?_)); replace H : Hp _ w _ ([_, _, _, _, .own (some b12) 1 1 (([t.rights]).map V8) 5 1]) := H
  refine ⟨H.sub (.cons_cons _ (.cons_cons _ (.cons_cons _ (List.nil_sublist _)))), ?_⟩
  replace HS := H.sub (.cons_cons _ (.cons_cons _ (.cons_cons _ (List.nil_sublist _))))
  refine t_step 4 rfl (by kernel_rfl) (o_appB (s := ⟨hd (some b12), 1, 1, [t.rights]⟩) (l' := be (t.serial).toNat 8 ++ cnt ((t.tenant).length) ++ t.tenant ++ ([t.rights])) (len' := n9 + 1) rfl rfl H (i := 3) rfl sl24 Tryz.underlying24 rfl rfl (H.slOwn (i := 4) rfl) (by omega) (fun a13 c14 w H => ?_)); replace H : Hp _ w _ ([_, _, _, .own a13 (n9 + 1) c14 ((be (t.serial).toNat 8 ++ cnt ((t.tenant).length) ++ t.tenant ++ ([t.rights])).map V8) 5 1, _]) := H
  refine ⟨H.sub (.cons_cons _ (.cons_cons _ (.cons_cons _ (List.nil_sublist _)))), ?_⟩
  replace HS := H.sub (.cons_cons _ (.cons_cons _ (.cons_cons _ (List.nil_sublist _))))
  refine t_step 7 rfl (by kernel_rfl) (o_callR Tryz.func73 rfl rfl rfl (time_ret _ ⟨hd a13, n9 + 1, c14, be (t.serial).toNat 8 ++ cnt ((t.tenant).length) ++ t.tenant ++ ([t.rights])⟩ (H.slOwn (i := 3) rfl) (by (try simp only []); omega) (t.from_)) ?_); rintro _ w ⟨a15, c16, rfl, Hc⟩
  replace H : Hp _ w _ ([_, _, _, _, _, .own a15 (n9 + 1 + 8) c16 ((be (t.serial).toNat 8 ++ cnt ((t.tenant).length) ++ t.tenant ++ ([t.rights]) ++ timeB (t.from_)).map V8) 5 1]) := H.call Hc
  clear Hc
  refine ⟨H.sub (.cons_cons _ (.cons_cons _ (.cons_cons _ (List.nil_sublist _)))), ?_⟩
  replace HS := H.sub (.cons_cons _ (.cons_cons _ (.cons_cons _ (List.nil_sublist _))))
  refine t_step 10 rfl (by kernel_rfl) (o_callR Tryz.func73 rfl rfl rfl (time_ret _ ⟨hd a15, n9 + 1 + 8, c16, be (t.serial).toNat 8 ++ cnt ((t.tenant).length) ++ t.tenant ++ ([t.rights]) ++ timeB (t.from_)⟩ (H.slOwn (i := 5) rfl) (by (try simp only []); omega) (t.until_)) ?_); rintro _ w ⟨a17, c18, rfl, Hc⟩
  replace H : Hp _ w _ ([_, _, _, _, _, _, .own a17 (n9 + 1 + 8 + 8) c18 ((be (t.serial).toNat 8 ++ cnt ((t.tenant).length) ++ t.tenant ++ ([t.rights]) ++ timeB (t.from_) ++ timeB (t.until_)).map V8) 5 1]) := H.call Hc
  clear Hc
  refine ⟨H.sub (.cons_cons _ (.cons_cons _ (.cons_cons _ (List.nil_sublist _)))), ?_⟩
  replace HS := H.sub (.cons_cons _ (.cons_cons _ (.cons_cons _ (List.nil_sublist _))))
  refine t_take 11 rfl (by kernel_rfl) (by kernel_rfl) (by kernel_rfl) (fun _ _ _ h => h) (fun w HS => r_as) HS ?_; refine t_done (by kernel_rfl) ?_
  clear HS
  refine c_ret ?_; try dsimp only [Exit.then, Exit.inBlock]
  refine e_ret1 (v := .slice (hd a17) (n9 + 1 + 8 + 8) c18) Tryz.results31 rfl ?_
  refine ⟨_, rfl, ?_⟩
  have e : be (t.serial).toNat 8 ++ cnt ((t.tenant).length) ++ t.tenant ++ ([t.rights]) ++ timeB (t.from_) ++ timeB (t.until_) = t.head := by simp [Tok.head, headB]
  rw [e] at H
  have hh := (H.ownLen (i := 6) rfl).1
  exact ⟨_, _, _, rfl, by omega, by simpa using hh, H.sub (.cons _ (.cons _ (.cons _ (.cons _ (.cons _ (.cons _ (.cons_cons _ (List.nil_sublist _))))))))⟩
end Go.Proofs.YtiepekfcegdkoaaGreatDoor
namespace Go.Proofs.YtiepekfcegdkoaaGreatDoor
open Go
set_option maxRecDepth 100000
/-- may it be a token? -/
def mayT (t : Tok) : Bool := (decide (t.tenant = []) || nameMay t.tenant) && rMay t.rights && decide (t.cs.len ≤ 8) && t.cs.l.all fun c => rMay c.1
theorem mayT_iff (t : Tok) : mayT t = true ↔ (t.tenant = [] ∨ nameMay t.tenant = true) ∧ rMay t.rights = true ∧ t.cs.len ≤ 8 ∧ ∀ (i : Nat) (c : Cav), t.cs.l[i]? = some c → rMay c.1 = true := by
  simp only [mayT, Bool.and_eq_true, Bool.or_eq_true, decide_eq_true_eq, List.all_eq_true, and_assoc]
  refine ⟨fun ⟨h1, h2, h3, h4⟩ => ⟨h1, h2, h3, fun i c hc => h4 c (List.mem_of_getElem? hc)⟩, fun ⟨h1, h2, h3, h4⟩ => ⟨h1, h2, h3, fun c hc => ?_⟩⟩
  obtain ⟨i, hi⟩ := List.getElem?_of_mem hc
  exact h4 i c hi
def onF (sum : List UInt8) (cs : List Cav) : List UInt8 := cs.foldl (fun s c => hmac s (framed [cavB c])) sum
theorem onF_len (sum : List UInt8) (h : sum.length = 32) : ∀ cs, (onF sum cs).length = 32 := by
  intro cs
  induction cs generalizing sum with
  | nil => exact h
  | cons c cs ih => exact ih _ (hmac_len _ _)
theorem onF_succ (sum : List UInt8) (cs : List Cav) (i : Nat) (c : Cav) (h : cs[i]? = some c) : hmac (onF sum (cs.take i)) (framed [cavB c]) = onF sum (cs.take (i + 1)) := by
  rw [List.take_add_one, h]; simp [onF]
theorem cavB_len (c : Cav) : (cavB c).length = 9 := by simp [cavB, timeB, be_len]
def effF (r : UInt8) (u : Int) (cs : List Cav) : UInt8 × Int := cs.foldl (fun p c => (p.1 &&& c.1, if c.2 < p.2 then c.2 else p.2)) (r, u)
theorem effF_succ (r : UInt8) (u : Int) (cs : List Cav) (i : Nat) (c : Cav) (h : cs[i]? = some c) : effF r u (cs.take (i + 1)) = ((effF r u (cs.take i)).1 &&& c.1, if c.2 < (effF r u (cs.take i)).2 then c.2 else (effF r u (cs.take i)).2) := by
  rw [List.take_add_one, h]; simp only [effF, Option.toList_some, List.foldl_append, List.foldl_cons, List.foldl_nil]; rfl
theorem may_ret (w0 : World) (t : Tok) (hc : t.cs.ok cavE 2 w0) (_htag : t.tag.length = 32) (hn : t.tenant.length ≤ 65536) :
    Ret Tryz.prog 30 [.agg ([V64 t.serial, .string ⟨(t.tenant).toArray⟩, V8 t.rights, VI t.from_, VI t.until_, t.cs.v] ++ (t.tag).map V8).toArray] w0 fun v w' => v = .bool (mayT t) ∧ Hp w0 w' [] [] := by
  refine ret_mk Tryz.func30 rfl Tryz.ntmps30 (by simp) ?_
  have H := Hp.refl w0 []
  repeat refine c_seq ?_
  refine c_region ?_; refine l_op (o_box (v := .agg ([V64 t.serial, .string ⟨(t.tenant).toArray⟩, V8 t.rights, VI t.from_, VI t.until_, t.cs.v] ++ (t.tag).map V8).toArray) H rfl (fun b1 w H hb1 => ?_)); replace H : Hp _ w _ ([.blk b1 ([V64 t.serial, .string ⟨(t.tenant).toArray⟩, V8 t.rights, VI t.from_, VI t.until_, t.cs.v] ++ (t.tag).map V8) 46]) := H
  refine l_op (o_val r_as ?_); first | refine l_end ?_ | refine l_nil ?_
  repeat refine c_seq ?_
  refine c_region ?_; refine l_op (o_val (r_fa rfl fo46_1) ?_); refine l_op (o_val (r_ld (v := .string ⟨(t.tenant).toArray⟩) H (i := 0) rfl rfl ct9 rfl) ?_); refine l_op (o_val (r_strne (a := t.tenant) (b := ([] : List UInt8)) rfl rfl) ?_); refine l_op (o_val r_mv ?_)
  by_cases hc2 : t.tenant = ([] : List UInt8)
  ·
   refine l_no rfl rfl (by exact congrArg Value.bool (congrArg not (decide_eq_true hc2))) rfl ?_; refine l_no rfl rfl (by exact congrArg Value.bool (congrArg not (decide_eq_true hc2))) rfl ?_; refine l_no rfl rfl (by exact congrArg Value.bool (congrArg not (decide_eq_true hc2))) rfl ?_; refine l_no rfl rfl (by exact congrArg Value.bool (congrArg not (decide_eq_true hc2))) rfl ?_; refine l_op (o_val (r_pick (b := false) (congrArg Value.bool (congrArg not (decide_eq_true hc2)))) ?_); refine l_op (o_val r_mv ?_); refine l_yes rfl rfl rfl (o_val (r_fa rfl fo46_2) ?_); refine l_yes rfl rfl rfl (o_val (r_ld (v := V8 t.rights) H (i := 0) rfl rfl ct43 rfl) ?_); refine l_yes rfl rfl rfl (o_callR Tryz.func39 rfl rfl rfl (rmay_ret _ (t.rights)) ?_); rintro _ w' ⟨rfl, hw3⟩
   rw [hw3]; clear hw3 w'
   refine l_yes rfl rfl rfl (o_val (r_not rfl) ?_); refine l_op (o_val (r_pick rfl) ?_); refine l_op (o_val r_mv ?_)
   rcases Bool.eq_false_or_eq_true (rMay (t.rights)) with hc4 | hc4
   ·
    refine l_yes rfl rfl (by exact congrArg Value.bool (congrArg not hc4)) (o_val (r_fa rfl fo46_5) ?_); refine l_yes rfl rfl (by exact congrArg Value.bool (congrArg not hc4)) (o_val (r_ld (v := t.cs.v) H (i := 0) rfl rfl ct44 rfl) ?_); refine l_yes rfl rfl (by exact congrArg Value.bool (congrArg not hc4)) (o_val (r_lens el44 rfl) ?_); refine l_yes rfl rfl (by exact congrArg Value.bool (congrArg not hc4)) (o_val (r_bin (a := (t.cs.len : Int)) (b := 8) rfl rfl (fun _ => b_gtr)) ?_); refine l_op (o_val (r_pick (b := false) (congrArg Value.bool (congrArg not hc4))) ?_); first | refine l_end ?_ | refine l_nil ?_
    by_cases hc5 : 8 < (t.cs.len : Int)
    ·
     repeat refine c_seq ?_
     refine c_yes (by exact congrArg Value.bool (decide_eq_true hc5)) ?_; repeat refine c_seq ?_
     refine c_region ?_; refine l_op (o_val r_as ?_); first | refine l_end ?_ | refine l_nil ?_
     refine c_ret ?_; try dsimp only [Exit.then, Exit.inBlock]
     refine e_ret1 (v := .bool false) Tryz.results30 rfl ?_
     refine ⟨_, rfl, ?_⟩
     refine ⟨?_, H.sub (List.nil_sublist _)⟩
     have e : mayT t = false := Bool.eq_false_iff.2 fun h => by
       have h2 := (mayT_iff t).1 h
       omega
     rw [e]
    ·
     repeat refine c_seq ?_
     refine c_no (by exact congrArg Value.bool (decide_eq_false hc5)) ?_; refine c_skip ?_; repeat refine c_seq ?_
     refine c_region ?_; refine l_op (o_val (r_fa rfl fo46_5) ?_); refine l_op (o_val (r_ld (v := t.cs.v) H (i := 0) rfl rfl ct44 rfl) ?_); refine l_op (o_val (r_lens el44 rfl) ?_); refine l_op (o_val r_mv ?_); first | refine l_end ?_ | refine l_nil ?_
     repeat refine c_seq ?_
     refine c_block ?_; repeat refine c_seq ?_
     refine c_loop (fun (i : Nat) => [(27, t.cs.v), (28, VI (t.cs.len : Int)), (29, VI (i : Int))])
       (fun (i : Nat) w => (i ≤ t.cs.len ∧ ∀ (j : Nat) (c : Cav), j < i → t.cs.l[j]? = some c → rMay c.1 = true) ∧ Hp w0 w [] ([.blk b1 ([V64 t.serial, .string ⟨(t.tenant).toArray⟩, V8 t.rights, VI t.from_, VI t.until_, t.cs.v] ++ (t.tag).map V8) 46]))
       (fun (i : Nat) => t.cs.len - i) 0 ⟨rfl, rfl, rfl, trivial⟩ ⟨⟨Nat.zero_le _, fun j c hj => absurd hj (by omega)⟩, H⟩ ?_
     clear H
     rintro i τ w ⟨⟨hi, hall⟩, H⟩
     repeat refine c_seq ?_
     refine c_region ?_; refine l_op (o_val (r_bin (a := (i : Int)) (b := (t.cs.len : Int)) rfl rfl (fun _ => b_lss)) ?_); first | refine l_end ?_ | refine l_nil ?_
     by_cases hc6 : (i : Int) < (t.cs.len : Int)
     ·
      repeat refine c_seq ?_
      refine c_yes (by exact congrArg Value.bool (decide_eq_true hc6)) ?_; refine c_skip ?_; repeat refine c_seq ?_
      refine c_block ?_; repeat refine c_seq ?_
      refine c_region ?_; have ah9 := ((hc.up H)).addr (by decide) (by first | omega | (dsimp only; omega))
      obtain ⟨ab7, ao8, ah9⟩ := ah9
      refine l_op (o_val (r_isN i rfl rfl el44 ah9 (by omega) (by (try simp only [Sl.cut]); omega)) ?_); have he11 : ∃ c, t.cs.l[i]? = some c := ⟨_, List.getElem?_eq_getElem (by have := ((hc.up H)).ln; (try dsimp only at this ⊢); omega)⟩
      obtain ⟨e10, he11⟩ := he11
      have hez12 := ((hc.up H)).sz e10 (List.mem_of_getElem? he11)
      refine l_op (o_val (r_ldRow (s := t.cs) (k := i) (hc.up H) ah9 rfl rt63 (by decide) he11) ?_); refine l_op (o_alloc H zc63 (fun b13 w H hb13 => ?_)); replace H : Hp _ w _ ([_, .blk b13 ([V8 (0 : UInt8), VI 0]) 63]) := H
      refine l_op (o_stW (C' := [V8 e10.1, VI e10.2]) H (i := 1) rfl rfl rfl cs63 (by simp [Value.oneCell']) (by rfl) (by rfl) (fun w H => ?_)); replace H : Hp _ w _ ([_, .blk b13 ([V8 e10.1, VI e10.2]) 63]) := H
      first | refine l_end ?_ | refine l_nil ?_
      repeat refine c_seq ?_
      refine c_region ?_; refine l_op (o_val (r_fa rfl fo63_0) ?_); refine l_op (o_val (r_ld (v := V8 e10.1) H (i := 1) rfl rfl ct43 rfl) ?_); refine l_op (o_callR Tryz.func39 rfl rfl rfl (rmay_ret _ (e10.1)) ?_); rintro _ w' ⟨rfl, hw14⟩
      rw [hw14]; clear hw14 w'
      refine l_op (o_val (r_not rfl) ?_); first | refine l_end ?_ | refine l_nil ?_
      rcases Bool.eq_false_or_eq_true (rMay (e10.1)) with hc15 | hc15
      ·
       repeat refine c_seq ?_
       refine c_no (by exact congrArg Value.bool (congrArg not hc15)) ?_; refine c_skip ?_; repeat refine c_seq ?_
       refine c_region ?_; refine l_op (o_val (r_bin (a := (i : Int)) (b := 1) rfl rfl (fun _ => b_add (by omega) (by omega))) ?_); refine l_op (o_val r_mv ?_); first | refine l_end ?_ | refine l_nil ?_
       refine round_end (i + 1) ?_ ?_ ?_
       · exact ⟨rfl, rfl, show VI ((i : Int) + 1) = VI ((i + 1 : Nat) : Int) from congrArg VI (by omega), trivial⟩
       · refine ⟨?_, ?_⟩
         · try dsimp only
           exact ⟨by omega, fun j c hj hjc => by
             by_cases hji : j < i
             · exact hall j c hji hjc
             · have e : j = i := by omega
               rw [e, he11] at hjc
               cases hjc
               exact hc15⟩
         · exact H.sub (.cons_cons _ (List.nil_sublist _))
       · show t.cs.len - (i + 1 : Nat) < t.cs.len - i; omega
      ·
       repeat refine c_seq ?_
       refine c_yes (by exact congrArg Value.bool (congrArg not hc15)) ?_; repeat refine c_seq ?_
       refine c_region ?_; refine l_op (o_val r_as ?_); first | refine l_end ?_ | refine l_nil ?_
       refine c_ret ?_; try dsimp only [Exit.then, Exit.inBlock]
       refine e_ret1 (v := .bool false) Tryz.results30 rfl ?_
       refine ⟨_, rfl, ?_⟩
       refine ⟨?_, H.sub (List.nil_sublist _)⟩
       have e : mayT t = false := Bool.eq_false_iff.2 fun h => by
         have h2 := (mayT_iff t).1 h
         have h3 := h2.2.2.2 i e10 he11
         rw [hc15] at h3; cases h3
       rw [e]
     ·
      repeat refine c_seq ?_
      refine c_no (by exact congrArg Value.bool (decide_eq_false hc6)) ?_; refine c_exit ?_; repeat refine c_seq ?_
      refine c_region ?_; refine l_op (o_val r_as ?_); first | refine l_end ?_ | refine l_nil ?_
      refine c_ret ?_; try dsimp only [Exit.then, Exit.inBlock]
      refine e_ret1 (v := .bool true) Tryz.results30 rfl ?_
      refine ⟨_, rfl, ?_⟩
      refine ⟨?_, H.sub (List.nil_sublist _)⟩
      rw [(mayT_iff t).2 ⟨.inl (of_decide_eq_true (decide_eq_true hc2)), hc4, by omega, fun j c hj => hall j c (by have := hc.ln; have := (List.getElem?_eq_some_iff.1 hj).1; omega) hj⟩]
   ·
    refine l_no rfl rfl (by exact congrArg Value.bool (congrArg not hc4)) rfl ?_; refine l_no rfl rfl (by exact congrArg Value.bool (congrArg not hc4)) rfl ?_; refine l_no rfl rfl (by exact congrArg Value.bool (congrArg not hc4)) rfl ?_; refine l_no rfl rfl (by exact congrArg Value.bool (congrArg not hc4)) rfl ?_; refine l_op (o_val (r_pick (b := true) (congrArg Value.bool (congrArg not hc4))) ?_); first | refine l_end ?_ | refine l_nil ?_
    repeat refine c_seq ?_
    refine c_yes rfl ?_; repeat refine c_seq ?_
    refine c_region ?_; refine l_op (o_val r_as ?_); first | refine l_end ?_ | refine l_nil ?_
    refine c_ret ?_; try dsimp only [Exit.then, Exit.inBlock]
    refine e_ret1 (v := .bool false) Tryz.results30 rfl ?_
    refine ⟨_, rfl, ?_⟩
    refine ⟨?_, H.sub (List.nil_sublist _)⟩
    have e : mayT t = false := Bool.eq_false_iff.2 fun h => by
      have h2 := (mayT_iff t).1 h
      have h3 := h2.2.1
      rw [hc4] at h3; cases h3
    rw [e]
  ·
   refine l_yes rfl rfl (by exact congrArg Value.bool (congrArg not (decide_eq_false hc2))) (o_val (r_fa rfl fo46_1) ?_); refine l_yes rfl rfl (by exact congrArg Value.bool (congrArg not (decide_eq_false hc2))) (o_val (r_ld (v := .string ⟨(t.tenant).toArray⟩) H (i := 0) rfl rfl ct9 rfl) ?_); refine l_yes rfl rfl (by exact congrArg Value.bool (congrArg not (decide_eq_false hc2))) (o_callR Tryz.func40 rfl rfl rfl (nmay_ret _ (t.tenant) (by omega)) ?_); rintro _ w ⟨rfl, Hc⟩
   replace H : Hp _ w _ ([_]) := H.call Hc
   clear Hc
   refine l_yes rfl rfl (by exact congrArg Value.bool (congrArg not (decide_eq_false hc2))) (o_val (r_not rfl) ?_); refine l_op (o_val (r_pick (b := true) (congrArg Value.bool (congrArg not (decide_eq_false hc2)))) ?_); refine l_op (o_val r_mv ?_)
   rcases Bool.eq_false_or_eq_true (nameMay (t.tenant)) with hc16 | hc16
   ·
    refine l_yes rfl rfl (by exact congrArg Value.bool (congrArg not hc16)) (o_val (r_fa rfl fo46_2) ?_); refine l_yes rfl rfl (by exact congrArg Value.bool (congrArg not hc16)) (o_val (r_ld (v := V8 t.rights) H (i := 0) rfl rfl ct43 rfl) ?_); refine l_yes rfl rfl (by exact congrArg Value.bool (congrArg not hc16)) (o_callR Tryz.func39 rfl rfl rfl (rmay_ret _ (t.rights)) ?_); rintro _ w' ⟨rfl, hw17⟩
    rw [hw17]; clear hw17 w'
    refine l_yes rfl rfl (by exact congrArg Value.bool (congrArg not hc16)) (o_val (r_not rfl) ?_); refine l_op (o_val (r_pick (b := false) (congrArg Value.bool (congrArg not hc16))) ?_); refine l_op (o_val r_mv ?_)
    rcases Bool.eq_false_or_eq_true (rMay (t.rights)) with hc18 | hc18
    ·
     refine l_yes rfl rfl (by exact congrArg Value.bool (congrArg not hc18)) (o_val (r_fa rfl fo46_5) ?_); refine l_yes rfl rfl (by exact congrArg Value.bool (congrArg not hc18)) (o_val (r_ld (v := t.cs.v) H (i := 0) rfl rfl ct44 rfl) ?_); refine l_yes rfl rfl (by exact congrArg Value.bool (congrArg not hc18)) (o_val (r_lens el44 rfl) ?_); refine l_yes rfl rfl (by exact congrArg Value.bool (congrArg not hc18)) (o_val (r_bin (a := (t.cs.len : Int)) (b := 8) rfl rfl (fun _ => b_gtr)) ?_); refine l_op (o_val (r_pick (b := false) (congrArg Value.bool (congrArg not hc18))) ?_); first | refine l_end ?_ | refine l_nil ?_
     by_cases hc19 : 8 < (t.cs.len : Int)
     ·
      repeat refine c_seq ?_
      refine c_yes (by exact congrArg Value.bool (decide_eq_true hc19)) ?_; repeat refine c_seq ?_
      refine c_region ?_; refine l_op (o_val r_as ?_); first | refine l_end ?_ | refine l_nil ?_
      refine c_ret ?_; try dsimp only [Exit.then, Exit.inBlock]
      refine e_ret1 (v := .bool false) Tryz.results30 rfl ?_
      refine ⟨_, rfl, ?_⟩
      refine ⟨?_, H.sub (List.nil_sublist _)⟩
      have e : mayT t = false := Bool.eq_false_iff.2 fun h => by
        have h2 := (mayT_iff t).1 h
        omega
      rw [e]
     ·
      repeat refine c_seq ?_
      refine c_no (by exact congrArg Value.bool (decide_eq_false hc19)) ?_; refine c_skip ?_; repeat refine c_seq ?_
      refine c_region ?_; refine l_op (o_val (r_fa rfl fo46_5) ?_); refine l_op (o_val (r_ld (v := t.cs.v) H (i := 0) rfl rfl ct44 rfl) ?_); refine l_op (o_val (r_lens el44 rfl) ?_); refine l_op (o_val r_mv ?_); first | refine l_end ?_ | refine l_nil ?_
      repeat refine c_seq ?_
      refine c_block ?_; repeat refine c_seq ?_
      refine c_loop (fun (i : Nat) => [(27, t.cs.v), (28, VI (t.cs.len : Int)), (29, VI (i : Int))])
        (fun (i : Nat) w => (i ≤ t.cs.len ∧ ∀ (j : Nat) (c : Cav), j < i → t.cs.l[j]? = some c → rMay c.1 = true) ∧ Hp w0 w [] ([.blk b1 ([V64 t.serial, .string ⟨(t.tenant).toArray⟩, V8 t.rights, VI t.from_, VI t.until_, t.cs.v] ++ (t.tag).map V8) 46]))
        (fun (i : Nat) => t.cs.len - i) 0 ⟨rfl, rfl, rfl, trivial⟩ ⟨⟨Nat.zero_le _, fun j c hj => absurd hj (by omega)⟩, H⟩ ?_
      clear H
      rintro i τ w ⟨⟨hi, hall⟩, H⟩
      repeat refine c_seq ?_
      refine c_region ?_; refine l_op (o_val (r_bin (a := (i : Int)) (b := (t.cs.len : Int)) rfl rfl (fun _ => b_lss)) ?_); first | refine l_end ?_ | refine l_nil ?_
      by_cases hc20 : (i : Int) < (t.cs.len : Int)
      ·
       repeat refine c_seq ?_
       refine c_yes (by exact congrArg Value.bool (decide_eq_true hc20)) ?_; refine c_skip ?_; repeat refine c_seq ?_
       refine c_block ?_; repeat refine c_seq ?_
       refine c_region ?_; have ah23 := ((hc.up H)).addr (by decide) (by first | omega | (dsimp only; omega))
       obtain ⟨ab21, ao22, ah23⟩ := ah23
       refine l_op (o_val (r_isN i rfl rfl el44 ah23 (by omega) (by (try simp only [Sl.cut]); omega)) ?_); have he25 : ∃ c, t.cs.l[i]? = some c := ⟨_, List.getElem?_eq_getElem (by have := ((hc.up H)).ln; (try dsimp only at this ⊢); omega)⟩
       obtain ⟨e24, he25⟩ := he25
       have hez26 := ((hc.up H)).sz e24 (List.mem_of_getElem? he25)
       refine l_op (o_val (r_ldRow (s := t.cs) (k := i) (hc.up H) ah23 rfl rt63 (by decide) he25) ?_); refine l_op (o_alloc H zc63 (fun b27 w H hb27 => ?_)); replace H : Hp _ w _ ([_, .blk b27 ([V8 (0 : UInt8), VI 0]) 63]) := H
       refine l_op (o_stW (C' := [V8 e24.1, VI e24.2]) H (i := 1) rfl rfl rfl cs63 (by simp [Value.oneCell']) (by rfl) (by rfl) (fun w H => ?_)); replace H : Hp _ w _ ([_, .blk b27 ([V8 e24.1, VI e24.2]) 63]) := H
       first | refine l_end ?_ | refine l_nil ?_
       repeat refine c_seq ?_
       refine c_region ?_; refine l_op (o_val (r_fa rfl fo63_0) ?_); refine l_op (o_val (r_ld (v := V8 e24.1) H (i := 1) rfl rfl ct43 rfl) ?_); refine l_op (o_callR Tryz.func39 rfl rfl rfl (rmay_ret _ (e24.1)) ?_); rintro _ w' ⟨rfl, hw28⟩
       rw [hw28]; clear hw28 w'
       refine l_op (o_val (r_not rfl) ?_); first | refine l_end ?_ | refine l_nil ?_
       rcases Bool.eq_false_or_eq_true (rMay (e24.1)) with hc29 | hc29
       ·
        repeat refine c_seq ?_
        refine c_no (by exact congrArg Value.bool (congrArg not hc29)) ?_; refine c_skip ?_; repeat refine c_seq ?_
        refine c_region ?_; refine l_op (o_val (r_bin (a := (i : Int)) (b := 1) rfl rfl (fun _ => b_add (by omega) (by omega))) ?_); refine l_op (o_val r_mv ?_); first | refine l_end ?_ | refine l_nil ?_
        refine round_end (i + 1) ?_ ?_ ?_
        · exact ⟨rfl, rfl, show VI ((i : Int) + 1) = VI ((i + 1 : Nat) : Int) from congrArg VI (by omega), trivial⟩
        · refine ⟨?_, ?_⟩
          · try dsimp only
            exact ⟨by omega, fun j c hj hjc => by
              by_cases hji : j < i
              · exact hall j c hji hjc
              · have e : j = i := by omega
                rw [e, he25] at hjc
                cases hjc
                exact hc29⟩
          · exact H.sub (.cons_cons _ (List.nil_sublist _))
        · show t.cs.len - (i + 1 : Nat) < t.cs.len - i; omega
       ·
        repeat refine c_seq ?_
        refine c_yes (by exact congrArg Value.bool (congrArg not hc29)) ?_; repeat refine c_seq ?_
        refine c_region ?_; refine l_op (o_val r_as ?_); first | refine l_end ?_ | refine l_nil ?_
        refine c_ret ?_; try dsimp only [Exit.then, Exit.inBlock]
        refine e_ret1 (v := .bool false) Tryz.results30 rfl ?_
        refine ⟨_, rfl, ?_⟩
        refine ⟨?_, H.sub (List.nil_sublist _)⟩
        have e : mayT t = false := Bool.eq_false_iff.2 fun h => by
          have h2 := (mayT_iff t).1 h
          have h3 := h2.2.2.2 i e24 he25
          rw [hc29] at h3; cases h3
        rw [e]
      ·
       repeat refine c_seq ?_
       refine c_no (by exact congrArg Value.bool (decide_eq_false hc20)) ?_; refine c_exit ?_; repeat refine c_seq ?_
       refine c_region ?_; refine l_op (o_val r_as ?_); first | refine l_end ?_ | refine l_nil ?_
       refine c_ret ?_; try dsimp only [Exit.then, Exit.inBlock]
       refine e_ret1 (v := .bool true) Tryz.results30 rfl ?_
       refine ⟨_, rfl, ?_⟩
       refine ⟨?_, H.sub (List.nil_sublist _)⟩
       rw [(mayT_iff t).2 ⟨.inr hc16, hc18, by omega, fun j c hj => hall j c (by have := hc.ln; have := (List.getElem?_eq_some_iff.1 hj).1; omega) hj⟩]
    ·
     refine l_no rfl rfl (by exact congrArg Value.bool (congrArg not hc18)) rfl ?_; refine l_no rfl rfl (by exact congrArg Value.bool (congrArg not hc18)) rfl ?_; refine l_no rfl rfl (by exact congrArg Value.bool (congrArg not hc18)) rfl ?_; refine l_no rfl rfl (by exact congrArg Value.bool (congrArg not hc18)) rfl ?_; refine l_op (o_val (r_pick (b := true) (congrArg Value.bool (congrArg not hc18))) ?_); first | refine l_end ?_ | refine l_nil ?_
     repeat refine c_seq ?_
     refine c_yes rfl ?_; repeat refine c_seq ?_
     refine c_region ?_; refine l_op (o_val r_as ?_); first | refine l_end ?_ | refine l_nil ?_
     refine c_ret ?_; try dsimp only [Exit.then, Exit.inBlock]
     refine e_ret1 (v := .bool false) Tryz.results30 rfl ?_
     refine ⟨_, rfl, ?_⟩
     refine ⟨?_, H.sub (List.nil_sublist _)⟩
     have e : mayT t = false := Bool.eq_false_iff.2 fun h => by
       have h2 := (mayT_iff t).1 h
       have h3 := h2.2.1
       rw [hc18] at h3; cases h3
     rw [e]
   ·
    refine l_no rfl rfl (by exact congrArg Value.bool (congrArg not hc16)) rfl ?_; refine l_no rfl rfl (by exact congrArg Value.bool (congrArg not hc16)) rfl ?_; refine l_no rfl rfl (by exact congrArg Value.bool (congrArg not hc16)) rfl ?_; refine l_no rfl rfl (by exact congrArg Value.bool (congrArg not hc16)) rfl ?_; refine l_op (o_val (r_pick (b := true) (congrArg Value.bool (congrArg not hc16))) ?_); refine l_op (o_val r_mv ?_); refine l_no rfl rfl rfl rfl ?_; refine l_no rfl rfl rfl rfl ?_; refine l_no rfl rfl rfl rfl ?_; refine l_no rfl rfl rfl rfl ?_; refine l_op (o_val (r_pick rfl) ?_); first | refine l_end ?_ | refine l_nil ?_
    repeat refine c_seq ?_
    refine c_yes rfl ?_; repeat refine c_seq ?_
    refine c_region ?_; refine l_op (o_val r_as ?_); first | refine l_end ?_ | refine l_nil ?_
    refine c_ret ?_; try dsimp only [Exit.then, Exit.inBlock]
    refine e_ret1 (v := .bool false) Tryz.results30 rfl ?_
    refine ⟨_, rfl, ?_⟩
    refine ⟨?_, H.sub (List.nil_sublist _)⟩
    have e : mayT t = false := Bool.eq_false_iff.2 fun h => by
      have h2 := (mayT_iff t).1 h
      rcases h2.1 with h3 | h3
      · exact absurd h3 (of_decide_eq_false (decide_eq_false hc2))
      · rw [hc16] at h3; cases h3
    rw [e]
theorem on_ret (w0 : World) (sum : List UInt8) (hsum : sum.length = 32) (x : Gl Cav) (hx : x.ok cavE 2 w0) :
    Ret Tryz.prog 77 [.agg ((sum).map V8).toArray, x.v] w0 fun v w' => v = .agg ((onF sum x.l).map V8).toArray ∧ Hp w0 w' [] [] := by
  refine ret_mk Tryz.func77 rfl Tryz.ntmps77 (by simp) ?_
  have H := Hp.refl w0 []
  have hxl := hx.le
  have hxm := hx.mx
  have hmL : maxLen = 9223372036854775807 := rfl
  repeat refine c_seq ?_
  refine c_region ?_; refine l_op (o_box (v := .agg ((sum).map V8).toArray) H rfl (fun b1 w H hb1 => ?_)); replace H : Hp _ w _ ([.blk b1 ((sum).map V8) 23]) := H
  refine l_op (o_alloc H zc23 (fun b2 w H hb2 => ?_)); replace H : Hp _ w _ ([_, .blk b2 ((List.replicate 32 (0 : UInt8)).map V8) 23]) := H
  first | refine l_end ?_ | refine l_nil ?_
  repeat refine c_seq ?_
  refine c_region ?_; refine l_op (o_val r_mv ?_); refine l_op (o_val (r_lens el44 rfl) ?_); refine l_op (o_val r_mv ?_); first | refine l_end ?_ | refine l_nil ?_
  repeat refine c_seq ?_
  refine c_block ?_; repeat refine c_seq ?_
  refine c_loop (fun (i : Nat) => [(2, .pointer (some ⟨b1, 0, none⟩)), (4, .pointer (some ⟨b2, 0, none⟩)), (7, x.v), (8, VI (x.len : Int)), (9, VI (i : Int))])
    (fun (i : Nat) w => (i ≤ x.len) ∧ Hp w0 w [] ([.blk b1 ((onF sum (x.l.take i)).map V8) 23, .blk b2 ((List.replicate 32 (0 : UInt8)).map V8) 23]))
    (fun (i : Nat) => x.len - i) 0 ⟨rfl, rfl, rfl, rfl, rfl, trivial⟩ ⟨Nat.zero_le _, H⟩ ?_
  clear H
  rintro i τ w ⟨hi, H⟩
  repeat refine c_seq ?_
  refine c_region ?_; refine l_op (o_val (r_bin (a := (i : Int)) (b := (x.len : Int)) rfl rfl (fun _ => b_lss)) ?_); first | refine l_end ?_ | refine l_nil ?_
  by_cases hc3 : (i : Int) < (x.len : Int)
  ·
   repeat refine c_seq ?_
   refine c_yes (by exact congrArg Value.bool (decide_eq_true hc3)) ?_; refine c_skip ?_; repeat refine c_seq ?_
   refine c_block ?_; repeat refine c_seq ?_
   refine c_region ?_; have ah6 := ((hx.up H)).addr (by decide) (by first | omega | (dsimp only; omega))
   obtain ⟨ab4, ao5, ah6⟩ := ah6
   refine l_op (o_val (r_isN i rfl rfl el44 ah6 (by omega) (by (try simp only [Sl.cut]); omega)) ?_); have he8 : ∃ c, x.l[i]? = some c := ⟨_, List.getElem?_eq_getElem (by have := ((hx.up H)).ln; (try dsimp only at this ⊢); omega)⟩
   obtain ⟨e7, he8⟩ := he8
   have hez9 := ((hx.up H)).sz e7 (List.mem_of_getElem? he8)
   refine l_op (o_val (r_ldRow (s := x) (k := i) (hx.up H) ah6 rfl rt63 (by decide) he8) ?_); refine l_op (o_alloc H zc63 (fun b10 w H hb10 => ?_)); replace H : Hp _ w _ ([_, _, .blk b10 ([V8 (0 : UInt8), VI 0]) 63]) := H
   refine l_op (o_stW (C' := [V8 e7.1, VI e7.2]) H (i := 2) rfl rfl rfl cs63 (by simp [Value.oneCell']) (by rfl) (by rfl) (fun w H => ?_)); replace H : Hp _ w _ ([_, _, .blk b10 ([V8 e7.1, VI e7.2]) 63]) := H
   first | refine l_end ?_ | refine l_nil ?_
   repeat refine c_seq ?_
   refine wp_held (fun w => Hp w0 w [] [.blk b2 ((List.replicate 32 (0 : UInt8)).map V8) 23, .blk b10 ([V8 e7.1, VI e7.2]) 63]) mixed ?_; replace H := H.drew
   have HS := H.sub (.cons _ (.cons_cons _ (.cons_cons _ (List.nil_sublist _))))
   refine t_take 0 rfl (by kernel_rfl) (by kernel_rfl) (by kernel_rfl) (fun _ _ _ h => h) (fun w HS => r_slA (h := 32) (m := 32) (lv := none) (hv := none) (mv := none) rfl ar23 rfl rfl rfl (fun w => sbn w)) HS ?_; refine t_take 1 rfl (by kernel_rfl) (by kernel_rfl) (by kernel_rfl) (fun _ _ _ h => h) (fun w HS => r_ldA (C := [V8 e7.1, VI e7.2]) HS (i := 1) rfl rfl rt63 (by rfl)) HS ?_; refine t_step 2 rfl (by kernel_rfl) (o_callR Tryz.func117 rfl rfl rfl (caveat_ret _ e7) ?_); rintro _ w ⟨a11, c12, rfl, Hc⟩
   replace H : Hp _ w _ ([_, _, _, .own a11 9 c12 ((cavB e7).map V8) 5 1]) := H.call Hc
   clear Hc
   refine ⟨H.sub (.cons _ (.cons_cons _ (.cons_cons _ (List.nil_sublist _)))), ?_⟩
   replace HS := H.sub (.cons _ (.cons_cons _ (.cons_cons _ (List.nil_sublist _))))
   refine t_step 3 rfl (by kernel_rfl) (o_bslV ([.slice (hd a11) 9 c12]) H sl58 zc24 rfl (by simp [Value.oneCell']) rfl (by decide) (fun b13 w H hb13 => ?_)); replace H : Hp _ w _ ([_, _, _, _, .own (some b13) 1 1 ([.slice (hd a11) 9 c12]) 24 1]) := H
   refine ⟨H.sub (.cons _ (.cons_cons _ (.cons_cons _ (List.nil_sublist _)))), ?_⟩
   replace HS := H.sub (.cons _ (.cons_cons _ (.cons_cons _ (List.nil_sublist _))))
   refine t_step 4 rfl (by kernel_rfl) (o_callR Tryz.func11 rfl rfl rfl (macOf_ret _ (⟨some ⟨b1, 0, none⟩, 32, 32, onF sum (x.l.take i)⟩ : Sl) (H.slBlkA (i := 0) rfl 32 (show (onF sum (x.l.take i)).length = 32 from onF_len _ hsum _) (by decide)) (hd (some b13)) 1 1 [⟨hd a11, 9, c12, cavB e7⟩] (H.own (i := 4) rfl) rfl (all1 (H.slOwn (i := 3) rfl)) (by omega) (by simp [framed, be_len, cavB_len])) ?_); rintro _ w ⟨rfl, Hc⟩
   replace H : Hp _ w _ ([_, _, _, _, _]) := H.call Hc
   clear Hc
   refine ⟨H.sub (.cons _ (.cons_cons _ (.cons_cons _ (List.nil_sublist _)))), ?_⟩
   replace HS := H.sub (.cons _ (.cons_cons _ (.cons_cons _ (List.nil_sublist _))))
   refine t_step 5 rfl (by kernel_rfl) (o_stA (l' := hmac (onF sum (x.l.take i)) (framed [cavB e7])) H (i := 0) rfl rfl rfl cs23 (show (onF sum (x.l.take i)).length = 32 from onF_len _ hsum _) (show (hmac (onF sum (x.l.take i)) (framed [cavB e7])).length = 32 from hmac_len _ _) (fun w H => ?_)); replace H : Hp _ w _ ([.blk b1 ((hmac (onF sum (x.l.take i)) (framed [cavB e7])).map V8) 23, _, _, _, _]) := H
   refine ⟨H.sub (.cons _ (.cons_cons _ (.cons_cons _ (List.nil_sublist _)))), ?_⟩
   replace HS := H.sub (.cons _ (.cons_cons _ (.cons_cons _ (List.nil_sublist _))))
   refine t_done (by kernel_rfl) ?_
   clear HS
   repeat refine c_seq ?_
   refine c_region ?_; refine l_op (o_val (r_bin (a := (i : Int)) (b := 1) rfl rfl (fun _ => b_add (by omega) (by omega))) ?_); refine l_op (o_val r_mv ?_); first | refine l_end ?_ | refine l_nil ?_
   rw [onF_succ sum x.l i e7 he8] at H
   refine round_end (i + 1) ?_ ?_ ?_
   · exact ⟨rfl, rfl, rfl, rfl, show VI ((i : Int) + 1) = VI ((i + 1 : Nat) : Int) from congrArg VI (by omega), trivial⟩
   · refine ⟨?_, ?_⟩
     · try dsimp only
       exact by omega
     · exact H.sub (.cons_cons _ (.cons_cons _ (List.nil_sublist _)))
   · show x.len - (i + 1 : Nat) < x.len - i; omega
  ·
   repeat refine c_seq ?_
   refine c_no (by exact congrArg Value.bool (decide_eq_false hc3)) ?_; refine c_exit ?_; repeat refine c_seq ?_
   refine c_region ?_; refine l_op (o_val (r_ldAA (l := onF sum (x.l.take i)) H (i := 0) rfl rfl rt23 (show (onF sum (x.l.take i)).length = 32 from onF_len _ hsum _)) ?_); refine l_op (o_stA (l' := onF sum (x.l.take i)) H (i := 1) rfl rfl rfl cs23 (show (List.replicate 32 (0 : UInt8)).length = 32 from (List.length_replicate ..)) (show (onF sum (x.l.take i)).length = 32 from onF_len _ hsum _) (fun w H => ?_)); replace H : Hp _ w _ ([_, .blk b2 ((onF sum (x.l.take i)).map V8) 23]) := H
   first | refine l_end ?_ | refine l_nil ?_
   refine c_ret ?_; try dsimp only [Exit.then, Exit.inBlock]
   refine e_retA (l := onF sum (x.l.take i)) Tryz.results77 H (i := 1) rfl rfl rt23 (show (onF sum (x.l.take i)).length = 32 from onF_len _ hsum _) ?_
   refine ⟨_, rfl, ?_⟩
   have hi2 : i = x.len := by omega
   rw [List.take_of_length_le (by have := hx.ln; omega)]
   exact ⟨rfl, H.sub (List.nil_sublist _)⟩
theorem effect_ret (w0 : World) (t : Tok) (hc : t.cs.ok cavE 2 w0) (_htag : t.tag.length = 32) :
    Ret Tryz.prog 45 [.agg ([V64 t.serial, .string ⟨(t.tenant).toArray⟩, V8 t.rights, VI t.from_, VI t.until_, t.cs.v] ++ (t.tag).map V8).toArray] w0 fun v w' => v = .tuple #[V8 (effF t.rights t.until_ t.cs.l).1, VI (effF t.rights t.until_ t.cs.l).2] ∧ Hp w0 w' [] [] := by
  refine ret_mk Tryz.func45 rfl Tryz.ntmps45 (by simp) ?_
  have H := Hp.refl w0 []
  have hxl := hc.le
  have hxm := hc.mx
  have hmL : maxLen = 9223372036854775807 := rfl
  repeat refine c_seq ?_
  refine c_region ?_; refine l_op (o_box (v := .agg ([V64 t.serial, .string ⟨(t.tenant).toArray⟩, V8 t.rights, VI t.from_, VI t.until_, t.cs.v] ++ (t.tag).map V8).toArray) H rfl (fun b1 w H hb1 => ?_)); replace H : Hp _ w _ ([.blk b1 ([V64 t.serial, .string ⟨(t.tenant).toArray⟩, V8 t.rights, VI t.from_, VI t.until_, t.cs.v] ++ (t.tag).map V8) 46]) := H
  refine l_op (o_val (r_asV (c8 0 (by decide))) ?_); refine l_op (o_val r_as ?_); first | refine l_end ?_ | refine l_nil ?_
  repeat refine c_seq ?_
  refine c_still mixed (by kernel_rfl) ?_; replace H := H.drew
  refine s_op (r_fa rfl fo46_2) ?_; refine s_op (r_ld (v := V8 t.rights) H (i := 0) rfl rfl ct43 rfl) ?_; refine s_op (r_fa rfl fo46_4) ?_; refine s_op (r_ld (v := VI t.until_) H (i := 0) rfl rfl ct2 rfl) ?_; refine s_op (r_as) ?_; refine s_op (r_as) ?_; refine s_nil ?_; repeat refine c_seq ?_
  refine c_region ?_; refine l_op (o_val (r_fa rfl fo46_5) ?_); refine l_op (o_val (r_ld (v := t.cs.v) H (i := 0) rfl rfl ct44 rfl) ?_); refine l_op (o_val (r_lens el44 rfl) ?_); refine l_op (o_val r_mv ?_); first | refine l_end ?_ | refine l_nil ?_
  repeat refine c_seq ?_
  refine c_block ?_; repeat refine c_seq ?_
  refine c_loop (fun (i : Nat) => [(4, V8 ((effF t.rights t.until_ (t.cs.l.take i)).1)), (5, VI ((effF t.rights t.until_ (t.cs.l.take i)).2)), (13, t.cs.v), (14, VI (t.cs.len : Int)), (15, VI (i : Int))])
    (fun (i : Nat) w => (i ≤ t.cs.len) ∧ Hp w0 w [] ([.blk b1 ([V64 t.serial, .string ⟨(t.tenant).toArray⟩, V8 t.rights, VI t.from_, VI t.until_, t.cs.v] ++ (t.tag).map V8) 46]))
    (fun (i : Nat) => t.cs.len - i) 0 ⟨rfl, rfl, rfl, rfl, rfl, trivial⟩ ⟨Nat.zero_le _, H⟩ ?_
  clear H
  rintro i τ w ⟨hi, H⟩
  repeat refine c_seq ?_
  refine c_region ?_; refine l_op (o_val (r_bin (a := (i : Int)) (b := (t.cs.len : Int)) rfl rfl (fun _ => b_lss)) ?_); first | refine l_end ?_ | refine l_nil ?_
  by_cases hc2 : (i : Int) < (t.cs.len : Int)
  ·
   repeat refine c_seq ?_
   refine c_yes (by exact congrArg Value.bool (decide_eq_true hc2)) ?_; refine c_skip ?_; repeat refine c_seq ?_
   refine c_block ?_; repeat refine c_seq ?_
   refine c_region ?_; have ah5 := ((hc.up H)).addr (by decide) (by first | omega | (dsimp only; omega))
   obtain ⟨ab3, ao4, ah5⟩ := ah5
   refine l_op (o_val (r_isN i rfl rfl el44 ah5 (by omega) (by (try simp only [Sl.cut]); omega)) ?_); have he7 : ∃ c, t.cs.l[i]? = some c := ⟨_, List.getElem?_eq_getElem (by have := ((hc.up H)).ln; (try dsimp only at this ⊢); omega)⟩
   obtain ⟨e6, he7⟩ := he7
   have hez8 := ((hc.up H)).sz e6 (List.mem_of_getElem? he7)
   refine l_op (o_val (r_ldRow (s := t.cs) (k := i) (hc.up H) ah5 rfl rt63 (by decide) he7) ?_); refine l_op (o_alloc H zc63 (fun b9 w H hb9 => ?_)); replace H : Hp _ w _ ([_, .blk b9 ([V8 (0 : UInt8), VI 0]) 63]) := H
   refine l_op (o_stW (C' := [V8 e6.1, VI e6.2]) H (i := 1) rfl rfl rfl cs63 (by simp [Value.oneCell']) (by rfl) (by rfl) (fun w H => ?_)); replace H : Hp _ w _ ([_, .blk b9 ([V8 e6.1, VI e6.2]) 63]) := H
   first | refine l_end ?_ | refine l_nil ?_
   repeat refine c_seq ?_
   refine c_still mixed (by kernel_rfl) ?_; replace H := H.drew
   refine s_op (r_mv) ?_; refine s_op (r_fa rfl fo63_0) ?_; refine s_op (r_ld (v := V8 e6.1) H (i := 1) rfl rfl ct43 rfl) ?_; refine s_call Tryz.func81 rfl rfl rfl (rmeet_ret _ ((effF t.rights t.until_ (t.cs.l.take i)).1) (e6.1)) ?_
   refine s_op (r_mv) ?_; refine s_op (r_fa rfl fo63_1) ?_; refine s_op (r_ld (v := VI e6.2) H (i := 1) rfl rfl ct2 rfl) ?_; refine s_op (r_min rfl rfl) ?_; refine s_op (r_as) ?_; refine s_op (r_as) ?_; refine s_nil ?_; repeat refine c_seq ?_
   refine c_region ?_; refine l_op (o_val (r_bin (a := (i : Int)) (b := 1) rfl rfl (fun _ => b_add (by omega) (by omega))) ?_); refine l_op (o_val r_mv ?_); first | refine l_end ?_ | refine l_nil ?_
   have es := effF_succ t.rights t.until_ t.cs.l i e6 he7
   refine round_end (i + 1) ?_ ?_ ?_
   · exact ⟨show V8 (((effF t.rights t.until_ (t.cs.l.take i)).1) &&& e6.1) = V8 ((effF t.rights t.until_ (t.cs.l.take (i + 1 : Nat))).1) from congrArg V8 (by rw [es]), show VI (if e6.2 < (effF t.rights t.until_ (t.cs.l.take i)).2 then e6.2 else (effF t.rights t.until_ (t.cs.l.take i)).2) = VI ((effF t.rights t.until_ (t.cs.l.take (i + 1 : Nat))).2) from congrArg VI (by rw [es]), rfl, rfl, show VI ((i : Int) + 1) = VI ((i + 1 : Nat) : Int) from congrArg VI (by omega), trivial⟩
   · refine ⟨?_, ?_⟩
     · try dsimp only
       exact by omega
     · exact H.sub (.cons_cons _ (List.nil_sublist _))
   · show t.cs.len - (i + 1 : Nat) < t.cs.len - i; omega
  ·
   repeat refine c_seq ?_
   refine c_no (by exact congrArg Value.bool (decide_eq_false hc2)) ?_; refine c_exit ?_; repeat refine c_seq ?_
   refine c_region ?_; refine l_op (o_val r_mv ?_); refine l_op (o_val r_mv ?_); refine l_op (o_val r_as ?_); refine l_op (o_val r_as ?_); first | refine l_end ?_ | refine l_nil ?_
   refine c_ret ?_; try dsimp only [Exit.then, Exit.inBlock]
   refine e_retN (vs := [V8 ((effF t.rights t.until_ (t.cs.l.take i)).1), VI ((effF t.rights t.until_ (t.cs.l.take i)).2)]) _ Tryz.results45 rfl (resT (v := V8 ((effF t.rights t.until_ (t.cs.l.take i)).1)) rfl (resT (v := VI ((effF t.rights t.until_ (t.cs.l.take i)).2)) rfl (resZ))) ?_
   refine ⟨_, rfl, ?_⟩
   rw [List.take_of_length_le (by have := hc.ln; omega)]
   exact ⟨rfl, H.sub (List.nil_sublist _)⟩
end Go.Proofs.YtiepekfcegdkoaaGreatDoor
