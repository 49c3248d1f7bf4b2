import Derived.Test.YtjmbbhnpfmblpaaLaw0b
/- layer 2: the hash of any parts is the document's of all their bytes. -/
namespace Go.Proofs.Ytjmbbhnpfmblpaa
open Go
set_option maxRecDepth 100000
theorem le_sum_mem {a : Nat} : ∀ {l : List Nat}, a ∈ l → a ≤ l.sum
  | b :: l, h => by
    rcases List.mem_cons.1 h with rfl | h
    · simp
    · have := le_sum_mem h; simp; omega
theorem mem_cat {ps : List Sl} {p : Sl} (h : p ∈ ps) : p.l.length ≤ (cat ps).length := by
  rw [cat, List.length_flatMap]
  exact le_sum_mem (List.mem_map_of_mem (f := fun p : Sl => p.l.length) h)
theorem cat_of_map {ts ps : List Sl} (h : ts.map Sl.l = ps.map Sl.l) : cat ts = cat ps := by
  have e : ∀ l : List Sl, cat l = (l.map Sl.l).flatten := fun l => by simp [cat, List.flatMap_def]
  rw [e, e, h]
theorem shaAll_ret (w0 : World) (pa : Option Addr) (pl pc : Nat) (ps : List Sl) (hr : RdS w0 pa (ps.map Sl.v)) (hl : ps.length = pl) (hok : ∀ p ∈ ps, p.ok w0) (hle : pl ≤ pc) (hmx : pc ≤ maxLen) :
    Ret Try.prog 3 [.slice pa pl pc] w0 fun v w' => v = .bool true ∧ Hp w0 w' [] [] := by
  refine ret_mk Try.func3 rfl Try.ntmps3 (by simp) ?_
  have H := Hp.refl w0 []
  have hmL : maxLen = 9223372036854775807 := rfl
  repeat refine c_seq ?_
  refine c_region ?_
  refine l_op (o_val (r_as) ?_)
  first | refine l_end ?_ | refine l_nil ?_
  repeat refine c_seq ?_
  refine c_region ?_
  refine l_op (o_callR Try.func31 rfl rfl rfl (begun2_ret _) ?_)
  rintro _ w ⟨rfl, Hc⟩
  replace H : Hp w0 w [] ([]) := H.call Hc
  clear Hc
  refine l_op (o_val (r_not rfl) ?_)
  first | refine l_end ?_ | refine l_nil ?_
  repeat refine c_seq ?_
  refine c_no rfl ?_
  refine c_skip ?_
  repeat refine c_seq ?_
  refine c_region ?_
  refine l_op (o_val (r_mv) ?_)
  refine l_op (o_val (r_lens el22 rfl) ?_)
  refine l_op (o_val (r_bin (a := (pl : Int)) (b := 8192) rfl rfl (fun _ => b_gtr)) ?_)
  refine l_op (o_val (r_mv) ?_)
  by_cases hc1 : 8192 < (pl : Int)
  · skip
    refine l_no rfl rfl (by exact congrArg Value.bool (decide_eq_true hc1)) rfl ?_
    refine l_no rfl rfl (by exact congrArg Value.bool (decide_eq_true hc1)) rfl ?_
    refine l_no rfl rfl (by exact congrArg Value.bool (decide_eq_true hc1)) rfl ?_
    refine l_op (o_val (r_pick (b := true) (congrArg Value.bool (decide_eq_true hc1))) ?_)
    first | refine l_end ?_ | refine l_nil ?_
    repeat refine c_seq ?_
    refine c_yes rfl ?_
    repeat refine c_seq ?_
    refine c_region ?_
    refine l_op (o_val (r_as) ?_)
    first | refine l_end ?_ | refine l_nil ?_
    refine c_ret ?_
    try dsimp only [Exit.then, Exit.inBlock]
    refine e_ret1 (v := .bool true) Try.results3 rfl ?_
    refine ⟨_, rfl, ?_⟩
    exact ⟨rfl, H.sub (List.nil_sublist _)⟩
  · skip
    refine l_yes rfl rfl (by exact congrArg Value.bool (decide_eq_false hc1)) (o_val (r_mv) ?_)
    refine l_yes rfl rfl (by exact congrArg Value.bool (decide_eq_false hc1)) (o_callR Try.func32 rfl rfl rfl (sum_parts _ pa pl pc ps (H.rd hr (apart_nil _)) hl (fun p hp => (hok p hp).up H (fun _ => apart_nil _)) (by omega) 8192 (by omega)) ?_)
    rintro _ w ⟨n2, rfl, hsum3, hsun4, Hc⟩
    replace H : Hp w0 w [] ([]) := H.call Hc
    clear Hc
    refine l_yes rfl rfl (by exact congrArg Value.bool (decide_eq_false hc1)) (o_val (r_bin (a := (n2 : Int)) (b := 8192) rfl rfl (fun _ => b_gtr)) ?_)
    refine l_op (o_val (r_pick (b := false) (congrArg Value.bool (decide_eq_false hc1))) ?_)
    first | refine l_end ?_ | refine l_nil ?_
    by_cases hc5 : 8192 < (n2 : Int)
    · skip
      repeat refine c_seq ?_
      refine c_yes (by exact congrArg Value.bool (decide_eq_true hc5)) ?_
      repeat refine c_seq ?_
      refine c_region ?_
      refine l_op (o_val (r_as) ?_)
      first | refine l_end ?_ | refine l_nil ?_
      refine c_ret ?_
      try dsimp only [Exit.then, Exit.inBlock]
      refine e_ret1 (v := .bool true) Try.results3 rfl ?_
      refine ⟨_, rfl, ?_⟩
      exact ⟨rfl, H.sub (List.nil_sublist _)⟩
    · skip
      repeat refine c_seq ?_
      refine c_no (by exact congrArg Value.bool (decide_eq_false hc5)) ?_
      refine c_skip ?_
      repeat refine c_seq ?_
      refine c_region ?_
      refine l_op (o_val (r_mv) ?_)
      refine l_op (o_callR Try.func33 rfl rfl rfl (twins_ret _ pa pl pc ps (H.rd hr (apart_nil _)) hl (fun p hp => (hok p hp).up H (fun _ => apart_nil _)) (fun p hp => by have h1 := mem_cat hp; have h2 := (hok p hp).ln; omega) (by omega)) ?_)
      rintro _ w ⟨ta, tc, ts, rfl, he, hrt, hkt, Hc⟩
      replace H : Hp w0 w [] ([]) := H.call Hc
      clear Hc
      have Hb := H
      replace hr := H.rd hr (apart_nil _)
      replace hok : ∀ p ∈ ps, p.ok _ := fun p hp => (hok p hp).up H (fun _ => apart_nil _)
      clear H
      rename World => wb
      have H := Hp.refl wb []
      have htp := len_of_map he
      have hlt : ts.length = pl := by omega
      have hokt : ∀ p ∈ ts, p.ok wb := fun p hp => (hkt p hp).ok
      have hcat : cat ts = cat ps := cat_of_map he
      refine l_op (o_val (r_as) ?_)
      first | refine l_end ?_ | refine l_nil ?_
      repeat refine c_seq ?_
      refine c_region ?_
      refine l_op (o_callR Try.func34 rfl rfl rfl (hnew_ret _) ?_)
      rintro _ w ⟨h6, rfl, Hc⟩
      replace H : Hp wb w [] ([.blk h6 (hashX []) 52]) := H.call Hc
      clear Hc
      refine l_op (o_val (r_as) ?_)
      first | refine l_end ?_ | refine l_nil ?_
      repeat refine c_seq ?_
      refine c_region ?_
      refine l_op (o_val (r_as) ?_)
      first | refine l_end ?_ | refine l_nil ?_
      repeat refine c_seq ?_
      refine c_block ?_
      repeat refine c_seq ?_
      refine c_loop (fun (i : Nat) => [(0, .slice pa pl pc), (3, .slice ta pl tc), (4, .pointer (some ⟨h6, 0, none⟩)), (5, VI (i : Int))])
        (fun (i : Nat) w => (i ≤ pl) ∧ Hp wb w [] ([.blk h6 (hashX (cat (ts.take i))) 52]))
        (fun (i : Nat) => pl - i) 0 ⟨rfl, rfl, rfl, rfl, trivial⟩ ⟨Nat.zero_le _, H⟩ ?_
      clear H
      rintro i τ w ⟨hi, H⟩
      repeat refine c_seq ?_
      refine c_region ?_
      refine l_op (o_val (r_mv) ?_)
      refine l_op (o_val (r_mv) ?_)
      refine l_op (o_val (r_lens el22 rfl) ?_)
      refine l_op (o_val (r_bin (a := (i : Int)) (b := (pl : Int)) rfl rfl (fun _ => b_lss)) ?_)
      first | refine l_end ?_ | refine l_nil ?_
      by_cases hc7 : (i : Int) < (pl : Int)
      · skip
        repeat refine c_seq ?_
        refine c_yes (by exact congrArg Value.bool (decide_eq_true hc7)) ?_
        refine c_skip ?_
        repeat refine c_seq ?_
        refine c_block ?_
        repeat refine c_seq ?_
        refine c_region ?_
        refine l_op (o_val (r_mv) ?_)
        refine l_op (o_val (r_mv) ?_)
        refine l_op (o_val (r_mv) ?_)
        obtain ⟨ab8, ao9, ah10⟩ := (H.rd hrt (apart_nil _)).addr (by simp only [List.length_map]; omega)
        refine l_op (o_val (r_isN i rfl rfl el22 ah10 (by omega) (by (try simp only [Sl.cut]); omega)) ?_)
        obtain ⟨p11, hp12⟩ : ∃ p, ts[i]? = some p := ⟨_, List.getElem?_eq_getElem (by omega)⟩
        have hpok13 := hokt p11 (List.mem_of_getElem? hp12)
        have hpok13n := hpok13.ln
        have hpok13m := hpok13.le
        refine l_op (o_val (r_ldP (k := i) (H.rd hrt (apart_nil _)) ah10 rfl ct29 hp12) ?_)
        refine l_op (o_callR Try.func35 rfl rfl rfl (hwrite_ret (s := p11) H (i := 0) rfl (hpok13.up H (fun _ => apart_nil _)) (hpok13.apart (H.newer (i := 0) rfl rfl))) ?_)
        rintro _ w ⟨rfl, Hc⟩
        clear H
        have H := Hc; clear Hc
        replace H : Hp wb w [] ([.blk h6 (hashX (cat (ts.take i) ++ p11.l)) 52]) := H
        first | refine l_end ?_ | refine l_nil ?_
        repeat refine c_seq ?_
        refine c_region ?_
        refine l_op (o_val (r_mv) ?_)
        refine l_op (o_val (r_bin (a := (i : Int)) (b := 1) rfl rfl (fun _ => b_add (by omega) (by omega))) ?_)
        refine l_op (o_val (r_as) ?_)
        first | refine l_end ?_ | refine l_nil ?_
        have hs1 := cat_succ ts i p11 hp12
        rw [← hs1] at H
        refine round_end (i + 1) ?_ ?_ ?_
        · exact ⟨rfl, rfl, rfl, show VI ((i : Int) + 1) = VI ((i + 1 : Nat) : Int) from congrArg VI (by omega), trivial⟩
        · refine ⟨?_, ?_⟩
          · try dsimp only
            exact by omega
          · exact H
        · show pl - (i + 1 : Nat) < pl - i; omega
      · skip
        repeat refine c_seq ?_
        refine c_no (by exact congrArg Value.bool (decide_eq_false hc7)) ?_
        refine c_exit ?_
        have hi2 : i = pl := by omega
        rw [cat_all ts i (by omega), hcat] at H
        replace H : Hp wb w [] ([.blk h6 (hashX (cat ps)) 52]) := H
        repeat refine c_seq ?_
        refine c_region ?_
        refine l_op (o_val (r_mv) ?_)
        refine l_op (o_callR Try.func36 rfl rfl rfl (of2_ret _ pa pl pc ps (H.rd hr (apart_nil _)) hl (fun p hp => (hok p hp).up H (fun _ => apart_nil _)) (by omega) (by omega)) ?_)
        rintro _ w ⟨rfl, Hc⟩
        replace H : Hp wb w [] ([.blk h6 (hashX (cat ps)) 52]) := H.call Hc
        clear Hc
        refine l_op (o_alloc H zc31 (fun b14 w H hb14 => ?_))
        replace H : Hp wb w [] ([.blk h6 (hashX (cat ps)) 52, .blk b14 ((List.replicate 32 (0 : UInt8)).map V8) 31]) := H
        refine l_op (o_stA (l' := sha256 (cat ps)) H (i := 1) rfl rfl rfl cs31 (show (List.replicate 32 (0 : UInt8)).length = 32 from (List.length_replicate ..)) (show (sha256 (cat ps)).length = 32 from sha256_len _) (fun w H => ?_))
        replace H : Hp wb w [] ([.blk h6 (hashX (cat ps)) 52, .blk b14 ((sha256 (cat ps)).map V8) 31]) := H
        first | refine l_end ?_ | refine l_nil ?_
        repeat refine c_seq ?_
        refine wp_held (fun w => Hp wb w [] [.blk h6 (hashX (cat ps)) 52, .blk b14 ((sha256 (cat ps)).map V8) 31]) mixed ?_
        replace H := H.drew
        have HS := H
        refine t_take 0 rfl (by kernel_rfl) (by kernel_rfl) (by kernel_rfl) (fun _ _ _ h => h) (fun w HS => r_mv) HS ?_
        refine t_take 2 rfl (by kernel_rfl) (by kernel_rfl) (by kernel_rfl) (fun _ _ _ h => h) (fun w HS => r_ldAA (l := sha256 (cat ps)) HS (i := 1) rfl rfl rt31 (show (sha256 (cat ps)).length = 32 from sha256_len _)) HS ?_
        refine t_step 1 rfl (by kernel_rfl) (o_callR Try.func37 rfl rfl rfl (shaN_ret _ ta pl tc ts (H.rd hrt (apart_nil _)) hlt (fun p hp => (hokt p hp).up H (fun _ => apart_nil _)) (by omega)) ?_)
        rintro _ w ⟨rfl, Hc⟩
        replace H : Hp wb w [] ([.blk h6 (hashX (cat ps)) 52, .blk b14 ((sha256 (cat ps)).map V8) 31]) := H.call Hc
        clear Hc
        refine ⟨H, ?_⟩
        replace HS := H
        refine t_take 3 rfl (by kernel_rfl) (by kernel_rfl) (by kernel_rfl) (fun _ _ _ h => h) (fun w HS => r_eqa (a := sha256 (cat ts)) (b := sha256 (cat ps)) Try.underlying31 Try.underlying5 cs5 rfl rfl (show (sha256 (cat ts)).length = 32 from sha256_len _) (show (sha256 (cat ps)).length = 32 from sha256_len _)) HS ?_
        have hk15 : (decide (sha256 (cat ts) = sha256 (cat ps))) = true := decide_eq_true (by rw [hcat])
        refine t_take 4 rfl (by kernel_rfl) (by kernel_rfl) (by kernel_rfl) (fun _ _ _ h => h) (fun w HS => r_mv) HS ?_
        refine t_takeg 5 rfl (by kernel_rfl) (by kernel_rfl) (by kernel_rfl) (fun _ _ _ h => h) (yielded_mk _ _ _ rfl _ rfl (by exact congrArg Value.bool hk15)) (fun w HS => r_mv) HS ?_
        refine t_takeg 7 rfl (by kernel_rfl) (by kernel_rfl) (by kernel_rfl) (fun _ _ _ h => h) (yielded_mk _ _ _ rfl _ rfl (by exact congrArg Value.bool hk15)) (fun w HS => r_ldAA (l := sha256 (cat ps)) HS (i := 1) rfl rfl rt31 (show (sha256 (cat ps)).length = 32 from sha256_len _)) HS ?_
        refine t_stepg 6 rfl (by kernel_rfl) (yielded_mk _ _ _ rfl _ rfl (by exact congrArg Value.bool hk15)) (o_callR Try.func38 rfl rfl rfl (hsum_ret _ h6 (cat ps) (H.blk (i := 0) rfl)) ?_)
        rintro _ w ⟨rfl, Hc⟩
        replace H : Hp wb w [] ([.blk h6 (hashX (cat ps)) 52, .blk b14 ((sha256 (cat ps)).map V8) 31]) := H.call Hc
        clear Hc
        refine ⟨H, ?_⟩
        replace HS := H
        refine t_takeg 8 rfl (by kernel_rfl) (by kernel_rfl) (by kernel_rfl) (fun _ _ _ h => h) (yielded_mk _ _ _ rfl _ rfl (by exact congrArg Value.bool hk15)) (fun w HS => r_eqa (a := sha256 (cat ps)) (b := sha256 (cat ps)) Try.underlying31 Try.underlying5 cs5 rfl rfl (show (sha256 (cat ps)).length = 32 from sha256_len _) (show (sha256 (cat ps)).length = 32 from sha256_len _)) HS ?_
        refine t_take 9 rfl (by kernel_rfl) (by kernel_rfl) (by kernel_rfl) (fun _ _ _ h => h) (fun w HS => r_pick (b := true) (congrArg Value.bool hk15)) HS ?_
        refine t_take 10 rfl (by kernel_rfl) (by kernel_rfl) (by kernel_rfl) (fun _ _ _ h => h) (fun w HS => r_mv) HS ?_
        refine t_takeg 11 rfl (by kernel_rfl) (by kernel_rfl) (by kernel_rfl) (fun _ _ _ h => h) (yielded_mk _ _ _ rfl _ rfl (by exact congrArg Value.bool (decide_eq_true (rfl : sha256 (cat ps) = sha256 (cat ps))))) (fun w HS => r_mv) HS ?_
        refine t_takeg 13 rfl (by kernel_rfl) (by kernel_rfl) (by kernel_rfl) (fun _ _ _ h => h) (yielded_mk _ _ _ rfl _ rfl (by exact congrArg Value.bool (decide_eq_true (rfl : sha256 (cat ps) = sha256 (cat ps))))) (fun w HS => r_ldAA (l := sha256 (cat ps)) HS (i := 1) rfl rfl rt31 (show (sha256 (cat ps)).length = 32 from sha256_len _)) HS ?_
        refine t_stepg 12 rfl (by kernel_rfl) (yielded_mk _ _ _ rfl _ rfl (by exact congrArg Value.bool (decide_eq_true (rfl : sha256 (cat ps) = sha256 (cat ps))))) (o_callR Try.func38 rfl rfl rfl (hsum_ret _ h6 (cat ps) (H.blk (i := 0) rfl)) ?_)
        rintro _ w ⟨rfl, Hc⟩
        replace H : Hp wb w [] ([.blk h6 (hashX (cat ps)) 52, .blk b14 ((sha256 (cat ps)).map V8) 31]) := H.call Hc
        clear Hc
        refine ⟨H, ?_⟩
        replace HS := H
        refine t_takeg 14 rfl (by kernel_rfl) (by kernel_rfl) (by kernel_rfl) (fun _ _ _ h => h) (yielded_mk _ _ _ rfl _ rfl (by exact congrArg Value.bool (decide_eq_true (rfl : sha256 (cat ps) = sha256 (cat ps))))) (fun w HS => r_eqa (a := sha256 (cat ps)) (b := sha256 (cat ps)) Try.underlying31 Try.underlying5 cs5 rfl rfl (show (sha256 (cat ps)).length = 32 from sha256_len _) (show (sha256 (cat ps)).length = 32 from sha256_len _)) HS ?_
        refine t_take 15 rfl (by kernel_rfl) (by kernel_rfl) (by kernel_rfl) (fun _ _ _ h => h) (fun w HS => r_pick (b := true) (congrArg Value.bool (decide_eq_true (rfl : sha256 (cat ps) = sha256 (cat ps))))) HS ?_
        refine t_take 16 rfl (by kernel_rfl) (by kernel_rfl) (by kernel_rfl) (fun _ _ _ h => h) (fun w HS => r_mv) HS ?_
        refine t_takeg 17 rfl (by kernel_rfl) (by kernel_rfl) (by kernel_rfl) (fun _ _ _ h => h) (yielded_mk _ _ _ rfl _ rfl (by exact congrArg Value.bool (decide_eq_true (rfl : sha256 (cat ps) = sha256 (cat ps))))) (fun w HS => r_mv) HS ?_
        refine t_takeg 19 rfl (by kernel_rfl) (by kernel_rfl) (by kernel_rfl) (fun _ _ _ h => h) (yielded_mk _ _ _ rfl _ rfl (by exact congrArg Value.bool (decide_eq_true (rfl : sha256 (cat ps) = sha256 (cat ps))))) (fun w HS => r_mv) HS ?_
        refine t_stepg 18 rfl (by kernel_rfl) (yielded_mk _ _ _ rfl _ rfl (by exact congrArg Value.bool (decide_eq_true (rfl : sha256 (cat ps) = sha256 (cat ps))))) (o_callR Try.func39 rfl rfl rfl (hlen_ret _ h6 (cat ps) (H.blk (i := 0) rfl)) ?_)
        rintro _ w' ⟨rfl, hw16⟩
        rw [hw16]; clear hw16 w'
        refine ⟨H, ?_⟩
        replace HS := H
        refine t_stepg 20 rfl (by kernel_rfl) (yielded_mk _ _ _ rfl _ rfl (by exact congrArg Value.bool (decide_eq_true (rfl : sha256 (cat ps) = sha256 (cat ps))))) (o_callR Try.func32 rfl rfl rfl (sum_parts _ pa pl pc ps (H.rd hr (apart_nil _)) hl (fun p hp => (hok p hp).up H (fun _ => apart_nil _)) (by omega) 8192 (by omega)) ?_)
        rintro _ w ⟨n17, rfl, hsum18, hsun19, Hc⟩
        replace H : Hp wb w [] ([.blk h6 (hashX (cat ps)) 52, .blk b14 ((sha256 (cat ps)).map V8) 31]) := H.call Hc
        clear Hc
        refine ⟨H, ?_⟩
        replace HS := H
        refine t_takeg 21 rfl (by kernel_rfl) (by kernel_rfl) (by kernel_rfl) (fun _ _ _ h => h) (yielded_mk _ _ _ rfl _ rfl (by exact congrArg Value.bool (decide_eq_true (rfl : sha256 (cat ps) = sha256 (cat ps))))) (fun w HS => r_conv (v := ((UInt64.ofNat n17).toNat : Int)) Try.underlying3 Try.underlying35 rfl (w_u64_N n17 (by omega))) HS ?_
        refine t_takeg 22 rfl (by kernel_rfl) (by kernel_rfl) (by kernel_rfl) (fun _ _ _ h => h) (yielded_mk _ _ _ rfl _ rfl (by exact congrArg Value.bool (decide_eq_true (rfl : sha256 (cat ps) = sha256 (cat ps))))) (fun w HS => r_bin (a := ((UInt64.ofNat (cat ps).length).toNat : Int)) (b := ((UInt64.ofNat n17).toNat : Int)) rfl rfl (fun _ => b_eqlB true (decide_eq_true (by rw [hsun19 (by omega)])))) HS ?_
        refine t_take 23 rfl (by kernel_rfl) (by kernel_rfl) (by kernel_rfl) (fun _ _ _ h => h) (fun w HS => r_pick (b := true) (congrArg Value.bool (decide_eq_true (rfl : sha256 (cat ps) = sha256 (cat ps))))) HS ?_
        refine t_take 24 rfl (by kernel_rfl) (by kernel_rfl) (by kernel_rfl) (fun _ _ _ h => h) (fun w HS => r_mv) HS ?_
        refine t_takeg 25 rfl (by kernel_rfl) (by kernel_rfl) (by kernel_rfl) (fun _ _ _ h => h) (yielded_mk _ _ _ rfl _ rfl rfl) (fun w HS => r_mv) HS ?_
        refine t_takeg 26 rfl (by kernel_rfl) (by kernel_rfl) (by kernel_rfl) (fun _ _ _ h => h) (yielded_mk _ _ _ rfl _ rfl rfl) (fun w HS => r_mv) HS ?_
        refine t_stepg 27 rfl (by kernel_rfl) (yielded_mk _ _ _ rfl _ rfl rfl) (o_callR Try.func40 rfl rfl rfl (allkept_ret _ ta pl tc ts (H.rd hrt (apart_nil _)) hlt (fun p hp => (hkt p hp).up H (apart_nil _)) pa pl pc ps (H.rd hr (apart_nil _)) hl (fun p hp => (hok p hp).up H (fun _ => apart_nil _)) he (fun p hp => by have h1 := mem_cat hp; have h2 := (hok p hp).ln; omega) (by omega)) ?_)
        rintro _ w ⟨rfl, Hc⟩
        replace H : Hp wb w [] ([.blk h6 (hashX (cat ps)) 52, .blk b14 ((sha256 (cat ps)).map V8) 31]) := H.call Hc
        clear Hc
        refine ⟨H, ?_⟩
        replace HS := H
        refine t_take 28 rfl (by kernel_rfl) (by kernel_rfl) (by kernel_rfl) (fun _ _ _ h => h) (fun w HS => r_pick rfl) HS ?_
        refine t_take 29 rfl (by kernel_rfl) (by kernel_rfl) (by kernel_rfl) (fun _ _ _ h => h) (fun w HS => r_as) HS ?_
        refine t_done (by kernel_rfl) ?_
        clear HS
        refine c_ret ?_
        try dsimp only [Exit.then, Exit.inBlock]
        refine e_ret1 (v := .bool true) Try.results3 rfl ?_
        refine ⟨_, rfl, ?_⟩
        exact ⟨rfl, (Hb.call H).sub (List.nil_sublist _)⟩
end Go.Proofs.Ytjmbbhnpfmblpaa
