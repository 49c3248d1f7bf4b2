import Derived.Test.YtjmbbhnpfmblpaaRefSum
import Derived.Test.YtjmbbhnpfmblpaaMac2
/- what the statements lean on: sums of lengths, texts joined, what was kept; the hash of parts as the document has it. -/
namespace Go.Proofs.Ytjmbbhnpfmblpaa
open Go
set_option maxRecDepth 100000
theorem cat_le (ps : List Sl) (i : Nat) : (cat (ps.take i)).length ≤ (cat ps).length := by
  have : cat ps = cat (ps.take i) ++ cat (ps.drop i) := by rw [cat, cat, cat, ← List.flatMap_append, List.take_append_drop]
  rw [this]; simp
theorem cat_all (ps : List Sl) (i : Nat) (h : ps.length = i) : cat (ps.take i) = cat ps := by rw [List.take_of_length_le (by omega)]
theorem joined_ret (w0 : World) (pa : Option Addr) (pl pc : Nat) (ps : List Sl) (hr : RdS w0 pa (ps.map Sl.v)) (hl : ps.length = pl) (hok : ∀ p ∈ ps, p.ok w0) (hp63 : pl ≤ 1048576) (hB : (cat ps).length ≤ 1048576) :
    Ret Try.prog 51 [.slice pa pl pc] w0 fun v w' => ∃ a cap, v = .slice (hd a) (cat ps).length cap ∧ Hp w0 w' [] [.own a (cat ps).length cap ((cat ps).map V8) 5 1] := by
  refine ret_mk Try.func51 rfl Try.ntmps51 (by simp) ?_
  have H := Hp.refl w0 []
  repeat refine c_seq ?_
  refine c_region ?_
  refine l_op (o_val (r_as) ?_)
  first | refine l_end ?_ | refine l_nil ?_
  repeat refine c_seq ?_
  refine c_region ?_
  refine l_op (o_val (r_as) ?_)
  first | refine l_end ?_ | refine l_nil ?_
  repeat refine c_seq ?_
  refine c_region ?_
  refine l_op (o_val (r_as) ?_)
  first | refine l_end ?_ | refine l_nil ?_
  repeat refine c_seq ?_
  refine c_block ?_
  repeat refine c_seq ?_
  refine c_loop3 (fun (i : Nat) (a : Option Nat) (c : Nat) => [(0, .slice pa pl pc), (3, .slice (hd a) ((cat (ps.take i)).length) c), (4, VI (i : Int))])
    (fun (i : Nat) (a : Option Nat) (c : Nat) w => (i ≤ pl) ∧ Hp w0 w [] ([.own a ((cat (ps.take i)).length) c ((cat (ps.take i)).map V8) 5 1]))
    (fun (i : Nat) (a : Option Nat) (c : Nat) => pl - i) 0 none 0 ⟨rfl, rfl, rfl, trivial⟩ ⟨Nat.zero_le _, (H.nilEnd 5 1)⟩ ?_
  clear H
  rintro i a c τ w ⟨hi, H⟩
  repeat refine c_seq ?_
  refine c_region ?_
  refine l_op (o_val (r_mv) ?_)
  refine l_op (o_val (r_mv) ?_)
  refine l_op (o_val (r_lens el22 rfl) ?_)
  refine l_op (o_val (r_bin (a := (i : Int)) (b := (pl : Int)) rfl rfl (fun _ => b_lss)) ?_)
  first | refine l_end ?_ | refine l_nil ?_
  by_cases hc1 : (i : Int) < (pl : Int)
  · skip
    repeat refine c_seq ?_
    refine c_yes (by exact congrArg Value.bool (decide_eq_true hc1)) ?_
    refine c_skip ?_
    repeat refine c_seq ?_
    refine c_block ?_
    repeat refine c_seq ?_
    refine c_region ?_
    refine l_op (o_val (r_mv) ?_)
    refine l_op (o_val (r_mv) ?_)
    refine l_op (o_val (r_mv) ?_)
    obtain ⟨ab2, ao3, ah4⟩ := (H.rd hr (apart_nil _)).addr (by simp only [List.length_map]; omega)
    refine l_op (o_val (r_isN i rfl rfl el22 ah4 (by omega) (by (try simp only [Sl.cut]); omega)) ?_)
    obtain ⟨p5, hp6⟩ : ∃ p, ps[i]? = some p := ⟨_, List.getElem?_eq_getElem (by omega)⟩
    have hpok7 := hok p5 (List.mem_of_getElem? hp6)
    have hpok7n := hpok7.ln
    have hpok7m := hpok7.le
    refine l_op (o_val (r_ldP (k := i) (H.rd hr (apart_nil _)) ah4 rfl ct29 hp6) ?_)
    have hs1 := cat_succ ps i p5 hp6
    have hs2 := cat_le ps (i + 1)
    have hs3 : (cat (ps.take (i + 1))).length = (cat (ps.take i)).length + p5.l.length := by rw [hs1]; simp
    refine l_op (o_appB (s := p5) (l' := cat (ps.take (i + 1))) (len' := (cat (ps.take (i + 1))).length) hs1.symm (by omega) H (i := 0) rfl sl29 Try.underlying29 rfl rfl (hpok7.up H (fun _ => apart_nil _)) (by omega) (fun a8 c9 w H => ?_))
    replace H : Hp w0 w [] ([.own a8 ((cat (ps.take (i + 1))).length) c9 ((cat (ps.take (i + 1))).map V8) 5 1]) := H
    refine l_op (o_val (r_as) ?_)
    first | refine l_end ?_ | refine l_nil ?_
    repeat refine c_seq ?_
    refine c_region ?_
    refine l_op (o_val (r_mv) ?_)
    refine l_op (o_val (r_bin (a := (i : Int)) (b := 1) rfl rfl (fun _ => b_add (by omega) (by omega))) ?_)
    refine l_op (o_val (r_as) ?_)
    first | refine l_end ?_ | refine l_nil ?_
    refine round_end (i + 1, a8, c9) ?_ ?_ ?_
    · exact ⟨rfl, rfl, show VI ((i : Int) + 1) = VI ((i + 1 : Nat) : Int) from congrArg VI (by omega), trivial⟩
    · refine ⟨?_, ?_⟩
      · try dsimp only
        exact by omega
      · exact H
    · show pl - (i + 1 : Nat) < pl - i; omega
  · skip
    repeat refine c_seq ?_
    refine c_no (by exact congrArg Value.bool (decide_eq_false hc1)) ?_
    refine c_exit ?_
    have hi2 : i = pl := by omega
    subst hi2
    rw [cat_all ps i hl] at H
    rw [cat_all ps i hl]
    replace H : Hp w0 w [] ([.own a ((cat ps).length) c ((cat ps).map V8) 5 1]) := H
    repeat refine c_seq ?_
    refine c_region ?_
    refine l_op (o_val (r_mv) ?_)
    refine l_op (o_val (r_as) ?_)
    first | refine l_end ?_ | refine l_nil ?_
    refine c_ret ?_
    try dsimp only [Exit.then, Exit.inBlock]
    refine e_ret1 (v := .slice (hd a) ((cat ps).length) c) Try.results51 rfl ?_
    refine ⟨_, rfl, ?_⟩
    exact ⟨_, _, rfl, H⟩
theorem of2_ret (w0 : World) (pa : Option Addr) (pl pc : Nat) (ps : List Sl) (hr : RdS w0 pa (ps.map Sl.v)) (hl : ps.length = pl) (hok : ∀ p ∈ ps, p.ok w0) (hp63 : pl ≤ 1048576) (hB : (cat ps).length ≤ 1048576) :
    Ret Try.prog 36 [.slice pa pl pc] w0 fun v w' => v = .agg ((sha256 (cat ps)).map V8).toArray ∧ Hp w0 w' [] [] := by
  refine ret_mk Try.func36 rfl Try.ntmps36 (by simp) ?_
  have H := Hp.refl w0 []
  repeat refine c_seq ?_
  refine c_region ?_
  refine l_op (o_alloc H zc31 (fun b1 w H hb1 => ?_))
  replace H : Hp w0 w [] ([.blk b1 ((List.replicate 32 (0 : UInt8)).map V8) 31]) := H
  first | refine l_end ?_ | refine l_nil ?_
  repeat refine c_seq ?_
  refine c_region ?_
  refine l_op (o_val (r_as) ?_)
  first | refine l_end ?_ | refine l_nil ?_
  repeat refine c_seq ?_
  refine c_region ?_
  refine l_op (o_val (r_as) ?_)
  first | refine l_end ?_ | refine l_nil ?_
  repeat refine c_seq ?_
  refine c_block ?_
  repeat refine c_seq ?_
  refine c_loop3 (fun (i : Nat) (a : Option Nat) (c : Nat) => [(0, .slice pa pl pc), (2, .pointer (some ⟨b1, 0, none⟩)), (3, .slice (hd a) ((cat (ps.take i)).length) c), (4, VI (i : Int))])
    (fun (i : Nat) (a : Option Nat) (c : Nat) w => (i ≤ pl) ∧ Hp w0 w [] ([.blk b1 ((List.replicate 32 (0 : UInt8)).map V8) 31, .own a ((cat (ps.take i)).length) c ((cat (ps.take i)).map V8) 5 1]))
    (fun (i : Nat) (a : Option Nat) (c : Nat) => pl - i) 0 none 0 ⟨rfl, rfl, rfl, rfl, trivial⟩ ⟨Nat.zero_le _, (H.nilEnd 5 1)⟩ ?_
  clear H
  rintro i a c τ w ⟨hi, H⟩
  repeat refine c_seq ?_
  refine c_region ?_
  refine l_op (o_val (r_mv) ?_)
  refine l_op (o_val (r_mv) ?_)
  refine l_op (o_val (r_lens el22 rfl) ?_)
  refine l_op (o_val (r_bin (a := (i : Int)) (b := (pl : Int)) rfl rfl (fun _ => b_lss)) ?_)
  first | refine l_end ?_ | refine l_nil ?_
  by_cases hc2 : (i : Int) < (pl : Int)
  · skip
    repeat refine c_seq ?_
    refine c_yes (by exact congrArg Value.bool (decide_eq_true hc2)) ?_
    refine c_skip ?_
    repeat refine c_seq ?_
    refine c_block ?_
    repeat refine c_seq ?_
    refine c_region ?_
    refine l_op (o_val (r_mv) ?_)
    refine l_op (o_val (r_mv) ?_)
    refine l_op (o_val (r_mv) ?_)
    obtain ⟨ab3, ao4, ah5⟩ := (H.rd hr (apart_nil _)).addr (by simp only [List.length_map]; omega)
    refine l_op (o_val (r_isN i rfl rfl el22 ah5 (by omega) (by (try simp only [Sl.cut]); omega)) ?_)
    obtain ⟨p6, hp7⟩ : ∃ p, ps[i]? = some p := ⟨_, List.getElem?_eq_getElem (by omega)⟩
    have hpok8 := hok p6 (List.mem_of_getElem? hp7)
    have hpok8n := hpok8.ln
    have hpok8m := hpok8.le
    refine l_op (o_val (r_ldP (k := i) (H.rd hr (apart_nil _)) ah5 rfl ct29 hp7) ?_)
    have hs1 := cat_succ ps i p6 hp7
    have hs2 := cat_le ps (i + 1)
    have hs3 : (cat (ps.take (i + 1))).length = (cat (ps.take i)).length + p6.l.length := by rw [hs1]; simp
    refine l_op (o_appB (s := p6) (l' := cat (ps.take (i + 1))) (len' := (cat (ps.take (i + 1))).length) hs1.symm (by omega) H (i := 1) rfl sl29 Try.underlying29 rfl rfl (hpok8.up H (fun _ => apart_nil _)) (by omega) (fun a9 c10 w H => ?_))
    replace H : Hp w0 w [] ([.blk b1 ((List.replicate 32 (0 : UInt8)).map V8) 31, .own a9 ((cat (ps.take (i + 1))).length) c10 ((cat (ps.take (i + 1))).map V8) 5 1]) := H
    refine l_op (o_val (r_as) ?_)
    first | refine l_end ?_ | refine l_nil ?_
    repeat refine c_seq ?_
    refine c_region ?_
    refine l_op (o_val (r_mv) ?_)
    refine l_op (o_val (r_bin (a := (i : Int)) (b := 1) rfl rfl (fun _ => b_add (by omega) (by omega))) ?_)
    refine l_op (o_val (r_as) ?_)
    first | refine l_end ?_ | refine l_nil ?_
    refine round_end (i + 1, a9, c10) ?_ ?_ ?_
    · exact ⟨rfl, rfl, rfl, show VI ((i : Int) + 1) = VI ((i + 1 : Nat) : Int) from congrArg VI (by omega), trivial⟩
    · refine ⟨?_, ?_⟩
      · try dsimp only
        exact by omega
      · exact H
    · show pl - (i + 1 : Nat) < pl - i; omega
  · skip
    repeat refine c_seq ?_
    refine c_no (by exact congrArg Value.bool (decide_eq_false hc2)) ?_
    refine c_exit ?_
    have hi2 : i = pl := by omega
    subst hi2
    rw [cat_all ps i hl] at H
    rw [cat_all ps i hl]
    replace H : Hp w0 w [] ([.blk b1 ((List.replicate 32 (0 : UInt8)).map V8) 31, .own a ((cat ps).length) c ((cat ps).map V8) 5 1]) := H
    repeat refine c_seq ?_
    refine c_region ?_
    refine l_op (o_val (r_mv) ?_)
    refine l_op (o_callR Try.func45 rfl rfl rfl (sum2_ret _ ⟨hd a, (cat ps).length, c, cat ps⟩ (H.slOwn (i := 1) rfl) (by (try dsimp only); omega)) ?_)
    rintro _ w ⟨rfl, Hc⟩
    replace H : Hp w0 w [] ([.blk b1 ((List.replicate 32 (0 : UInt8)).map V8) 31, .own a ((cat ps).length) c ((cat ps).map V8) 5 1]) := H.call Hc
    clear Hc
    refine l_op (o_stA (l' := sha256 (cat ps)) H (i := 0) rfl rfl rfl cs31 (show (List.replicate 32 (0 : UInt8)).length = 32 from (List.length_replicate ..)) (show (sha256 (cat ps)).length = 32 from sha256_len _) (fun w H => ?_))
    replace H : Hp w0 w [] ([.blk b1 ((sha256 (cat ps)).map V8) 31, .own a ((cat ps).length) c ((cat ps).map V8) 5 1]) := H
    first | refine l_end ?_ | refine l_nil ?_
    refine c_ret ?_
    try dsimp only [Exit.then, Exit.inBlock]
    refine e_retA (l := sha256 (cat ps)) Try.results36 H (i := 0) rfl rfl rt31 (show (sha256 (cat ps)).length = 32 from sha256_len _) ?_
    refine ⟨_, rfl, ?_⟩
    exact ⟨rfl, H.sub (List.nil_sublist _)⟩
theorem of2_2_ret (w0 : World) (cap : Nat) (s u : Sl) {a : Option Addr} (hr : RdS w0 a [s.v, u.v]) (hs : s.ok w0) (hu : u.ok w0) (hB : s.len + u.len ≤ 1000000) :
    Ret Try.prog 36 [.slice a 2 cap] w0 fun v w' => v = .agg ((sha256 (s.l ++ u.l)).map V8).toArray ∧ Hp w0 w' [] [] := by
  have e : cat [s, u] = s.l ++ u.l := by simp [cat]
  have h := of2_ret w0 a 2 cap [s, u] hr rfl (all2 hs hu) (by omega) (by rw [e]; have := hs.ln; have := hu.ln; simp; omega)
  rwa [e] at h
theorem sum_parts (w0 : World) (pa : Option Addr) (pl pc : Nat) (ps : List Sl) (hr : RdS w0 pa (ps.map Sl.v)) (hl : ps.length = pl) (hok : ∀ p ∈ ps, p.ok w0) (hp63 : pl ≤ 1099511627776) (most : Nat) (hm : most ≤ 1048576) :
    Ret Try.prog 32 [.slice pa pl pc, VI (most : Int)] w0 fun v w' => ∃ n : Nat, v = VI (n : Int) ∧ ((n : Int) ≤ (most : Int) → (cat ps).length = n) ∧ ((cat ps).length ≤ most → n = (cat ps).length) ∧ Hp w0 w' [] [] := by
  refine ret_mk Try.func32 rfl Try.ntmps32 (by simp) ?_
  have H := Hp.refl w0 []
  repeat refine c_seq ?_
  refine c_region ?_
  refine l_op (o_val (r_as) ?_)
  first | refine l_end ?_ | refine l_nil ?_
  repeat refine c_seq ?_
  refine c_region ?_
  refine l_op (o_val (r_as) ?_)
  first | refine l_end ?_ | refine l_nil ?_
  repeat refine c_seq ?_
  refine c_region ?_
  refine l_op (o_val (r_as) ?_)
  first | refine l_end ?_ | refine l_nil ?_
  repeat refine c_seq ?_
  refine c_block ?_
  repeat refine c_seq ?_
  refine c_loop (fun (i : Nat) => [(0, .slice pa pl pc), (1, VI (most : Int)), (5, VI (((cat (ps.take i)).length : Nat) : Int)), (6, VI (i : Int))])
    (fun (i : Nat) w => (i ≤ pl ∧ (cat (ps.take i)).length ≤ 2 * most) ∧ Hp w0 w [] ([]))
    (fun (i : Nat) => pl - i) 0 ⟨rfl, rfl, rfl, rfl, trivial⟩ ⟨⟨Nat.zero_le _, Nat.zero_le _⟩, H⟩ ?_
  clear H
  rintro i τ w ⟨⟨hi, hn⟩, H⟩
  repeat refine c_seq ?_
  refine c_region ?_
  refine l_op (o_val (r_mv) ?_)
  refine l_op (o_val (r_mv) ?_)
  refine l_op (o_val (r_lens el22 rfl) ?_)
  refine l_op (o_val (r_bin (a := (i : Int)) (b := (pl : Int)) rfl rfl (fun _ => b_lss)) ?_)
  refine l_op (o_val (r_mv) ?_)
  by_cases hc1 : (i : Int) < (pl : Int)
  · skip
    refine l_yes rfl rfl (by exact congrArg Value.bool (decide_eq_true hc1)) (o_val (r_mv) ?_)
    refine l_yes rfl rfl (by exact congrArg Value.bool (decide_eq_true hc1)) (o_val (r_mv) ?_)
    refine l_yes rfl rfl (by exact congrArg Value.bool (decide_eq_true hc1)) (o_val (r_bin (a := (((cat (ps.take i)).length : Nat) : Int)) (b := (most : Int)) rfl rfl (fun _ => b_leq)) ?_)
    refine l_op (o_val (r_pick (b := true) (congrArg Value.bool (decide_eq_true hc1))) ?_)
    first | refine l_end ?_ | refine l_nil ?_
    by_cases hc2 : (((cat (ps.take i)).length : Nat) : Int) ≤ (most : Int)
    · skip
      repeat refine c_seq ?_
      refine c_yes (by exact congrArg Value.bool (decide_eq_true hc2)) ?_
      refine c_skip ?_
      repeat refine c_seq ?_
      refine c_block ?_
      repeat refine c_seq ?_
      refine c_region ?_
      refine l_op (o_val (r_mv) ?_)
      refine l_op (o_val (r_mv) ?_)
      obtain ⟨ab3, ao4, ah5⟩ := (H.rd hr (apart_nil _)).addr (by simp only [List.length_map]; omega)
      refine l_op (o_val (r_isN i rfl rfl el22 ah5 (by omega) (by (try simp only [Sl.cut]); omega)) ?_)
      obtain ⟨p6, hp7⟩ : ∃ p, ps[i]? = some p := ⟨_, List.getElem?_eq_getElem (by omega)⟩
      have hpok8 := hok p6 (List.mem_of_getElem? hp7)
      have hpok8n := hpok8.ln
      have hpok8m := hpok8.le
      refine l_op (o_val (r_ldP (k := i) (H.rd hr (apart_nil _)) ah5 rfl ct29 hp7) ?_)
      refine l_op (o_val (r_lens el29 rfl) ?_)
      refine l_op (o_val (r_mv) ?_)
      refine l_op (o_val (r_bin (a := (p6.len : Int)) (b := (most : Int)) rfl rfl (fun _ => b_gtr)) ?_)
      first | refine l_end ?_ | refine l_nil ?_
      by_cases hc9 : (most : Int) < (p6.len : Int)
      · skip
        repeat refine c_seq ?_
        refine c_yes (by exact congrArg Value.bool (decide_eq_true hc9)) ?_
        repeat refine c_seq ?_
        refine c_region ?_
        refine l_op (o_val (r_mv) ?_)
        refine l_op (o_val (r_bin (a := (most : Int)) (b := 1) rfl rfl (fun _ => b_add (by omega) (by omega))) ?_)
        refine l_op (o_val (r_as) ?_)
        first | refine l_end ?_ | refine l_nil ?_
        refine c_ret ?_
        try dsimp only [Exit.then, Exit.inBlock]
        refine e_ret1 (v := VI ((most : Int) + 1)) Try.results32 rfl ?_
        refine ⟨_, rfl, ?_⟩
        have hs1 := cat_succ ps i p6 hp7
        have hs2 := cat_le ps (i + 1)
        have hs3 : (cat (ps.take (i + 1))).length = (cat (ps.take i)).length + p6.l.length := by rw [hs1]; simp
        exact ⟨most + 1, rfl, fun h => by omega, fun h => by omega, H⟩
      · skip
        repeat refine c_seq ?_
        refine c_no (by exact congrArg Value.bool (decide_eq_false hc9)) ?_
        refine c_skip ?_
        repeat refine c_seq ?_
        refine c_region ?_
        refine l_op (o_val (r_mv) ?_)
        refine l_op (o_val (r_mv) ?_)
        refine l_op (o_val (r_mv) ?_)
        refine l_op (o_val (r_isN i rfl rfl el22 ah5 (by omega) (by (try simp only [Sl.cut]); omega)) ?_)
        refine l_op (o_val (r_ldP (k := i) (H.rd hr (apart_nil _)) ah5 rfl ct29 hp7) ?_)
        refine l_op (o_val (r_lens el29 rfl) ?_)
        refine l_op (o_val (r_bin (a := (((cat (ps.take i)).length : Nat) : Int)) (b := (p6.len : Int)) rfl rfl (fun _ => b_add (by omega) (by omega))) ?_)
        refine l_op (o_val (r_as) ?_)
        first | refine l_end ?_ | refine l_nil ?_
        repeat refine c_seq ?_
        refine c_region ?_
        refine l_op (o_val (r_mv) ?_)
        refine l_op (o_val (r_bin (a := (i : Int)) (b := 1) rfl rfl (fun _ => b_add (by omega) (by omega))) ?_)
        refine l_op (o_val (r_as) ?_)
        first | refine l_end ?_ | refine l_nil ?_
        have hs1 := cat_succ ps i p6 hp7
        have hs3 : (cat (ps.take (i + 1))).length = (cat (ps.take i)).length + p6.l.length := by rw [hs1]; simp
        refine round_end (i + 1) ?_ ?_ ?_
        · exact ⟨rfl, rfl, show VI ((((cat (ps.take i)).length : Nat) : Int) + (p6.len : Int)) = VI (((cat (ps.take (i + 1 : Nat))).length : Nat) : Int) from congrArg VI (by omega), show VI ((i : Int) + 1) = VI ((i + 1 : Nat) : Int) from congrArg VI (by omega), trivial⟩
        · refine ⟨?_, ?_⟩
          · try dsimp only
            exact ⟨by omega, by omega⟩
          · exact H
        · show pl - (i + 1 : Nat) < pl - i; omega
    · skip
      repeat refine c_seq ?_
      refine c_no (by exact congrArg Value.bool (decide_eq_false hc2)) ?_
      refine c_exit ?_
      repeat refine c_seq ?_
      refine c_region ?_
      refine l_op (o_val (r_mv) ?_)
      refine l_op (o_val (r_as) ?_)
      first | refine l_end ?_ | refine l_nil ?_
      refine c_ret ?_
      try dsimp only [Exit.then, Exit.inBlock]
      refine e_ret1 (v := VI (((cat (ps.take i)).length : Nat) : Int)) Try.results32 rfl ?_
      refine ⟨_, rfl, ?_⟩
      have hs2 := cat_le ps i
      refine ⟨(cat (ps.take i)).length, rfl, fun h => ?_, fun h => ?_, H⟩
      · have hi2 : i = pl := by omega
        rw [cat_all ps i (by omega)]
      · have hi2 : i = pl := by omega
        rw [cat_all ps i (by omega)]
  · skip
    refine l_no rfl rfl (by exact congrArg Value.bool (decide_eq_false hc1)) rfl ?_
    refine l_no rfl rfl (by exact congrArg Value.bool (decide_eq_false hc1)) rfl ?_
    refine l_no rfl rfl (by exact congrArg Value.bool (decide_eq_false hc1)) rfl ?_
    refine l_op (o_val (r_pick (b := false) (congrArg Value.bool (decide_eq_false hc1))) ?_)
    first | refine l_end ?_ | refine l_nil ?_
    repeat refine c_seq ?_
    refine c_no rfl ?_
    refine c_exit ?_
    repeat refine c_seq ?_
    refine c_region ?_
    refine l_op (o_val (r_mv) ?_)
    refine l_op (o_val (r_as) ?_)
    first | refine l_end ?_ | refine l_nil ?_
    refine c_ret ?_
    try dsimp only [Exit.then, Exit.inBlock]
    refine e_ret1 (v := VI (((cat (ps.take i)).length : Nat) : Int)) Try.results32 rfl ?_
    refine ⟨_, rfl, ?_⟩
    have hs2 := cat_le ps i
    refine ⟨(cat (ps.take i)).length, rfl, fun h => ?_, fun h => ?_, H⟩
    · have hi2 : i = pl := by omega
      rw [cat_all ps i (by omega)]
    · have hi2 : i = pl := by omega
      rw [cat_all ps i (by omega)]
theorem full_get (s : Sl) (i : Nat) (h1 : s.l.length ≤ i) (h2 : i < s.l.length + 3) : s.full.l.getD i 0 = 229 := by
  rw [Sl.full, List.getD_eq_getElem?_getD, List.getElem?_append_right h1, List.getElem?_replicate, if_pos (by omega)]; rfl
theorem kept_ret (w0 : World) (s u : Sl) (hs : s.kept w0) (hu : u.ok w0) (e : s.l = u.l) (hm : u.len ≤ 1099511627776) :
    Ret Try.prog 54 [s.v, u.v] w0 fun v w' => v = .bool true ∧ Hp w0 w' [] [] := by
  refine ret_mk Try.func54 rfl Try.ntmps54 (by simp) ?_
  have H := Hp.refl w0 []
  have hsr := hs.room
  have hsl := hs.ok.ln
  have hul := hu.ln
  have hfl : s.full.len = s.cap := rfl
  have hll : s.len = u.len := by rw [← hsl, ← hul, e]
  repeat refine c_seq ?_
  refine c_region ?_
  refine l_op (o_val (r_as) ?_)
  first | refine l_end ?_ | refine l_nil ?_
  repeat refine c_seq ?_
  refine c_region ?_
  refine l_op (o_val (r_mv) ?_)
  refine l_op (o_val (r_mv) ?_)
  refine l_op (o_val (r_caps el29 rfl) ?_)
  refine l_op (o_val (r_slH (h := s.cap) (m := s.cap) (hv := some (VI (s.cap : Int))) rfl el29 rfl rfl rfl (fun w => by exact sbh s.cap rfl (by omega) w)) ?_)
  refine l_op (o_val (r_as) ?_)
  first | refine l_end ?_ | refine l_nil ?_
  repeat refine c_seq ?_
  refine c_region ?_
  refine l_op (o_val (r_mv) ?_)
  refine l_op (o_val (r_b2S (s := s) Try.underlying29 Try.underlying5 Try.underlying9 rfl ((hs.up H (apart_nil _)).ok)) ?_)
  refine l_op (o_val (r_mv) ?_)
  refine l_op (o_val (r_b2S (s := u) Try.underlying29 Try.underlying5 Try.underlying9 rfl (hu.up H (fun _ => apart_nil _))) ?_)
  refine l_op (o_val (r_strne (a := s.l) (b := u.l) rfl rfl) ?_)
  have hk1 : (!(decide (s.l = u.l))) = false := by rw [decide_eq_true e]; rfl
  refine l_op (o_val (r_mv) ?_)
  refine l_yes rfl rfl (by exact congrArg Value.bool hk1) (o_val (r_mv) ?_)
  refine l_yes rfl rfl (by exact congrArg Value.bool hk1) (o_val (r_lens el29 rfl) ?_)
  refine l_yes rfl rfl (by exact congrArg Value.bool hk1) (o_val (r_mv) ?_)
  refine l_yes rfl rfl (by exact congrArg Value.bool hk1) (o_val (r_lens el29 rfl) ?_)
  refine l_yes rfl rfl (by exact congrArg Value.bool hk1) (o_val (r_bin (a := (u.len : Int)) (b := 3) rfl rfl (fun _ => b_add (by omega) (by omega))) ?_)
  refine l_yes rfl rfl (by exact congrArg Value.bool hk1) (o_val (r_bin (a := (s.full.len : Int)) (b := (u.len : Int) + 3) rfl rfl (fun _ => b_lssB false (decide_eq_false (by omega)))) ?_)
  refine l_op (o_val (r_pick (b := false) (congrArg Value.bool hk1)) ?_)
  first | refine l_end ?_ | refine l_nil ?_
  repeat refine c_seq ?_
  refine c_no rfl ?_
  refine c_skip ?_
  repeat refine c_seq ?_
  refine c_region ?_
  refine l_op (o_val (r_mv) ?_)
  refine l_op (o_val (r_lens el29 rfl) ?_)
  refine l_op (o_val (r_as) ?_)
  first | refine l_end ?_ | refine l_nil ?_
  repeat refine c_seq ?_
  refine c_block ?_
  repeat refine c_seq ?_
  refine c_loop (fun (i : Nat) => [(1, u.v), (5, s.full.v), (6, VI (i : Int))])
    (fun (i : Nat) w => (u.len ≤ i ∧ i ≤ u.len + 3) ∧ Hp w0 w [] ([]))
    (fun (i : Nat) => u.len + 3 - i) u.len ⟨rfl, rfl, rfl, trivial⟩ ⟨⟨Nat.le_refl _, by omega⟩, H⟩ ?_
  clear H
  rintro i τ w ⟨⟨hi, hi3⟩, H⟩
  repeat refine c_seq ?_
  refine c_region ?_
  refine l_op (o_val (r_mv) ?_)
  refine l_op (o_val (r_mv) ?_)
  refine l_op (o_val (r_lens el29 rfl) ?_)
  refine l_op (o_val (r_bin (a := (u.len : Int)) (b := 3) rfl rfl (fun _ => b_add (by omega) (by omega))) ?_)
  refine l_op (o_val (r_bin (a := (i : Int)) (b := (u.len : Int) + 3) rfl rfl (fun _ => b_lss)) ?_)
  first | refine l_end ?_ | refine l_nil ?_
  by_cases hc2 : (i : Int) < (u.len : Int) + 3
  · skip
    repeat refine c_seq ?_
    refine c_yes (by exact congrArg Value.bool (decide_eq_true hc2)) ?_
    refine c_skip ?_
    repeat refine c_seq ?_
    refine c_block ?_
    repeat refine c_seq ?_
    refine c_region ?_
    refine l_op (o_val (r_mv) ?_)
    refine l_op (o_val (r_mv) ?_)
    have ah5 := (((hs.up H (apart_nil _)).all)).addr (by (try simp only [Sl.cut]); omega)
    obtain ⟨ab3, ao4, ah5⟩ := ah5
    refine l_op (o_val (r_isN i rfl rfl el29 ah5 (by omega) (by (try simp only [Sl.cut]); omega)) ?_)
    refine l_op (o_val (r_ldB (s := s.full) (k := i) ((hs.up H (apart_nil _)).all) ah5 rfl ct5 (by (try simp only [Sl.cut]); omega)) ?_)
    refine l_op (o_val (r_bin (a := (((s.full.l).getD i 0).toNat : Int)) (b := 229) rfl rfl (fun _ => b_neqB false (decide_eq_false (fun hne => hne (by rw [full_get s i (by omega) (by omega)]; rfl))))) ?_)
    first | refine l_end ?_ | refine l_nil ?_
    repeat refine c_seq ?_
    refine c_no rfl ?_
    refine c_skip ?_
    repeat refine c_seq ?_
    refine c_region ?_
    refine l_op (o_val (r_mv) ?_)
    refine l_op (o_val (r_bin (a := (i : Int)) (b := 1) rfl rfl (fun _ => b_add (by omega) (by omega))) ?_)
    refine l_op (o_val (r_as) ?_)
    first | refine l_end ?_ | refine l_nil ?_
    refine round_end (i + 1) ?_ ?_ ?_
    · exact ⟨rfl, rfl, show VI ((i : Int) + 1) = VI ((i + 1 : Nat) : Int) from congrArg VI (by omega), trivial⟩
    · refine ⟨?_, ?_⟩
      · try dsimp only
        exact ⟨by omega, by omega⟩
      · exact H
    · show u.len + 3 - (i + 1 : Nat) < u.len + 3 - i; omega
  · skip
    repeat refine c_seq ?_
    refine c_no (by exact congrArg Value.bool (decide_eq_false hc2)) ?_
    refine c_exit ?_
    repeat refine c_seq ?_
    refine c_region ?_
    refine l_op (o_val (r_as) ?_)
    first | refine l_end ?_ | refine l_nil ?_
    refine c_ret ?_
    try dsimp only [Exit.then, Exit.inBlock]
    refine e_ret1 (v := .bool true) Try.results54 rfl ?_
    refine ⟨_, rfl, ?_⟩
    exact ⟨rfl, H⟩
end Go.Proofs.Ytjmbbhnpfmblpaa
