/- Lemmas for the statement DiskCopies, part 4: rules of operations, walks through functions, plain laws. -/
import Derived.Test.YtncmcgcilijfkaaDiskCopiesG3
namespace Go.Proofs.Ytncmcgcilijfkaa
open Go
set_option maxRecDepth 100000
theorem Hp.ownU {w0 w : World} {S : List Nat} {L L1 Lr T : List Ch} (h : Hp w0 w S (L ++ T)) (hp : L.Perm (L1 ++ Lr)) : Own w L1 := (h.permT hp).own1 (Lr := Lr ++ T) (List.append_assoc ..)
theorem Hp.callU {w0 w w' : World} {S : List Nat} {L L1 Lr L1' L' T : List Ch} (h : Hp w0 w S (L ++ T)) (hp : L.Perm (L1 ++ Lr)) (hc : Hp w w' (keys L1) L1') (hq : (Lr ++ L1').Perm L') : Hp w0 w' S (L' ++ T) := by
  have h1 := (h.permT hp).callG (L1 := L1) (Lr := Lr ++ T) (List.append_assoc ..) hc
  refine h1.permL (List.Perm.trans ?_ (hq.append_right T))
  rw [List.append_assoc, List.append_assoc]
  exact List.Perm.append_left _ List.perm_append_comm
theorem Hp.callFront {w0 w w' : World} {S : List Nat} {L L' : List Ch} (h : Hp w0 w S L) (hc : Hp w w' [] L') : Hp w0 w' S (L' ++ L) := (h.call hc).permL List.perm_append_comm
theorem apart_blk {w0 w : World} {S : List Nat} {L L1 Lr T : List Ch} (H : Hp w0 w S (L ++ T)) (hp : L.Perm (L1 ++ Lr)) {b o : Nat} {C : List Value} {e : TypeId} (hc : .blk b C e ∈ Lr) : Apart (some ⟨b, o, none⟩) (keys (L1 ++ T)) := by
  have h1 := (H.permT hp).permL (L' := (L1 ++ T) ++ Lr) (by
    rw [List.append_assoc, List.append_assoc]
    exact List.Perm.append_left _ List.perm_append_comm)
  intro x hx hm
  obtain ⟨d, hd1, hd2⟩ := mem_keys.1 hm
  cases hx
  exact (List.pairwise_append.1 h1.nd).2.2 d hd1 _ hc b hd2 rfl
theorem full_get (s : Sl) (i : Nat) (h1 : s.l.length ≤ i) (h2 : i < s.l.length + 3) : s.full.l.getD i 0 = 229 := by
  rw [Sl.full, List.getD_eq_getElem?_getD, List.getElem?_append_right h1, List.getElem?_replicate, if_pos (by omega)]; rfl
theorem kept_ret (w0 : World) (s u : Sl) (hs : s.kept w0) (hu : u.ok w0) (e : s.l = u.l) (hm : u.len ≤ 1099511627776) :
    Ret Try.prog 62 [s.v, u.v] w0 fun v w' => v = .bool true ∧ Hp w0 w' [] [] := by
  refine ret_mk Try.func62 rfl Try.ntmps62 (by simp) ?_
  have H := Hp.refl w0 []
  have hsr := hs.room
  have hsl := hs.ok.ln
  have hul := hu.ln
  have hfl : s.full.len = s.cap := rfl
  have hll : s.len = u.len := by rw [← hsl, ← hul, e]
  repeat refine c_seq ?_
  refine c_region ?_
  refine l_op (o_val (r_as) ?_)
  first | refine l_end ?_ | refine l_nil ?_
  repeat refine c_seq ?_
  refine c_region ?_
  refine l_op (o_val (r_mv) ?_)
  refine l_op (o_val (r_mv) ?_)
  refine l_op (o_val (r_caps el57 rfl) ?_)
  refine l_op (o_val (r_slH (h := s.cap) (m := s.cap) (hv := some (VI (s.cap : Int))) rfl el57 rfl rfl rfl (fun w => by exact sbh s.cap rfl (by omega) w)) ?_)
  refine l_op (o_val (r_as) ?_)
  first | refine l_end ?_ | refine l_nil ?_
  repeat refine c_seq ?_
  refine c_region ?_
  refine l_op (o_val (r_mv) ?_)
  refine l_op (o_val (r_b2S (s := s) Try.underlying57 Try.underlying5 Try.underlying9 rfl ((hs.up H (apart_nil _)).ok)) ?_)
  refine l_op (o_val (r_mv) ?_)
  refine l_op (o_val (r_b2S (s := u) Try.underlying57 Try.underlying5 Try.underlying9 rfl (hu.up H (fun _ => apart_nil _))) ?_)
  refine l_op (o_val (r_strne (a := s.l) (b := u.l) rfl rfl) ?_)
  have hk1 : (!(decide (s.l = u.l))) = false := by rw [decide_eq_true e]; rfl
  refine l_op (o_val (r_mv) ?_)
  refine l_yes rfl rfl (by exact congrArg Value.bool hk1) (o_val (r_mv) ?_)
  refine l_yes rfl rfl (by exact congrArg Value.bool hk1) (o_val (r_lens el57 rfl) ?_)
  refine l_yes rfl rfl (by exact congrArg Value.bool hk1) (o_val (r_mv) ?_)
  refine l_yes rfl rfl (by exact congrArg Value.bool hk1) (o_val (r_lens el57 rfl) ?_)
  refine l_yes rfl rfl (by exact congrArg Value.bool hk1) (o_val (r_bin (a := (u.len : Int)) (b := 3) rfl rfl (fun _ => b_add (by omega) (by omega))) ?_)
  refine l_yes rfl rfl (by exact congrArg Value.bool hk1) (o_val (r_bin (a := (s.full.len : Int)) (b := (u.len : Int) + 3) rfl rfl (fun _ => b_lssB false (decide_eq_false (by omega)))) ?_)
  refine l_op (o_val (r_pick (b := false) (congrArg Value.bool hk1)) ?_)
  first | refine l_end ?_ | refine l_nil ?_
  repeat refine c_seq ?_
  refine c_no rfl ?_
  refine c_skip ?_
  repeat refine c_seq ?_
  refine c_region ?_
  refine l_op (o_val (r_mv) ?_)
  refine l_op (o_val (r_lens el57 rfl) ?_)
  refine l_op (o_val (r_as) ?_)
  first | refine l_end ?_ | refine l_nil ?_
  repeat refine c_seq ?_
  refine c_block ?_
  repeat refine c_seq ?_
  refine c_loop (fun (i : Nat) => [(1, u.v), (5, s.full.v), (6, VI (i : Int))])
    (fun (i : Nat) w => (u.len ≤ i ∧ i ≤ u.len + 3) ∧ Hp w0 w [] ([]))
    (fun (i : Nat) => u.len + 3 - i) u.len ⟨rfl, rfl, rfl, trivial⟩ ⟨⟨Nat.le_refl _, by omega⟩, H⟩ ?_
  clear H
  rintro i τ w ⟨⟨hi, hi3⟩, H⟩
  repeat refine c_seq ?_
  refine c_region ?_
  refine l_op (o_val (r_mv) ?_)
  refine l_op (o_val (r_mv) ?_)
  refine l_op (o_val (r_lens el57 rfl) ?_)
  refine l_op (o_val (r_bin (a := (u.len : Int)) (b := 3) rfl rfl (fun _ => b_add (by omega) (by omega))) ?_)
  refine l_op (o_val (r_bin (a := (i : Int)) (b := (u.len : Int) + 3) rfl rfl (fun _ => b_lss)) ?_)
  first | refine l_end ?_ | refine l_nil ?_
  by_cases hc2 : (i : Int) < (u.len : Int) + 3
  ·
   repeat refine c_seq ?_
   refine c_yes (by exact congrArg Value.bool (decide_eq_true hc2)) ?_
   refine c_skip ?_
   repeat refine c_seq ?_
   refine c_block ?_
   repeat refine c_seq ?_
   refine c_region ?_
   refine l_op (o_val (r_mv) ?_)
   refine l_op (o_val (r_mv) ?_)
   have ah5 := (((hs.up H (apart_nil _)).all)).addr (by (try simp only [Sl.cut]); omega)
   obtain ⟨ab3, ao4, ah5⟩ := ah5
   refine l_op (o_val (r_isN i rfl rfl el57 ah5 (by omega) (by (try simp only [Sl.cut]); omega)) ?_)
   refine l_op (o_val (r_ldB (s := s.full) (k := i) ((hs.up H (apart_nil _)).all) ah5 rfl ct5 (by (try simp only [Sl.cut]); omega)) ?_)
   refine l_op (o_val (r_bin (a := (((s.full.l).getD i 0).toNat : Int)) (b := 229) rfl rfl (fun _ => b_neqB false (decide_eq_false (fun hne => hne (by rw [full_get s i (by omega) (by omega)]; rfl))))) ?_)
   first | refine l_end ?_ | refine l_nil ?_
   repeat refine c_seq ?_
   refine c_no rfl ?_
   refine c_skip ?_
   repeat refine c_seq ?_
   refine c_region ?_
   refine l_op (o_val (r_mv) ?_)
   refine l_op (o_val (r_bin (a := (i : Int)) (b := 1) rfl rfl (fun _ => b_add (by omega) (by omega))) ?_)
   refine l_op (o_val (r_as) ?_)
   first | refine l_end ?_ | refine l_nil ?_
   refine round_end (i + 1) ?_ ?_ ?_
   · exact ⟨rfl, rfl, show VI ((i : Int) + 1) = VI ((i + 1 : Nat) : Int) from congrArg VI (by omega), trivial⟩
   · refine ⟨?_, ?_⟩
     · try dsimp only
       exact ⟨by omega, by omega⟩
     · exact H
   · show u.len + 3 - (i + 1 : Nat) < u.len + 3 - i; omega
  ·
   repeat refine c_seq ?_
   refine c_no (by exact congrArg Value.bool (decide_eq_false hc2)) ?_
   refine c_exit ?_
   repeat refine c_seq ?_
   refine c_region ?_
   refine l_op (o_val (r_as) ?_)
   first | refine l_end ?_ | refine l_nil ?_
   refine c_ret ?_
   try dsimp only [Exit.then, Exit.inBlock]
   refine e_ret1 (v := .bool true) Try.results62 rfl ?_
   refine ⟨_, rfl, ?_⟩
   exact ⟨rfl, H.sub (List.nil_sublist _)⟩
theorem spoil05_ret (w0 : World) :
    Ret Try.prog 63 [.slice none 0 0] w0 fun v w' => v = .tuple #[] ∧ Hp w0 w' [] [] := by
  refine ret_mk Try.func63 rfl Try.ntmps63 (by simp) ?_
  have H := Hp.refl w0 []
  repeat refine c_seq ?_
  refine c_region ?_
  refine l_op (o_val (r_mv) ?_)
  refine l_op (o_val (r_mv) ?_)
  refine l_op (o_val (r_caps el57 rfl) ?_)
  refine l_op (o_val (r_slH (h := 0) (m := 0) (hv := some (VI 0)) rfl el57 rfl rfl rfl (fun w => by exact sbh 0 rfl (by omega) w)) ?_)
  refine l_op (o_val (r_as) ?_)
  first | refine l_end ?_ | refine l_nil ?_
  repeat refine c_seq ?_
  refine c_region ?_
  refine l_op (o_val (r_as) ?_)
  first | refine l_end ?_ | refine l_nil ?_
  repeat refine c_seq ?_
  refine c_block ?_
  repeat refine c_seq ?_
  refine c_loop (fun (i : Nat) => [(2, .slice none 0 0), (3, VI (i : Int))])
    (fun (i : Nat) w => (i = 0) ∧ Hp w0 w [] ([]))
    (fun (i : Nat) => 0) 0 ⟨rfl, rfl, trivial⟩ ⟨rfl, H⟩ ?_
  clear H
  rintro i τ w ⟨hi, H⟩
  repeat refine c_seq ?_
  refine c_region ?_
  refine l_op (o_val (r_mv) ?_)
  refine l_op (o_val (r_mv) ?_)
  refine l_op (o_val (r_lens el57 rfl) ?_)
  refine l_op (o_val (r_bin (a := (i : Int)) (b := 0) rfl rfl (fun _ => b_lssB false (decide_eq_false (by omega)))) ?_)
  first | refine l_end ?_ | refine l_nil ?_
  repeat refine c_seq ?_
  refine c_no rfl ?_
  refine c_exit ?_
  try simp only [Exit.then, Exit.inBlock, ↓reduceIte]
  refine e_norm ?_
  refine e_ret0 Try.results63 ?_
  refine ⟨_, rfl, ?_⟩
  exact ⟨rfl, H⟩
theorem spoilOwn5_ret {w0 w : World} {S : List Nat} {L : List Ch} {i : Nat} {a : Option Nat} {len cap : Nat} {l : List UInt8} (H : Hp w0 w S L) (hi : L[i]? = some (.own a len cap (l.map V8) 5 1)) :
    Ret Try.prog 63 [.slice (hd a) len cap] w fun v w' => v = .tuple #[] ∧ Hp w0 w' S (L.set i (.own a len cap ((List.replicate len (90 : UInt8)).map V8) 5 1)) := by
  have hok := H.has _ (List.mem_of_getElem? hi)
  cases a with
  | none =>
    obtain ⟨h1, h2, h3⟩ := id hok
    subst h1 h2
    refine (spoil05_ret w).mono fun v w' ⟨hv, Hc⟩ => ⟨hv, ?_⟩
    have := H.call Hc
    rw [List.append_nil] at this
    exact this.conv hi rfl fun _ => ⟨rfl, rfl, rfl⟩
  | some b =>
    obtain ⟨h1, h2, h3, rest, hw, h5⟩ := id hok
    refine (spoilN_ret w b len cap (l.map V8 ++ rest) hw (by omega) h2 h3).mono fun v w' ⟨hv, Hc⟩ => ⟨hv, ?_⟩
    have hc' : Hp w w' [b] [.own (some b) len cap ((List.replicate len (90 : UInt8)).map V8) 5 1] := by
      refine Hc.conv (i := 0) rfl rfl fun hblk => ⟨by simp, h2, h3, List.replicate (cap - len) (V8 90), ?_, by simp; omega⟩
      simp only [Ch.ok] at hblk
      rw [hblk, List.map_replicate, List.replicate_append_replicate, show len + (cap - len) = cap by omega]
    have := H.callAt hi rfl rfl hc'
    rwa [List.append_nil] at this
theorem spoilBlk5_ret {w0 w : World} {S : List Nat} {L : List Ch} {i b len cap : Nat} {C : List Value} (H : Hp w0 w S L) (hi : L[i]? = some (.blk b C 5)) (hC : C.length = cap) (hlc : len ≤ cap) (hm : cap ≤ maxLen) :
    Ret Try.prog 63 [.slice (some ⟨b, 0, none⟩) len cap] w fun v w' => v = .tuple #[] ∧ Hp w0 w' S (L.set i (.blk b (List.replicate cap (V8 90)) 5)) := by
  refine (spoilN_ret w b len cap C (H.blk hi) hC hlc hm).mono fun v w' ⟨hv, Hc⟩ => ⟨hv, ?_⟩
  have := H.callAt hi rfl rfl Hc
  rwa [List.append_nil] at this
theorem dNew_ok {n : Nat} (hn : 32 ≤ n ∧ n ≤ 4096) : (dNew n).ok := by
  have hl : (dNew n).last.length = n := by simp [dNew]
  refine ⟨by rw [hl]; exact hn, fun l h => ?_, fun i l h => (by cases h), (by simp [dNew]), (by simp [dNew]), (by rw [hl]; simp [dNew]; omega), (by simp [dNew])⟩
  have h' : l ∈ List.replicate n (List.replicate 512 (0 : UInt8)) := h
  rw [List.eq_of_mem_replicate h', List.length_replicate]
set_option maxHeartbeats 4000000 in
theorem rnew_ret (w0 : World) (n : Nat) (hn : 32 ≤ n ∧ n ≤ 4096) :
    Ret Try.prog 38 [VI (n : Int)] w0 fun v w' => ∃ rb z, v = .pointer (some ⟨rb, 0, none⟩) ∧ z.D = dNew n ∧ z.ok ∧ Hp w0 w' [] (rkc rb z) := by
  refine ret_mk Try.func38 rfl Try.ntmps38 (by simp) ?_
  have H := Hp.refl w0 []
  have hmL : maxLen = 9223372036854775807 := rfl
  repeat refine c_seq ?_
  refine c_region ?_
  refine l_op (o_val (r_as) ?_)
  first | refine l_end ?_ | refine l_nil ?_
  repeat refine c_seq ?_
  refine c_region ?_
  refine l_op (o_val (r_mv) ?_)
  refine l_op (o_val (r_bin (a := (n : Int)) (b := 32) rfl rfl (fun _ => b_lss)) ?_)
  refine l_op (o_val (r_mv) ?_)
  by_cases hc1 : (n : Int) < 32
  ·
   refine l_no rfl rfl (by exact congrArg Value.bool (decide_eq_true hc1)) rfl ?_
   refine l_no rfl rfl (by exact congrArg Value.bool (decide_eq_true hc1)) rfl ?_
   refine l_op (o_val (r_pick (b := true) (congrArg Value.bool (decide_eq_true hc1))) ?_)
   first | refine l_end ?_ | refine l_nil ?_
   repeat refine c_seq ?_
   refine c_yes rfl ?_
   repeat refine c_seq ?_
   refine c_region ?_
   refine l_op (o_val (r_as) ?_)
   first | refine l_end ?_ | refine l_nil ?_
   refine c_ret ?_
   try dsimp only [Exit.then, Exit.inBlock]
   refine e_ret1 (v := .pointer none) Try.results38 rfl ?_
   refine ⟨_, rfl, ?_⟩
   exfalso; omega
  ·
   refine l_yes rfl rfl (by exact congrArg Value.bool (decide_eq_false hc1)) (o_val (r_mv) ?_)
   refine l_yes rfl rfl (by exact congrArg Value.bool (decide_eq_false hc1)) (o_val (r_bin (a := (n : Int)) (b := 4096) rfl rfl (fun _ => b_gtr)) ?_)
   refine l_op (o_val (r_pick (b := false) (congrArg Value.bool (decide_eq_false hc1))) ?_)
   first | refine l_end ?_ | refine l_nil ?_
   by_cases hc2 : 4096 < (n : Int)
   ·
    repeat refine c_seq ?_
    refine c_yes (by exact congrArg Value.bool (decide_eq_true hc2)) ?_
    repeat refine c_seq ?_
    refine c_region ?_
    refine l_op (o_val (r_as) ?_)
    first | refine l_end ?_ | refine l_nil ?_
    refine c_ret ?_
    try dsimp only [Exit.then, Exit.inBlock]
    refine e_ret1 (v := .pointer none) Try.results38 rfl ?_
    refine ⟨_, rfl, ?_⟩
    exfalso; omega
   ·
    repeat refine c_seq ?_
    refine c_no (by exact congrArg Value.bool (decide_eq_false hc2)) ?_
    refine c_skip ?_
    repeat refine c_seq ?_
    refine c_region ?_
    refine l_op (o_val (r_bld' (cells := ([.slice none 0 0, .slice none 0 0, .bool false, VI (-1), VI 0, VI (-1), .string ⟨(([] : List UInt8)).toArray⟩, VI 0, VI 0]).toArray) (pv := [(3, VI (-1)), (5, VI (-1))]) bd106 rfl rfl) ?_)
    refine l_op (o_box (v := .agg ([.slice none 0 0, .slice none 0 0, .bool false, VI (-1), VI 0, VI (-1), .string ⟨(([] : List UInt8)).toArray⟩, VI 0, VI 0]).toArray) H rfl (fun b3 w H hb3 => ?_))
    replace H : Hp _ w _ ([.blk b3 ([.slice none 0 0, .slice none 0 0, .bool false, VI (-1), VI 0, VI (-1), .string ⟨(([] : List UInt8)).toArray⟩, VI 0, VI 0]) 106]) := H
    refine l_op (o_val (r_as) ?_)
    first | refine l_end ?_ | refine l_nil ?_
    repeat refine c_seq ?_
    refine c_region ?_
    refine l_op (o_makeB 512 H sl57 zc5 rfl rfl (by omega) (by omega) (by omega) (fun b4 w H hb4 => ?_))
    replace H : Hp _ w _ ([_, .own (some b4) 512 512 ((List.replicate 512 (0 : UInt8)).map V8) 5 1]) := H
    refine l_op (o_val (r_b2S (s := ⟨hd (some b4), 512, 512, List.replicate 512 (0 : UInt8)⟩) Try.underlying57 Try.underlying5 Try.underlying9 rfl (H.slOwn (i := 1) rfl)) ?_)
    refine l_op (o_val (r_as) ?_)
    first | refine l_end ?_ | refine l_nil ?_
    repeat refine c_seq ?_
    refine c_region ?_
    refine l_op (o_val (r_as) ?_)
    first | refine l_end ?_ | refine l_nil ?_
    repeat refine c_seq ?_
    refine c_block ?_
    repeat refine c_seq ?_
    refine c_loop5 (fun (i : Nat) (a1 : Option Nat) (c1 : Nat) (a2 : Option Nat) (c2 : Nat) => [(0, VI (n : Int)), (3, .pointer (some ⟨b3, 0, none⟩)), (4, .string ⟨(List.replicate 512 (0 : UInt8)).toArray⟩), (5, VI (i : Int))])
      (fun (i : Nat) (a1 : Option Nat) (c1 : Nat) (a2 : Option Nat) (c2 : Nat) w => (i ≤ n) ∧ Hp w0 w [] ([.blk b3 ([.slice (hd a1) i c1, .slice (hd a2) i c2, .bool false, VI (-1), VI 0, VI (-1), .string ⟨(([] : List UInt8)).toArray⟩, VI 0, VI 0]) 106, .own a1 i c1 ((List.replicate i (List.replicate 512 (0 : UInt8))).flatMap strD) 9 1, .own a2 i c2 ((List.replicate i ([] : List UInt8)).flatMap strD) 9 1]))
      (fun (i : Nat) (a1 : Option Nat) (c1 : Nat) (a2 : Option Nat) (c2 : Nat) => n - i) 0 none 0 none 0 ⟨rfl, rfl, rfl, rfl, trivial⟩ ⟨Nat.zero_le _, (((H.sub (.cons_cons _ (List.nil_sublist _))).nilEnd 9 1).nilEnd 9 1)⟩ ?_
    clear H
    rintro i a1 c1 a2 c2 τ w ⟨hi, H⟩
    repeat refine c_seq ?_
    refine c_region ?_
    refine l_op (o_val (r_mv) ?_)
    refine l_op (o_val (r_mv) ?_)
    refine l_op (o_val (r_bin (a := (i : Int)) (b := (n : Int)) rfl rfl (fun _ => b_lss)) ?_)
    first | refine l_end ?_ | refine l_nil ?_
    by_cases hc5 : (i : Int) < (n : Int)
    ·
     repeat refine c_seq ?_
     refine c_yes (by exact congrArg Value.bool (decide_eq_true hc5)) ?_
     refine c_skip ?_
     repeat refine c_seq ?_
     refine c_block ?_
     repeat refine c_seq ?_
     refine wp_held (fun w => Hp w0 w [] []) mixed ?_
     replace H := H.drew
     have HS := H.sub (List.nil_sublist _)
     refine t_take 0 rfl (by kernel_rfl) (by kernel_rfl) (by kernel_rfl) (fun _ _ _ h => h) (fun w HS => r_mv) HS ?_
     refine t_take 1 rfl (by kernel_rfl) (by kernel_rfl) (by kernel_rfl) (fun _ _ _ h => h) (fun w HS => r_mv) HS ?_
     refine t_take 2 rfl (by kernel_rfl) (by kernel_rfl) (by kernel_rfl) (fun _ _ _ h => h) (fun w HS => r_mv) HS ?_
     refine t_take 3 rfl (by kernel_rfl) (by kernel_rfl) (by kernel_rfl) (fun _ _ _ h => h) (fun w HS => r_nilc rfl) HS ?_
     refine t_take 4 rfl (by kernel_rfl) (by kernel_rfl) (by kernel_rfl) (fun _ _ _ h => h) (fun w HS => r_fa rfl fo106_0) HS ?_
     refine t_take 6 rfl (by kernel_rfl) (by kernel_rfl) (by kernel_rfl) (fun _ _ _ h => h) (fun w HS => r_mv) HS ?_
     refine t_take 9 rfl (by kernel_rfl) (by kernel_rfl) (by kernel_rfl) (fun _ _ _ h => h) (fun w HS => r_mv) HS ?_
     refine t_take 10 rfl (by kernel_rfl) (by kernel_rfl) (by kernel_rfl) (fun _ _ _ h => h) (fun w HS => r_nilc rfl) HS ?_
     refine t_take 11 rfl (by kernel_rfl) (by kernel_rfl) (by kernel_rfl) (fun _ _ _ h => h) (fun w HS => r_fa rfl fo106_1) HS ?_
     refine t_all [5, 7, 12, 13] (by kernel_rfl) (by simp) (all_cons (w_op 5 rfl ?_) (all_cons (w_op 7 rfl ?_) (all_cons (w_op 12 rfl ?_) (all_cons (w_op 13 rfl ?_) (all_nil)))))
     ·
      refine (o_val (r_ld (v := .slice (hd a1) i c1) H (i := 0) rfl rfl ct49 rfl) ?_)
      refine ⟨H.sub (List.nil_sublist _), ?_⟩
      replace HS := H.sub (List.nil_sublist _)
      refine t_all [7, 12, 13] (by kernel_rfl) (by simp) (all_cons (w_op 7 rfl ?_) (all_cons (w_op 12 rfl ?_) (all_cons (w_op 13 rfl ?_) (all_nil))))
      ·
       refine (o_bslV ([.string ⟨(List.replicate 512 (0 : UInt8)).toArray⟩]) H sl49 zc9 rfl (by simp [Value.oneCell']) rfl (by decide) (fun b6 w H hb6 => ?_))
       replace H : Hp _ w _ ([_, _, _, .own (some b6) 1 1 (([List.replicate 512 (0 : UInt8)]).flatMap strD) 9 1]) := H
       refine ⟨H.sub (List.nil_sublist _), ?_⟩
       replace HS := H.sub (List.nil_sublist _)
       refine t_all [8, 12, 13] (by kernel_rfl) (by simp) (all_cons (w_op 8 rfl ?_) (all_cons (w_op 12 rfl ?_) (all_cons (w_op 13 rfl ?_) (all_nil))))
       ·
        refine (o_appG (enc := strD) (s := ⟨hd (some b6), 1, 1, [List.replicate 512 (0 : UInt8)]⟩) (l' := List.replicate i (List.replicate 512 (0 : UInt8)) ++ ([List.replicate 512 (0 : UInt8)])) (len' := i + 1) rfl rfl H (i := 1) rfl sl49 Try.underlying49 rfl rfl (H.glOwn (i := 3) rfl (by decide) (fun _ _ => rfl)) (by decide) (fun _ _ => rfl) (by omega) (by decide) (fun a7 c8 w H => ?_))
        replace H : Hp _ w _ ([_, .own a7 (i + 1) c8 ((List.replicate i (List.replicate 512 (0 : UInt8)) ++ ([List.replicate 512 (0 : UInt8)])).flatMap strD) 9 1, _, _]) := H
        refine ⟨H.sub (List.nil_sublist _), ?_⟩
        replace HS := H.sub (List.nil_sublist _)
        refine t_all [12, 13] (by kernel_rfl) (by simp) (all_cons (w_op 12 rfl ?_) (all_cons (w_op 13 rfl ?_) (all_nil)))
        ·
         refine (o_val (r_ld (v := .slice (hd a2) i c2) H (i := 0) rfl rfl ct49 rfl) ?_)
         refine ⟨H.sub (List.nil_sublist _), ?_⟩
         replace HS := H.sub (List.nil_sublist _)
         refine t_step 13 rfl (by kernel_rfl) (o_bslV ([.string ⟨(([] : List UInt8)).toArray⟩]) H sl49 zc9 rfl (by simp [Value.oneCell']) rfl (by decide) (fun b9 w H hb9 => ?_))
         replace H : Hp _ w _ ([_, _, _, _, .own (some b9) 1 1 (([([] : List UInt8)]).flatMap strD) 9 1]) := H
         refine ⟨H.sub (List.nil_sublist _), ?_⟩
         replace HS := H.sub (List.nil_sublist _)
         refine t_step 14 rfl (by kernel_rfl) (o_appG (enc := strD) (s := ⟨hd (some b9), 1, 1, [([] : List UInt8)]⟩) (l' := List.replicate i ([] : List UInt8) ++ ([([] : List UInt8)])) (len' := i + 1) rfl rfl H (i := 2) rfl sl49 Try.underlying49 rfl rfl (H.glOwn (i := 4) rfl (by decide) (fun _ _ => rfl)) (by decide) (fun _ _ => rfl) (by omega) (by decide) (fun a10 c11 w H => ?_))
         replace H : Hp _ w _ ([_, _, .own a10 (i + 1) c11 ((List.replicate i ([] : List UInt8) ++ ([([] : List UInt8)])).flatMap strD) 9 1, _, _]) := H
         refine ⟨H.sub (List.nil_sublist _), ?_⟩
         replace HS := H.sub (List.nil_sublist _)
         refine t_take 15 rfl (by kernel_rfl) (by kernel_rfl) (by kernel_rfl) (fun _ _ _ h => h) (fun w HS => r_nilc rfl) HS ?_
         refine t_take 16 rfl (by kernel_rfl) (by kernel_rfl) (by kernel_rfl) (fun _ _ _ h => h) (fun w HS => r_fa rfl fo106_0) HS ?_
         refine t_step 17 rfl (by kernel_rfl) (o_st (v := .slice (hd a7) (i + 1) c8) H (i := 0) rfl rfl rfl cs49 rfl (by simp only [List.length_cons, List.length_nil]; omega) (fun w H => ?_))
         replace H : Hp _ w _ ([.blk b3 ([.slice (hd a7) (i + 1) c8, .slice (hd a2) i c2, .bool false, VI (-1), VI 0, VI (-1), .string ⟨(([] : List UInt8)).toArray⟩, VI 0, VI 0]) 106, _, _, _, _]) := H
         refine ⟨H.sub (List.nil_sublist _), ?_⟩
         replace HS := H.sub (List.nil_sublist _)
         refine t_take 18 rfl (by kernel_rfl) (by kernel_rfl) (by kernel_rfl) (fun _ _ _ h => h) (fun w HS => r_nilc rfl) HS ?_
         refine t_take 19 rfl (by kernel_rfl) (by kernel_rfl) (by kernel_rfl) (fun _ _ _ h => h) (fun w HS => r_fa rfl fo106_1) HS ?_
         refine t_step 20 rfl (by kernel_rfl) (o_st (v := .slice (hd a10) (i + 1) c11) H (i := 0) rfl rfl rfl cs49 rfl (by simp only [List.length_cons, List.length_nil]; omega) (fun w H => ?_))
         replace H : Hp _ w _ ([.blk b3 ([.slice (hd a7) (i + 1) c8, .slice (hd a10) (i + 1) c11, .bool false, VI (-1), VI 0, VI (-1), .string ⟨(([] : List UInt8)).toArray⟩, VI 0, VI 0]) 106, _, _, _, _]) := H
         refine ⟨H.sub (List.nil_sublist _), ?_⟩
         replace HS := H.sub (List.nil_sublist _)
         refine t_done (by kernel_rfl) ?_
         clear HS
         repeat refine c_seq ?_
         refine c_region ?_
         refine l_op (o_val (r_mv) ?_)
         refine l_op (o_val (r_bin (a := (i : Int)) (b := 1) rfl rfl (fun _ => b_add (by omega) (by omega))) ?_)
         refine l_op (o_val (r_as) ?_)
         first | refine l_end ?_ | refine l_nil ?_
         rw [show List.replicate i (List.replicate 512 (0 : UInt8)) ++ [List.replicate 512 (0 : UInt8)] = List.replicate (i + 1) (List.replicate 512 (0 : UInt8)) from List.replicate_succ'.symm, show List.replicate i ([] : List UInt8) ++ [[]] = List.replicate (i + 1) ([] : List UInt8) from List.replicate_succ'.symm] at H
         refine round_end (i + 1, a7, c8, a10, c11) ?_ ?_ ?_
         · exact ⟨rfl, rfl, rfl, show VI ((i : Int) + 1) = VI ((i + 1 : Nat) : Int) from congrArg VI (by omega), trivial⟩
         · refine ⟨?_, ?_⟩
           · try dsimp only
             exact by omega
           · exact H.sub (.cons_cons _ (.cons_cons _ (.cons_cons _ (List.nil_sublist _))))
         · show n - (i + 1 : Nat) < n - i; omega
        ·
         refine (o_bslV ([.string ⟨(([] : List UInt8)).toArray⟩]) H sl49 zc9 rfl (by simp [Value.oneCell']) rfl (by decide) (fun b12 w H hb12 => ?_))
         replace H : Hp _ w _ ([_, _, _, _, .own (some b12) 1 1 (([([] : List UInt8)]).flatMap strD) 9 1]) := H
         refine ⟨H.sub (List.nil_sublist _), ?_⟩
         replace HS := H.sub (List.nil_sublist _)
         refine t_step 12 rfl (by kernel_rfl) (o_val (r_ld (v := .slice (hd a2) i c2) H (i := 0) rfl rfl ct49 rfl) ?_)
         refine ⟨H.sub (List.nil_sublist _), ?_⟩
         replace HS := H.sub (List.nil_sublist _)
         refine t_step 14 rfl (by kernel_rfl) (o_appG (enc := strD) (s := ⟨hd (some b12), 1, 1, [([] : List UInt8)]⟩) (l' := List.replicate i ([] : List UInt8) ++ ([([] : List UInt8)])) (len' := i + 1) rfl rfl H (i := 2) rfl sl49 Try.underlying49 rfl rfl (H.glOwn (i := 4) rfl (by decide) (fun _ _ => rfl)) (by decide) (fun _ _ => rfl) (by omega) (by decide) (fun a13 c14 w H => ?_))
         replace H : Hp _ w _ ([_, _, .own a13 (i + 1) c14 ((List.replicate i ([] : List UInt8) ++ ([([] : List UInt8)])).flatMap strD) 9 1, _, _]) := H
         refine ⟨H.sub (List.nil_sublist _), ?_⟩
         replace HS := H.sub (List.nil_sublist _)
         refine t_take 15 rfl (by kernel_rfl) (by kernel_rfl) (by kernel_rfl) (fun _ _ _ h => h) (fun w HS => r_nilc rfl) HS ?_
         refine t_take 16 rfl (by kernel_rfl) (by kernel_rfl) (by kernel_rfl) (fun _ _ _ h => h) (fun w HS => r_fa rfl fo106_0) HS ?_
         refine t_step 17 rfl (by kernel_rfl) (o_st (v := .slice (hd a7) (i + 1) c8) H (i := 0) rfl rfl rfl cs49 rfl (by simp only [List.length_cons, List.length_nil]; omega) (fun w H => ?_))
         replace H : Hp _ w _ ([.blk b3 ([.slice (hd a7) (i + 1) c8, .slice (hd a2) i c2, .bool false, VI (-1), VI 0, VI (-1), .string ⟨(([] : List UInt8)).toArray⟩, VI 0, VI 0]) 106, _, _, _, _]) := H
         refine ⟨H.sub (List.nil_sublist _), ?_⟩
         replace HS := H.sub (List.nil_sublist _)
         refine t_take 18 rfl (by kernel_rfl) (by kernel_rfl) (by kernel_rfl) (fun _ _ _ h => h) (fun w HS => r_nilc rfl) HS ?_
         refine t_take 19 rfl (by kernel_rfl) (by kernel_rfl) (by kernel_rfl) (fun _ _ _ h => h) (fun w HS => r_fa rfl fo106_1) HS ?_
         refine t_step 20 rfl (by kernel_rfl) (o_st (v := .slice (hd a13) (i + 1) c14) H (i := 0) rfl rfl rfl cs49 rfl (by simp only [List.length_cons, List.length_nil]; omega) (fun w H => ?_))
         replace H : Hp _ w _ ([.blk b3 ([.slice (hd a7) (i + 1) c8, .slice (hd a13) (i + 1) c14, .bool false, VI (-1), VI 0, VI (-1), .string ⟨(([] : List UInt8)).toArray⟩, VI 0, VI 0]) 106, _, _, _, _]) := H
         refine ⟨H.sub (List.nil_sublist _), ?_⟩
         replace HS := H.sub (List.nil_sublist _)
         refine t_done (by kernel_rfl) ?_
         clear HS
         repeat refine c_seq ?_
         refine c_region ?_
         refine l_op (o_val (r_mv) ?_)
         refine l_op (o_val (r_bin (a := (i : Int)) (b := 1) rfl rfl (fun _ => b_add (by omega) (by omega))) ?_)
         refine l_op (o_val (r_as) ?_)
         first | refine l_end ?_ | refine l_nil ?_
         rw [show List.replicate i (List.replicate 512 (0 : UInt8)) ++ [List.replicate 512 (0 : UInt8)] = List.replicate (i + 1) (List.replicate 512 (0 : UInt8)) from List.replicate_succ'.symm, show List.replicate i ([] : List UInt8) ++ [[]] = List.replicate (i + 1) ([] : List UInt8) from List.replicate_succ'.symm] at H
         refine round_end (i + 1, a7, c8, a13, c14) ?_ ?_ ?_
         · exact ⟨rfl, rfl, rfl, show VI ((i : Int) + 1) = VI ((i + 1 : Nat) : Int) from congrArg VI (by omega), trivial⟩
         · refine ⟨?_, ?_⟩
           · try dsimp only
             exact by omega
           · exact H.sub (.cons_cons _ (.cons_cons _ (.cons_cons _ (List.nil_sublist _))))
         · show n - (i + 1 : Nat) < n - i; omega
       ·
        refine (o_val (r_ld (v := .slice (hd a2) i c2) H (i := 0) rfl rfl ct49 rfl) ?_)
        refine ⟨H.sub (List.nil_sublist _), ?_⟩
        replace HS := H.sub (List.nil_sublist _)
        refine t_all [8, 13] (by kernel_rfl) (by simp) (all_cons (w_op 8 rfl ?_) (all_cons (w_op 13 rfl ?_) (all_nil)))
        ·
         refine (o_appG (enc := strD) (s := ⟨hd (some b6), 1, 1, [List.replicate 512 (0 : UInt8)]⟩) (l' := List.replicate i (List.replicate 512 (0 : UInt8)) ++ ([List.replicate 512 (0 : UInt8)])) (len' := i + 1) rfl rfl H (i := 1) rfl sl49 Try.underlying49 rfl rfl (H.glOwn (i := 3) rfl (by decide) (fun _ _ => rfl)) (by decide) (fun _ _ => rfl) (by omega) (by decide) (fun a15 c16 w H => ?_))
         replace H : Hp _ w _ ([_, .own a15 (i + 1) c16 ((List.replicate i (List.replicate 512 (0 : UInt8)) ++ ([List.replicate 512 (0 : UInt8)])).flatMap strD) 9 1, _, _]) := H
         refine ⟨H.sub (List.nil_sublist _), ?_⟩
         replace HS := H.sub (List.nil_sublist _)
         refine t_step 13 rfl (by kernel_rfl) (o_bslV ([.string ⟨(([] : List UInt8)).toArray⟩]) H sl49 zc9 rfl (by simp [Value.oneCell']) rfl (by decide) (fun b17 w H hb17 => ?_))
         replace H : Hp _ w _ ([_, _, _, _, .own (some b17) 1 1 (([([] : List UInt8)]).flatMap strD) 9 1]) := H
         refine ⟨H.sub (List.nil_sublist _), ?_⟩
         replace HS := H.sub (List.nil_sublist _)
         refine t_step 14 rfl (by kernel_rfl) (o_appG (enc := strD) (s := ⟨hd (some b17), 1, 1, [([] : List UInt8)]⟩) (l' := List.replicate i ([] : List UInt8) ++ ([([] : List UInt8)])) (len' := i + 1) rfl rfl H (i := 2) rfl sl49 Try.underlying49 rfl rfl (H.glOwn (i := 4) rfl (by decide) (fun _ _ => rfl)) (by decide) (fun _ _ => rfl) (by omega) (by decide) (fun a18 c19 w H => ?_))
         replace H : Hp _ w _ ([_, _, .own a18 (i + 1) c19 ((List.replicate i ([] : List UInt8) ++ ([([] : List UInt8)])).flatMap strD) 9 1, _, _]) := H
         refine ⟨H.sub (List.nil_sublist _), ?_⟩
         replace HS := H.sub (List.nil_sublist _)
         refine t_take 15 rfl (by kernel_rfl) (by kernel_rfl) (by kernel_rfl) (fun _ _ _ h => h) (fun w HS => r_nilc rfl) HS ?_
         refine t_take 16 rfl (by kernel_rfl) (by kernel_rfl) (by kernel_rfl) (fun _ _ _ h => h) (fun w HS => r_fa rfl fo106_0) HS ?_
         refine t_step 17 rfl (by kernel_rfl) (o_st (v := .slice (hd a15) (i + 1) c16) H (i := 0) rfl rfl rfl cs49 rfl (by simp only [List.length_cons, List.length_nil]; omega) (fun w H => ?_))
         replace H : Hp _ w _ ([.blk b3 ([.slice (hd a15) (i + 1) c16, .slice (hd a2) i c2, .bool false, VI (-1), VI 0, VI (-1), .string ⟨(([] : List UInt8)).toArray⟩, VI 0, VI 0]) 106, _, _, _, _]) := H
         refine ⟨H.sub (List.nil_sublist _), ?_⟩
         replace HS := H.sub (List.nil_sublist _)
         refine t_take 18 rfl (by kernel_rfl) (by kernel_rfl) (by kernel_rfl) (fun _ _ _ h => h) (fun w HS => r_nilc rfl) HS ?_
         refine t_take 19 rfl (by kernel_rfl) (by kernel_rfl) (by kernel_rfl) (fun _ _ _ h => h) (fun w HS => r_fa rfl fo106_1) HS ?_
         refine t_step 20 rfl (by kernel_rfl) (o_st (v := .slice (hd a18) (i + 1) c19) H (i := 0) rfl rfl rfl cs49 rfl (by simp only [List.length_cons, List.length_nil]; omega) (fun w H => ?_))
         replace H : Hp _ w _ ([.blk b3 ([.slice (hd a15) (i + 1) c16, .slice (hd a18) (i + 1) c19, .bool false, VI (-1), VI 0, VI (-1), .string ⟨(([] : List UInt8)).toArray⟩, VI 0, VI 0]) 106, _, _, _, _]) := H
         refine ⟨H.sub (List.nil_sublist _), ?_⟩
         replace HS := H.sub (List.nil_sublist _)
         refine t_done (by kernel_rfl) ?_
         clear HS
         repeat refine c_seq ?_
         refine c_region ?_
         refine l_op (o_val (r_mv) ?_)
         refine l_op (o_val (r_bin (a := (i : Int)) (b := 1) rfl rfl (fun _ => b_add (by omega) (by omega))) ?_)
         refine l_op (o_val (r_as) ?_)
         first | refine l_end ?_ | refine l_nil ?_
         rw [show List.replicate i (List.replicate 512 (0 : UInt8)) ++ [List.replicate 512 (0 : UInt8)] = List.replicate (i + 1) (List.replicate 512 (0 : UInt8)) from List.replicate_succ'.symm, show List.replicate i ([] : List UInt8) ++ [[]] = List.replicate (i + 1) ([] : List UInt8) from List.replicate_succ'.symm] at H
         refine round_end (i + 1, a15, c16, a18, c19) ?_ ?_ ?_
         · exact ⟨rfl, rfl, rfl, show VI ((i : Int) + 1) = VI ((i + 1 : Nat) : Int) from congrArg VI (by omega), trivial⟩
         · refine ⟨?_, ?_⟩
           · try dsimp only
             exact by omega
           · exact H.sub (.cons_cons _ (.cons_cons _ (.cons_cons _ (List.nil_sublist _))))
         · show n - (i + 1 : Nat) < n - i; omega
        ·
         refine (o_bslV ([.string ⟨(([] : List UInt8)).toArray⟩]) H sl49 zc9 rfl (by simp [Value.oneCell']) rfl (by decide) (fun b20 w H hb20 => ?_))
         replace H : Hp _ w _ ([_, _, _, _, .own (some b20) 1 1 (([([] : List UInt8)]).flatMap strD) 9 1]) := H
         refine ⟨H.sub (List.nil_sublist _), ?_⟩
         replace HS := H.sub (List.nil_sublist _)
         refine t_step 8 rfl (by kernel_rfl) (o_appG (enc := strD) (s := ⟨hd (some b6), 1, 1, [List.replicate 512 (0 : UInt8)]⟩) (l' := List.replicate i (List.replicate 512 (0 : UInt8)) ++ ([List.replicate 512 (0 : UInt8)])) (len' := i + 1) rfl rfl H (i := 1) rfl sl49 Try.underlying49 rfl rfl (H.glOwn (i := 3) rfl (by decide) (fun _ _ => rfl)) (by decide) (fun _ _ => rfl) (by omega) (by decide) (fun a21 c22 w H => ?_))
         replace H : Hp _ w _ ([_, .own a21 (i + 1) c22 ((List.replicate i (List.replicate 512 (0 : UInt8)) ++ ([List.replicate 512 (0 : UInt8)])).flatMap strD) 9 1, _, _, _]) := H
         refine ⟨H.sub (List.nil_sublist _), ?_⟩
         replace HS := H.sub (List.nil_sublist _)
         refine t_step 14 rfl (by kernel_rfl) (o_appG (enc := strD) (s := ⟨hd (some b20), 1, 1, [([] : List UInt8)]⟩) (l' := List.replicate i ([] : List UInt8) ++ ([([] : List UInt8)])) (len' := i + 1) rfl rfl H (i := 2) rfl sl49 Try.underlying49 rfl rfl (H.glOwn (i := 4) rfl (by decide) (fun _ _ => rfl)) (by decide) (fun _ _ => rfl) (by omega) (by decide) (fun a23 c24 w H => ?_))
         replace H : Hp _ w _ ([_, _, .own a23 (i + 1) c24 ((List.replicate i ([] : List UInt8) ++ ([([] : List UInt8)])).flatMap strD) 9 1, _, _]) := H
         refine ⟨H.sub (List.nil_sublist _), ?_⟩
         replace HS := H.sub (List.nil_sublist _)
         refine t_take 15 rfl (by kernel_rfl) (by kernel_rfl) (by kernel_rfl) (fun _ _ _ h => h) (fun w HS => r_nilc rfl) HS ?_
         refine t_take 16 rfl (by kernel_rfl) (by kernel_rfl) (by kernel_rfl) (fun _ _ _ h => h) (fun w HS => r_fa rfl fo106_0) HS ?_
         refine t_step 17 rfl (by kernel_rfl) (o_st (v := .slice (hd a21) (i + 1) c22) H (i := 0) rfl rfl rfl cs49 rfl (by simp only [List.length_cons, List.length_nil]; omega) (fun w H => ?_))
         replace H : Hp _ w _ ([.blk b3 ([.slice (hd a21) (i + 1) c22, .slice (hd a2) i c2, .bool false, VI (-1), VI 0, VI (-1), .string ⟨(([] : List UInt8)).toArray⟩, VI 0, VI 0]) 106, _, _, _, _]) := H
         refine ⟨H.sub (List.nil_sublist _), ?_⟩
         replace HS := H.sub (List.nil_sublist _)
         refine t_take 18 rfl (by kernel_rfl) (by kernel_rfl) (by kernel_rfl) (fun _ _ _ h => h) (fun w HS => r_nilc rfl) HS ?_
         refine t_take 19 rfl (by kernel_rfl) (by kernel_rfl) (by kernel_rfl) (fun _ _ _ h => h) (fun w HS => r_fa rfl fo106_1) HS ?_
         refine t_step 20 rfl (by kernel_rfl) (o_st (v := .slice (hd a23) (i + 1) c24) H (i := 0) rfl rfl rfl cs49 rfl (by simp only [List.length_cons, List.length_nil]; omega) (fun w H => ?_))
         replace H : Hp _ w _ ([.blk b3 ([.slice (hd a21) (i + 1) c22, .slice (hd a23) (i + 1) c24, .bool false, VI (-1), VI 0, VI (-1), .string ⟨(([] : List UInt8)).toArray⟩, VI 0, VI 0]) 106, _, _, _, _]) := H
         refine ⟨H.sub (List.nil_sublist _), ?_⟩
         replace HS := H.sub (List.nil_sublist _)
         refine t_done (by kernel_rfl) ?_
         clear HS
         repeat refine c_seq ?_
         refine c_region ?_
         refine l_op (o_val (r_mv) ?_)
         refine l_op (o_val (r_bin (a := (i : Int)) (b := 1) rfl rfl (fun _ => b_add (by omega) (by omega))) ?_)
         refine l_op (o_val (r_as) ?_)
         first | refine l_end ?_ | refine l_nil ?_
         rw [show List.replicate i (List.replicate 512 (0 : UInt8)) ++ [List.replicate 512 (0 : UInt8)] = List.replicate (i + 1) (List.replicate 512 (0 : UInt8)) from List.replicate_succ'.symm, show List.replicate i ([] : List UInt8) ++ [[]] = List.replicate (i + 1) ([] : List UInt8) from List.replicate_succ'.symm] at H
         refine round_end (i + 1, a21, c22, a23, c24) ?_ ?_ ?_
         · exact ⟨rfl, rfl, rfl, show VI ((i : Int) + 1) = VI ((i + 1 : Nat) : Int) from congrArg VI (by omega), trivial⟩
         · refine ⟨?_, ?_⟩
           · try dsimp only
             exact by omega
           · exact H.sub (.cons_cons _ (.cons_cons _ (.cons_cons _ (List.nil_sublist _))))
         · show n - (i + 1 : Nat) < n - i; omega
       ·
        refine (o_bslV ([.string ⟨(([] : List UInt8)).toArray⟩]) H sl49 zc9 rfl (by simp [Value.oneCell']) rfl (by decide) (fun b25 w H hb25 => ?_))
        replace H : Hp _ w _ ([_, _, _, _, .own (some b25) 1 1 (([([] : List UInt8)]).flatMap strD) 9 1]) := H
        refine ⟨H.sub (List.nil_sublist _), ?_⟩
        replace HS := H.sub (List.nil_sublist _)
        refine t_all [8, 12] (by kernel_rfl) (by simp) (all_cons (w_op 8 rfl ?_) (all_cons (w_op 12 rfl ?_) (all_nil)))
        ·
         refine (o_appG (enc := strD) (s := ⟨hd (some b6), 1, 1, [List.replicate 512 (0 : UInt8)]⟩) (l' := List.replicate i (List.replicate 512 (0 : UInt8)) ++ ([List.replicate 512 (0 : UInt8)])) (len' := i + 1) rfl rfl H (i := 1) rfl sl49 Try.underlying49 rfl rfl (H.glOwn (i := 3) rfl (by decide) (fun _ _ => rfl)) (by decide) (fun _ _ => rfl) (by omega) (by decide) (fun a26 c27 w H => ?_))
         replace H : Hp _ w _ ([_, .own a26 (i + 1) c27 ((List.replicate i (List.replicate 512 (0 : UInt8)) ++ ([List.replicate 512 (0 : UInt8)])).flatMap strD) 9 1, _, _, _]) := H
         refine ⟨H.sub (List.nil_sublist _), ?_⟩
         replace HS := H.sub (List.nil_sublist _)
         refine t_step 12 rfl (by kernel_rfl) (o_val (r_ld (v := .slice (hd a2) i c2) H (i := 0) rfl rfl ct49 rfl) ?_)
         refine ⟨H.sub (List.nil_sublist _), ?_⟩
         replace HS := H.sub (List.nil_sublist _)
         refine t_step 14 rfl (by kernel_rfl) (o_appG (enc := strD) (s := ⟨hd (some b25), 1, 1, [([] : List UInt8)]⟩) (l' := List.replicate i ([] : List UInt8) ++ ([([] : List UInt8)])) (len' := i + 1) rfl rfl H (i := 2) rfl sl49 Try.underlying49 rfl rfl (H.glOwn (i := 4) rfl (by decide) (fun _ _ => rfl)) (by decide) (fun _ _ => rfl) (by omega) (by decide) (fun a28 c29 w H => ?_))
         replace H : Hp _ w _ ([_, _, .own a28 (i + 1) c29 ((List.replicate i ([] : List UInt8) ++ ([([] : List UInt8)])).flatMap strD) 9 1, _, _]) := H
         refine ⟨H.sub (List.nil_sublist _), ?_⟩
         replace HS := H.sub (List.nil_sublist _)
         refine t_take 15 rfl (by kernel_rfl) (by kernel_rfl) (by kernel_rfl) (fun _ _ _ h => h) (fun w HS => r_nilc rfl) HS ?_
         refine t_take 16 rfl (by kernel_rfl) (by kernel_rfl) (by kernel_rfl) (fun _ _ _ h => h) (fun w HS => r_fa rfl fo106_0) HS ?_
         refine t_step 17 rfl (by kernel_rfl) (o_st (v := .slice (hd a26) (i + 1) c27) H (i := 0) rfl rfl rfl cs49 rfl (by simp only [List.length_cons, List.length_nil]; omega) (fun w H => ?_))
         replace H : Hp _ w _ ([.blk b3 ([.slice (hd a26) (i + 1) c27, .slice (hd a2) i c2, .bool false, VI (-1), VI 0, VI (-1), .string ⟨(([] : List UInt8)).toArray⟩, VI 0, VI 0]) 106, _, _, _, _]) := H
         refine ⟨H.sub (List.nil_sublist _), ?_⟩
         replace HS := H.sub (List.nil_sublist _)
         refine t_take 18 rfl (by kernel_rfl) (by kernel_rfl) (by kernel_rfl) (fun _ _ _ h => h) (fun w HS => r_nilc rfl) HS ?_
         refine t_take 19 rfl (by kernel_rfl) (by kernel_rfl) (by kernel_rfl) (fun _ _ _ h => h) (fun w HS => r_fa rfl fo106_1) HS ?_
         refine t_step 20 rfl (by kernel_rfl) (o_st (v := .slice (hd a28) (i + 1) c29) H (i := 0) rfl rfl rfl cs49 rfl (by simp only [List.length_cons, List.length_nil]; omega) (fun w H => ?_))
         replace H : Hp _ w _ ([.blk b3 ([.slice (hd a26) (i + 1) c27, .slice (hd a28) (i + 1) c29, .bool false, VI (-1), VI 0, VI (-1), .string ⟨(([] : List UInt8)).toArray⟩, VI 0, VI 0]) 106, _, _, _, _]) := H
         refine ⟨H.sub (List.nil_sublist _), ?_⟩
         replace HS := H.sub (List.nil_sublist _)
         refine t_done (by kernel_rfl) ?_
         clear HS
         repeat refine c_seq ?_
         refine c_region ?_
         refine l_op (o_val (r_mv) ?_)
         refine l_op (o_val (r_bin (a := (i : Int)) (b := 1) rfl rfl (fun _ => b_add (by omega) (by omega))) ?_)
         refine l_op (o_val (r_as) ?_)
         first | refine l_end ?_ | refine l_nil ?_
         rw [show List.replicate i (List.replicate 512 (0 : UInt8)) ++ [List.replicate 512 (0 : UInt8)] = List.replicate (i + 1) (List.replicate 512 (0 : UInt8)) from List.replicate_succ'.symm, show List.replicate i ([] : List UInt8) ++ [[]] = List.replicate (i + 1) ([] : List UInt8) from List.replicate_succ'.symm] at H
         refine round_end (i + 1, a26, c27, a28, c29) ?_ ?_ ?_
         · exact ⟨rfl, rfl, rfl, show VI ((i : Int) + 1) = VI ((i + 1 : Nat) : Int) from congrArg VI (by omega), trivial⟩
         · refine ⟨?_, ?_⟩
           · try dsimp only
             exact by omega
           · exact H.sub (.cons_cons _ (.cons_cons _ (.cons_cons _ (List.nil_sublist _))))
         · show n - (i + 1 : Nat) < n - i; omega
        ·
         refine (o_val (r_ld (v := .slice (hd a2) i c2) H (i := 0) rfl rfl ct49 rfl) ?_)
         refine ⟨H.sub (List.nil_sublist _), ?_⟩
         replace HS := H.sub (List.nil_sublist _)
         refine t_step 8 rfl (by kernel_rfl) (o_appG (enc := strD) (s := ⟨hd (some b6), 1, 1, [List.replicate 512 (0 : UInt8)]⟩) (l' := List.replicate i (List.replicate 512 (0 : UInt8)) ++ ([List.replicate 512 (0 : UInt8)])) (len' := i + 1) rfl rfl H (i := 1) rfl sl49 Try.underlying49 rfl rfl (H.glOwn (i := 3) rfl (by decide) (fun _ _ => rfl)) (by decide) (fun _ _ => rfl) (by omega) (by decide) (fun a30 c31 w H => ?_))
         replace H : Hp _ w _ ([_, .own a30 (i + 1) c31 ((List.replicate i (List.replicate 512 (0 : UInt8)) ++ ([List.replicate 512 (0 : UInt8)])).flatMap strD) 9 1, _, _, _]) := H
         refine ⟨H.sub (List.nil_sublist _), ?_⟩
         replace HS := H.sub (List.nil_sublist _)
         refine t_step 14 rfl (by kernel_rfl) (o_appG (enc := strD) (s := ⟨hd (some b25), 1, 1, [([] : List UInt8)]⟩) (l' := List.replicate i ([] : List UInt8) ++ ([([] : List UInt8)])) (len' := i + 1) rfl rfl H (i := 2) rfl sl49 Try.underlying49 rfl rfl (H.glOwn (i := 4) rfl (by decide) (fun _ _ => rfl)) (by decide) (fun _ _ => rfl) (by omega) (by decide) (fun a32 c33 w H => ?_))
         replace H : Hp _ w _ ([_, _, .own a32 (i + 1) c33 ((List.replicate i ([] : List UInt8) ++ ([([] : List UInt8)])).flatMap strD) 9 1, _, _]) := H
         refine ⟨H.sub (List.nil_sublist _), ?_⟩
         replace HS := H.sub (List.nil_sublist _)
         refine t_take 15 rfl (by kernel_rfl) (by kernel_rfl) (by kernel_rfl) (fun _ _ _ h => h) (fun w HS => r_nilc rfl) HS ?_
         refine t_take 16 rfl (by kernel_rfl) (by kernel_rfl) (by kernel_rfl) (fun _ _ _ h => h) (fun w HS => r_fa rfl fo106_0) HS ?_
         refine t_step 17 rfl (by kernel_rfl) (o_st (v := .slice (hd a30) (i + 1) c31) H (i := 0) rfl rfl rfl cs49 rfl (by simp only [List.length_cons, List.length_nil]; omega) (fun w H => ?_))
         replace H : Hp _ w _ ([.blk b3 ([.slice (hd a30) (i + 1) c31, .slice (hd a2) i c2, .bool false, VI (-1), VI 0, VI (-1), .string ⟨(([] : List UInt8)).toArray⟩, VI 0, VI 0]) 106, _, _, _, _]) := H
         refine ⟨H.sub (List.nil_sublist _), ?_⟩
         replace HS := H.sub (List.nil_sublist _)
         refine t_take 18 rfl (by kernel_rfl) (by kernel_rfl) (by kernel_rfl) (fun _ _ _ h => h) (fun w HS => r_nilc rfl) HS ?_
         refine t_take 19 rfl (by kernel_rfl) (by kernel_rfl) (by kernel_rfl) (fun _ _ _ h => h) (fun w HS => r_fa rfl fo106_1) HS ?_
         refine t_step 20 rfl (by kernel_rfl) (o_st (v := .slice (hd a32) (i + 1) c33) H (i := 0) rfl rfl rfl cs49 rfl (by simp only [List.length_cons, List.length_nil]; omega) (fun w H => ?_))
         replace H : Hp _ w _ ([.blk b3 ([.slice (hd a30) (i + 1) c31, .slice (hd a32) (i + 1) c33, .bool false, VI (-1), VI 0, VI (-1), .string ⟨(([] : List UInt8)).toArray⟩, VI 0, VI 0]) 106, _, _, _, _]) := H
         refine ⟨H.sub (List.nil_sublist _), ?_⟩
         replace HS := H.sub (List.nil_sublist _)
         refine t_done (by kernel_rfl) ?_
         clear HS
         repeat refine c_seq ?_
         refine c_region ?_
         refine l_op (o_val (r_mv) ?_)
         refine l_op (o_val (r_bin (a := (i : Int)) (b := 1) rfl rfl (fun _ => b_add (by omega) (by omega))) ?_)
         refine l_op (o_val (r_as) ?_)
         first | refine l_end ?_ | refine l_nil ?_
         rw [show List.replicate i (List.replicate 512 (0 : UInt8)) ++ [List.replicate 512 (0 : UInt8)] = List.replicate (i + 1) (List.replicate 512 (0 : UInt8)) from List.replicate_succ'.symm, show List.replicate i ([] : List UInt8) ++ [[]] = List.replicate (i + 1) ([] : List UInt8) from List.replicate_succ'.symm] at H
         refine round_end (i + 1, a30, c31, a32, c33) ?_ ?_ ?_
         · exact ⟨rfl, rfl, rfl, show VI ((i : Int) + 1) = VI ((i + 1 : Nat) : Int) from congrArg VI (by omega), trivial⟩
         · refine ⟨?_, ?_⟩
           · try dsimp only
             exact by omega
           · exact H.sub (.cons_cons _ (.cons_cons _ (.cons_cons _ (List.nil_sublist _))))
         · show n - (i + 1 : Nat) < n - i; omega
      ·
       refine (o_val (r_ld (v := .slice (hd a2) i c2) H (i := 0) rfl rfl ct49 rfl) ?_)
       refine ⟨H.sub (List.nil_sublist _), ?_⟩
       replace HS := H.sub (List.nil_sublist _)
       refine t_all [7, 13] (by kernel_rfl) (by simp) (all_cons (w_op 7 rfl ?_) (all_cons (w_op 13 rfl ?_) (all_nil)))
       ·
        refine (o_bslV ([.string ⟨(List.replicate 512 (0 : UInt8)).toArray⟩]) H sl49 zc9 rfl (by simp [Value.oneCell']) rfl (by decide) (fun b34 w H hb34 => ?_))
        replace H : Hp _ w _ ([_, _, _, .own (some b34) 1 1 (([List.replicate 512 (0 : UInt8)]).flatMap strD) 9 1]) := H
        refine ⟨H.sub (List.nil_sublist _), ?_⟩
        replace HS := H.sub (List.nil_sublist _)
        refine t_all [8, 13] (by kernel_rfl) (by simp) (all_cons (w_op 8 rfl ?_) (all_cons (w_op 13 rfl ?_) (all_nil)))
        ·
         refine (o_appG (enc := strD) (s := ⟨hd (some b34), 1, 1, [List.replicate 512 (0 : UInt8)]⟩) (l' := List.replicate i (List.replicate 512 (0 : UInt8)) ++ ([List.replicate 512 (0 : UInt8)])) (len' := i + 1) rfl rfl H (i := 1) rfl sl49 Try.underlying49 rfl rfl (H.glOwn (i := 3) rfl (by decide) (fun _ _ => rfl)) (by decide) (fun _ _ => rfl) (by omega) (by decide) (fun a35 c36 w H => ?_))
         replace H : Hp _ w _ ([_, .own a35 (i + 1) c36 ((List.replicate i (List.replicate 512 (0 : UInt8)) ++ ([List.replicate 512 (0 : UInt8)])).flatMap strD) 9 1, _, _]) := H
         refine ⟨H.sub (List.nil_sublist _), ?_⟩
         replace HS := H.sub (List.nil_sublist _)
         refine t_step 13 rfl (by kernel_rfl) (o_bslV ([.string ⟨(([] : List UInt8)).toArray⟩]) H sl49 zc9 rfl (by simp [Value.oneCell']) rfl (by decide) (fun b37 w H hb37 => ?_))
         replace H : Hp _ w _ ([_, _, _, _, .own (some b37) 1 1 (([([] : List UInt8)]).flatMap strD) 9 1]) := H
         refine ⟨H.sub (List.nil_sublist _), ?_⟩
         replace HS := H.sub (List.nil_sublist _)
         refine t_step 14 rfl (by kernel_rfl) (o_appG (enc := strD) (s := ⟨hd (some b37), 1, 1, [([] : List UInt8)]⟩) (l' := List.replicate i ([] : List UInt8) ++ ([([] : List UInt8)])) (len' := i + 1) rfl rfl H (i := 2) rfl sl49 Try.underlying49 rfl rfl (H.glOwn (i := 4) rfl (by decide) (fun _ _ => rfl)) (by decide) (fun _ _ => rfl) (by omega) (by decide) (fun a38 c39 w H => ?_))
         replace H : Hp _ w _ ([_, _, .own a38 (i + 1) c39 ((List.replicate i ([] : List UInt8) ++ ([([] : List UInt8)])).flatMap strD) 9 1, _, _]) := H
         refine ⟨H.sub (List.nil_sublist _), ?_⟩
         replace HS := H.sub (List.nil_sublist _)
         refine t_take 15 rfl (by kernel_rfl) (by kernel_rfl) (by kernel_rfl) (fun _ _ _ h => h) (fun w HS => r_nilc rfl) HS ?_
         refine t_take 16 rfl (by kernel_rfl) (by kernel_rfl) (by kernel_rfl) (fun _ _ _ h => h) (fun w HS => r_fa rfl fo106_0) HS ?_
         refine t_step 17 rfl (by kernel_rfl) (o_st (v := .slice (hd a35) (i + 1) c36) H (i := 0) rfl rfl rfl cs49 rfl (by simp only [List.length_cons, List.length_nil]; omega) (fun w H => ?_))
         replace H : Hp _ w _ ([.blk b3 ([.slice (hd a35) (i + 1) c36, .slice (hd a2) i c2, .bool false, VI (-1), VI 0, VI (-1), .string ⟨(([] : List UInt8)).toArray⟩, VI 0, VI 0]) 106, _, _, _, _]) := H
         refine ⟨H.sub (List.nil_sublist _), ?_⟩
         replace HS := H.sub (List.nil_sublist _)
         refine t_take 18 rfl (by kernel_rfl) (by kernel_rfl) (by kernel_rfl) (fun _ _ _ h => h) (fun w HS => r_nilc rfl) HS ?_
         refine t_take 19 rfl (by kernel_rfl) (by kernel_rfl) (by kernel_rfl) (fun _ _ _ h => h) (fun w HS => r_fa rfl fo106_1) HS ?_
         refine t_step 20 rfl (by kernel_rfl) (o_st (v := .slice (hd a38) (i + 1) c39) H (i := 0) rfl rfl rfl cs49 rfl (by simp only [List.length_cons, List.length_nil]; omega) (fun w H => ?_))
         replace H : Hp _ w _ ([.blk b3 ([.slice (hd a35) (i + 1) c36, .slice (hd a38) (i + 1) c39, .bool false, VI (-1), VI 0, VI (-1), .string ⟨(([] : List UInt8)).toArray⟩, VI 0, VI 0]) 106, _, _, _, _]) := H
         refine ⟨H.sub (List.nil_sublist _), ?_⟩
         replace HS := H.sub (List.nil_sublist _)
         refine t_done (by kernel_rfl) ?_
         clear HS
         repeat refine c_seq ?_
         refine c_region ?_
         refine l_op (o_val (r_mv) ?_)
         refine l_op (o_val (r_bin (a := (i : Int)) (b := 1) rfl rfl (fun _ => b_add (by omega) (by omega))) ?_)
         refine l_op (o_val (r_as) ?_)
         first | refine l_end ?_ | refine l_nil ?_
         rw [show List.replicate i (List.replicate 512 (0 : UInt8)) ++ [List.replicate 512 (0 : UInt8)] = List.replicate (i + 1) (List.replicate 512 (0 : UInt8)) from List.replicate_succ'.symm, show List.replicate i ([] : List UInt8) ++ [[]] = List.replicate (i + 1) ([] : List UInt8) from List.replicate_succ'.symm] at H
         refine round_end (i + 1, a35, c36, a38, c39) ?_ ?_ ?_
         · exact ⟨rfl, rfl, rfl, show VI ((i : Int) + 1) = VI ((i + 1 : Nat) : Int) from congrArg VI (by omega), trivial⟩
         · refine ⟨?_, ?_⟩
           · try dsimp only
             exact by omega
           · exact H.sub (.cons_cons _ (.cons_cons _ (.cons_cons _ (List.nil_sublist _))))
         · show n - (i + 1 : Nat) < n - i; omega
        ·
         refine (o_bslV ([.string ⟨(([] : List UInt8)).toArray⟩]) H sl49 zc9 rfl (by simp [Value.oneCell']) rfl (by decide) (fun b40 w H hb40 => ?_))
         replace H : Hp _ w _ ([_, _, _, _, .own (some b40) 1 1 (([([] : List UInt8)]).flatMap strD) 9 1]) := H
         refine ⟨H.sub (List.nil_sublist _), ?_⟩
         replace HS := H.sub (List.nil_sublist _)
         refine t_step 8 rfl (by kernel_rfl) (o_appG (enc := strD) (s := ⟨hd (some b34), 1, 1, [List.replicate 512 (0 : UInt8)]⟩) (l' := List.replicate i (List.replicate 512 (0 : UInt8)) ++ ([List.replicate 512 (0 : UInt8)])) (len' := i + 1) rfl rfl H (i := 1) rfl sl49 Try.underlying49 rfl rfl (H.glOwn (i := 3) rfl (by decide) (fun _ _ => rfl)) (by decide) (fun _ _ => rfl) (by omega) (by decide) (fun a41 c42 w H => ?_))
         replace H : Hp _ w _ ([_, .own a41 (i + 1) c42 ((List.replicate i (List.replicate 512 (0 : UInt8)) ++ ([List.replicate 512 (0 : UInt8)])).flatMap strD) 9 1, _, _, _]) := H
         refine ⟨H.sub (List.nil_sublist _), ?_⟩
         replace HS := H.sub (List.nil_sublist _)
         refine t_step 14 rfl (by kernel_rfl) (o_appG (enc := strD) (s := ⟨hd (some b40), 1, 1, [([] : List UInt8)]⟩) (l' := List.replicate i ([] : List UInt8) ++ ([([] : List UInt8)])) (len' := i + 1) rfl rfl H (i := 2) rfl sl49 Try.underlying49 rfl rfl (H.glOwn (i := 4) rfl (by decide) (fun _ _ => rfl)) (by decide) (fun _ _ => rfl) (by omega) (by decide) (fun a43 c44 w H => ?_))
         replace H : Hp _ w _ ([_, _, .own a43 (i + 1) c44 ((List.replicate i ([] : List UInt8) ++ ([([] : List UInt8)])).flatMap strD) 9 1, _, _]) := H
         refine ⟨H.sub (List.nil_sublist _), ?_⟩
         replace HS := H.sub (List.nil_sublist _)
         refine t_take 15 rfl (by kernel_rfl) (by kernel_rfl) (by kernel_rfl) (fun _ _ _ h => h) (fun w HS => r_nilc rfl) HS ?_
         refine t_take 16 rfl (by kernel_rfl) (by kernel_rfl) (by kernel_rfl) (fun _ _ _ h => h) (fun w HS => r_fa rfl fo106_0) HS ?_
         refine t_step 17 rfl (by kernel_rfl) (o_st (v := .slice (hd a41) (i + 1) c42) H (i := 0) rfl rfl rfl cs49 rfl (by simp only [List.length_cons, List.length_nil]; omega) (fun w H => ?_))
         replace H : Hp _ w _ ([.blk b3 ([.slice (hd a41) (i + 1) c42, .slice (hd a2) i c2, .bool false, VI (-1), VI 0, VI (-1), .string ⟨(([] : List UInt8)).toArray⟩, VI 0, VI 0]) 106, _, _, _, _]) := H
         refine ⟨H.sub (List.nil_sublist _), ?_⟩
         replace HS := H.sub (List.nil_sublist _)
         refine t_take 18 rfl (by kernel_rfl) (by kernel_rfl) (by kernel_rfl) (fun _ _ _ h => h) (fun w HS => r_nilc rfl) HS ?_
         refine t_take 19 rfl (by kernel_rfl) (by kernel_rfl) (by kernel_rfl) (fun _ _ _ h => h) (fun w HS => r_fa rfl fo106_1) HS ?_
         refine t_step 20 rfl (by kernel_rfl) (o_st (v := .slice (hd a43) (i + 1) c44) H (i := 0) rfl rfl rfl cs49 rfl (by simp only [List.length_cons, List.length_nil]; omega) (fun w H => ?_))
         replace H : Hp _ w _ ([.blk b3 ([.slice (hd a41) (i + 1) c42, .slice (hd a43) (i + 1) c44, .bool false, VI (-1), VI 0, VI (-1), .string ⟨(([] : List UInt8)).toArray⟩, VI 0, VI 0]) 106, _, _, _, _]) := H
         refine ⟨H.sub (List.nil_sublist _), ?_⟩
         replace HS := H.sub (List.nil_sublist _)
         refine t_done (by kernel_rfl) ?_
         clear HS
         repeat refine c_seq ?_
         refine c_region ?_
         refine l_op (o_val (r_mv) ?_)
         refine l_op (o_val (r_bin (a := (i : Int)) (b := 1) rfl rfl (fun _ => b_add (by omega) (by omega))) ?_)
         refine l_op (o_val (r_as) ?_)
         first | refine l_end ?_ | refine l_nil ?_
         rw [show List.replicate i (List.replicate 512 (0 : UInt8)) ++ [List.replicate 512 (0 : UInt8)] = List.replicate (i + 1) (List.replicate 512 (0 : UInt8)) from List.replicate_succ'.symm, show List.replicate i ([] : List UInt8) ++ [[]] = List.replicate (i + 1) ([] : List UInt8) from List.replicate_succ'.symm] at H
         refine round_end (i + 1, a41, c42, a43, c44) ?_ ?_ ?_
         · exact ⟨rfl, rfl, rfl, show VI ((i : Int) + 1) = VI ((i + 1 : Nat) : Int) from congrArg VI (by omega), trivial⟩
         · refine ⟨?_, ?_⟩
           · try dsimp only
             exact by omega
           · exact H.sub (.cons_cons _ (.cons_cons _ (.cons_cons _ (List.nil_sublist _))))
         · show n - (i + 1 : Nat) < n - i; omega
       ·
        refine (o_bslV ([.string ⟨(([] : List UInt8)).toArray⟩]) H sl49 zc9 rfl (by simp [Value.oneCell']) rfl (by decide) (fun b45 w H hb45 => ?_))
        replace H : Hp _ w _ ([_, _, _, .own (some b45) 1 1 (([([] : List UInt8)]).flatMap strD) 9 1]) := H
        refine ⟨H.sub (List.nil_sublist _), ?_⟩
        replace HS := H.sub (List.nil_sublist _)
        refine t_step 7 rfl (by kernel_rfl) (o_bslV ([.string ⟨(List.replicate 512 (0 : UInt8)).toArray⟩]) H sl49 zc9 rfl (by simp [Value.oneCell']) rfl (by decide) (fun b46 w H hb46 => ?_))
        replace H : Hp _ w _ ([_, _, _, _, .own (some b46) 1 1 (([List.replicate 512 (0 : UInt8)]).flatMap strD) 9 1]) := H
        refine ⟨H.sub (List.nil_sublist _), ?_⟩
        replace HS := H.sub (List.nil_sublist _)
        refine t_step 8 rfl (by kernel_rfl) (o_appG (enc := strD) (s := ⟨hd (some b46), 1, 1, [List.replicate 512 (0 : UInt8)]⟩) (l' := List.replicate i (List.replicate 512 (0 : UInt8)) ++ ([List.replicate 512 (0 : UInt8)])) (len' := i + 1) rfl rfl H (i := 1) rfl sl49 Try.underlying49 rfl rfl (H.glOwn (i := 4) rfl (by decide) (fun _ _ => rfl)) (by decide) (fun _ _ => rfl) (by omega) (by decide) (fun a47 c48 w H => ?_))
        replace H : Hp _ w _ ([_, .own a47 (i + 1) c48 ((List.replicate i (List.replicate 512 (0 : UInt8)) ++ ([List.replicate 512 (0 : UInt8)])).flatMap strD) 9 1, _, _, _]) := H
        refine ⟨H.sub (List.nil_sublist _), ?_⟩
        replace HS := H.sub (List.nil_sublist _)
        refine t_step 14 rfl (by kernel_rfl) (o_appG (enc := strD) (s := ⟨hd (some b45), 1, 1, [([] : List UInt8)]⟩) (l' := List.replicate i ([] : List UInt8) ++ ([([] : List UInt8)])) (len' := i + 1) rfl rfl H (i := 2) rfl sl49 Try.underlying49 rfl rfl (H.glOwn (i := 3) rfl (by decide) (fun _ _ => rfl)) (by decide) (fun _ _ => rfl) (by omega) (by decide) (fun a49 c50 w H => ?_))
        replace H : Hp _ w _ ([_, _, .own a49 (i + 1) c50 ((List.replicate i ([] : List UInt8) ++ ([([] : List UInt8)])).flatMap strD) 9 1, _, _]) := H
        refine ⟨H.sub (List.nil_sublist _), ?_⟩
        replace HS := H.sub (List.nil_sublist _)
        refine t_take 15 rfl (by kernel_rfl) (by kernel_rfl) (by kernel_rfl) (fun _ _ _ h => h) (fun w HS => r_nilc rfl) HS ?_
        refine t_take 16 rfl (by kernel_rfl) (by kernel_rfl) (by kernel_rfl) (fun _ _ _ h => h) (fun w HS => r_fa rfl fo106_0) HS ?_
        refine t_step 17 rfl (by kernel_rfl) (o_st (v := .slice (hd a47) (i + 1) c48) H (i := 0) rfl rfl rfl cs49 rfl (by simp only [List.length_cons, List.length_nil]; omega) (fun w H => ?_))
        replace H : Hp _ w _ ([.blk b3 ([.slice (hd a47) (i + 1) c48, .slice (hd a2) i c2, .bool false, VI (-1), VI 0, VI (-1), .string ⟨(([] : List UInt8)).toArray⟩, VI 0, VI 0]) 106, _, _, _, _]) := H
        refine ⟨H.sub (List.nil_sublist _), ?_⟩
        replace HS := H.sub (List.nil_sublist _)
        refine t_take 18 rfl (by kernel_rfl) (by kernel_rfl) (by kernel_rfl) (fun _ _ _ h => h) (fun w HS => r_nilc rfl) HS ?_
        refine t_take 19 rfl (by kernel_rfl) (by kernel_rfl) (by kernel_rfl) (fun _ _ _ h => h) (fun w HS => r_fa rfl fo106_1) HS ?_
        refine t_step 20 rfl (by kernel_rfl) (o_st (v := .slice (hd a49) (i + 1) c50) H (i := 0) rfl rfl rfl cs49 rfl (by simp only [List.length_cons, List.length_nil]; omega) (fun w H => ?_))
        replace H : Hp _ w _ ([.blk b3 ([.slice (hd a47) (i + 1) c48, .slice (hd a49) (i + 1) c50, .bool false, VI (-1), VI 0, VI (-1), .string ⟨(([] : List UInt8)).toArray⟩, VI 0, VI 0]) 106, _, _, _, _]) := H
        refine ⟨H.sub (List.nil_sublist _), ?_⟩
        replace HS := H.sub (List.nil_sublist _)
        refine t_done (by kernel_rfl) ?_
        clear HS
        repeat refine c_seq ?_
        refine c_region ?_
        refine l_op (o_val (r_mv) ?_)
        refine l_op (o_val (r_bin (a := (i : Int)) (b := 1) rfl rfl (fun _ => b_add (by omega) (by omega))) ?_)
        refine l_op (o_val (r_as) ?_)
        first | refine l_end ?_ | refine l_nil ?_
        rw [show List.replicate i (List.replicate 512 (0 : UInt8)) ++ [List.replicate 512 (0 : UInt8)] = List.replicate (i + 1) (List.replicate 512 (0 : UInt8)) from List.replicate_succ'.symm, show List.replicate i ([] : List UInt8) ++ [[]] = List.replicate (i + 1) ([] : List UInt8) from List.replicate_succ'.symm] at H
        refine round_end (i + 1, a47, c48, a49, c50) ?_ ?_ ?_
        · exact ⟨rfl, rfl, rfl, show VI ((i : Int) + 1) = VI ((i + 1 : Nat) : Int) from congrArg VI (by omega), trivial⟩
        · refine ⟨?_, ?_⟩
          · try dsimp only
            exact by omega
          · exact H.sub (.cons_cons _ (.cons_cons _ (.cons_cons _ (List.nil_sublist _))))
        · show n - (i + 1 : Nat) < n - i; omega
      ·
       refine (o_bslV ([.string ⟨(([] : List UInt8)).toArray⟩]) H sl49 zc9 rfl (by simp [Value.oneCell']) rfl (by decide) (fun b51 w H hb51 => ?_))
       replace H : Hp _ w _ ([_, _, _, .own (some b51) 1 1 (([([] : List UInt8)]).flatMap strD) 9 1]) := H
       refine ⟨H.sub (List.nil_sublist _), ?_⟩
       replace HS := H.sub (List.nil_sublist _)
       refine t_all [7, 12] (by kernel_rfl) (by simp) (all_cons (w_op 7 rfl ?_) (all_cons (w_op 12 rfl ?_) (all_nil)))
       ·
        refine (o_bslV ([.string ⟨(List.replicate 512 (0 : UInt8)).toArray⟩]) H sl49 zc9 rfl (by simp [Value.oneCell']) rfl (by decide) (fun b52 w H hb52 => ?_))
        replace H : Hp _ w _ ([_, _, _, _, .own (some b52) 1 1 (([List.replicate 512 (0 : UInt8)]).flatMap strD) 9 1]) := H
        refine ⟨H.sub (List.nil_sublist _), ?_⟩
        replace HS := H.sub (List.nil_sublist _)
        refine t_all [8, 12] (by kernel_rfl) (by simp) (all_cons (w_op 8 rfl ?_) (all_cons (w_op 12 rfl ?_) (all_nil)))
        ·
         refine (o_appG (enc := strD) (s := ⟨hd (some b52), 1, 1, [List.replicate 512 (0 : UInt8)]⟩) (l' := List.replicate i (List.replicate 512 (0 : UInt8)) ++ ([List.replicate 512 (0 : UInt8)])) (len' := i + 1) rfl rfl H (i := 1) rfl sl49 Try.underlying49 rfl rfl (H.glOwn (i := 4) rfl (by decide) (fun _ _ => rfl)) (by decide) (fun _ _ => rfl) (by omega) (by decide) (fun a53 c54 w H => ?_))
         replace H : Hp _ w _ ([_, .own a53 (i + 1) c54 ((List.replicate i (List.replicate 512 (0 : UInt8)) ++ ([List.replicate 512 (0 : UInt8)])).flatMap strD) 9 1, _, _, _]) := H
         refine ⟨H.sub (List.nil_sublist _), ?_⟩
         replace HS := H.sub (List.nil_sublist _)
         refine t_step 12 rfl (by kernel_rfl) (o_val (r_ld (v := .slice (hd a2) i c2) H (i := 0) rfl rfl ct49 rfl) ?_)
         refine ⟨H.sub (List.nil_sublist _), ?_⟩
         replace HS := H.sub (List.nil_sublist _)
         refine t_step 14 rfl (by kernel_rfl) (o_appG (enc := strD) (s := ⟨hd (some b51), 1, 1, [([] : List UInt8)]⟩) (l' := List.replicate i ([] : List UInt8) ++ ([([] : List UInt8)])) (len' := i + 1) rfl rfl H (i := 2) rfl sl49 Try.underlying49 rfl rfl (H.glOwn (i := 3) rfl (by decide) (fun _ _ => rfl)) (by decide) (fun _ _ => rfl) (by omega) (by decide) (fun a55 c56 w H => ?_))
         replace H : Hp _ w _ ([_, _, .own a55 (i + 1) c56 ((List.replicate i ([] : List UInt8) ++ ([([] : List UInt8)])).flatMap strD) 9 1, _, _]) := H
         refine ⟨H.sub (List.nil_sublist _), ?_⟩
         replace HS := H.sub (List.nil_sublist _)
         refine t_take 15 rfl (by kernel_rfl) (by kernel_rfl) (by kernel_rfl) (fun _ _ _ h => h) (fun w HS => r_nilc rfl) HS ?_
         refine t_take 16 rfl (by kernel_rfl) (by kernel_rfl) (by kernel_rfl) (fun _ _ _ h => h) (fun w HS => r_fa rfl fo106_0) HS ?_
         refine t_step 17 rfl (by kernel_rfl) (o_st (v := .slice (hd a53) (i + 1) c54) H (i := 0) rfl rfl rfl cs49 rfl (by simp only [List.length_cons, List.length_nil]; omega) (fun w H => ?_))
         replace H : Hp _ w _ ([.blk b3 ([.slice (hd a53) (i + 1) c54, .slice (hd a2) i c2, .bool false, VI (-1), VI 0, VI (-1), .string ⟨(([] : List UInt8)).toArray⟩, VI 0, VI 0]) 106, _, _, _, _]) := H
         refine ⟨H.sub (List.nil_sublist _), ?_⟩
         replace HS := H.sub (List.nil_sublist _)
         refine t_take 18 rfl (by kernel_rfl) (by kernel_rfl) (by kernel_rfl) (fun _ _ _ h => h) (fun w HS => r_nilc rfl) HS ?_
         refine t_take 19 rfl (by kernel_rfl) (by kernel_rfl) (by kernel_rfl) (fun _ _ _ h => h) (fun w HS => r_fa rfl fo106_1) HS ?_
         refine t_step 20 rfl (by kernel_rfl) (o_st (v := .slice (hd a55) (i + 1) c56) H (i := 0) rfl rfl rfl cs49 rfl (by simp only [List.length_cons, List.length_nil]; omega) (fun w H => ?_))
         replace H : Hp _ w _ ([.blk b3 ([.slice (hd a53) (i + 1) c54, .slice (hd a55) (i + 1) c56, .bool false, VI (-1), VI 0, VI (-1), .string ⟨(([] : List UInt8)).toArray⟩, VI 0, VI 0]) 106, _, _, _, _]) := H
         refine ⟨H.sub (List.nil_sublist _), ?_⟩
         replace HS := H.sub (List.nil_sublist _)
         refine t_done (by kernel_rfl) ?_
         clear HS
         repeat refine c_seq ?_
         refine c_region ?_
         refine l_op (o_val (r_mv) ?_)
         refine l_op (o_val (r_bin (a := (i : Int)) (b := 1) rfl rfl (fun _ => b_add (by omega) (by omega))) ?_)
         refine l_op (o_val (r_as) ?_)
         first | refine l_end ?_ | refine l_nil ?_
         rw [show List.replicate i (List.replicate 512 (0 : UInt8)) ++ [List.replicate 512 (0 : UInt8)] = List.replicate (i + 1) (List.replicate 512 (0 : UInt8)) from List.replicate_succ'.symm, show List.replicate i ([] : List UInt8) ++ [[]] = List.replicate (i + 1) ([] : List UInt8) from List.replicate_succ'.symm] at H
         refine round_end (i + 1, a53, c54, a55, c56) ?_ ?_ ?_
         · exact ⟨rfl, rfl, rfl, show VI ((i : Int) + 1) = VI ((i + 1 : Nat) : Int) from congrArg VI (by omega), trivial⟩
         · refine ⟨?_, ?_⟩
           · try dsimp only
             exact by omega
           · exact H.sub (.cons_cons _ (.cons_cons _ (.cons_cons _ (List.nil_sublist _))))
         · show n - (i + 1 : Nat) < n - i; omega
        ·
         refine (o_val (r_ld (v := .slice (hd a2) i c2) H (i := 0) rfl rfl ct49 rfl) ?_)
         refine ⟨H.sub (List.nil_sublist _), ?_⟩
         replace HS := H.sub (List.nil_sublist _)
         refine t_step 8 rfl (by kernel_rfl) (o_appG (enc := strD) (s := ⟨hd (some b52), 1, 1, [List.replicate 512 (0 : UInt8)]⟩) (l' := List.replicate i (List.replicate 512 (0 : UInt8)) ++ ([List.replicate 512 (0 : UInt8)])) (len' := i + 1) rfl rfl H (i := 1) rfl sl49 Try.underlying49 rfl rfl (H.glOwn (i := 4) rfl (by decide) (fun _ _ => rfl)) (by decide) (fun _ _ => rfl) (by omega) (by decide) (fun a57 c58 w H => ?_))
         replace H : Hp _ w _ ([_, .own a57 (i + 1) c58 ((List.replicate i (List.replicate 512 (0 : UInt8)) ++ ([List.replicate 512 (0 : UInt8)])).flatMap strD) 9 1, _, _, _]) := H
         refine ⟨H.sub (List.nil_sublist _), ?_⟩
         replace HS := H.sub (List.nil_sublist _)
         refine t_step 14 rfl (by kernel_rfl) (o_appG (enc := strD) (s := ⟨hd (some b51), 1, 1, [([] : List UInt8)]⟩) (l' := List.replicate i ([] : List UInt8) ++ ([([] : List UInt8)])) (len' := i + 1) rfl rfl H (i := 2) rfl sl49 Try.underlying49 rfl rfl (H.glOwn (i := 3) rfl (by decide) (fun _ _ => rfl)) (by decide) (fun _ _ => rfl) (by omega) (by decide) (fun a59 c60 w H => ?_))
         replace H : Hp _ w _ ([_, _, .own a59 (i + 1) c60 ((List.replicate i ([] : List UInt8) ++ ([([] : List UInt8)])).flatMap strD) 9 1, _, _]) := H
         refine ⟨H.sub (List.nil_sublist _), ?_⟩
         replace HS := H.sub (List.nil_sublist _)
         refine t_take 15 rfl (by kernel_rfl) (by kernel_rfl) (by kernel_rfl) (fun _ _ _ h => h) (fun w HS => r_nilc rfl) HS ?_
         refine t_take 16 rfl (by kernel_rfl) (by kernel_rfl) (by kernel_rfl) (fun _ _ _ h => h) (fun w HS => r_fa rfl fo106_0) HS ?_
         refine t_step 17 rfl (by kernel_rfl) (o_st (v := .slice (hd a57) (i + 1) c58) H (i := 0) rfl rfl rfl cs49 rfl (by simp only [List.length_cons, List.length_nil]; omega) (fun w H => ?_))
         replace H : Hp _ w _ ([.blk b3 ([.slice (hd a57) (i + 1) c58, .slice (hd a2) i c2, .bool false, VI (-1), VI 0, VI (-1), .string ⟨(([] : List UInt8)).toArray⟩, VI 0, VI 0]) 106, _, _, _, _]) := H
         refine ⟨H.sub (List.nil_sublist _), ?_⟩
         replace HS := H.sub (List.nil_sublist _)
         refine t_take 18 rfl (by kernel_rfl) (by kernel_rfl) (by kernel_rfl) (fun _ _ _ h => h) (fun w HS => r_nilc rfl) HS ?_
         refine t_take 19 rfl (by kernel_rfl) (by kernel_rfl) (by kernel_rfl) (fun _ _ _ h => h) (fun w HS => r_fa rfl fo106_1) HS ?_
         refine t_step 20 rfl (by kernel_rfl) (o_st (v := .slice (hd a59) (i + 1) c60) H (i := 0) rfl rfl rfl cs49 rfl (by simp only [List.length_cons, List.length_nil]; omega) (fun w H => ?_))
         replace H : Hp _ w _ ([.blk b3 ([.slice (hd a57) (i + 1) c58, .slice (hd a59) (i + 1) c60, .bool false, VI (-1), VI 0, VI (-1), .string ⟨(([] : List UInt8)).toArray⟩, VI 0, VI 0]) 106, _, _, _, _]) := H
         refine ⟨H.sub (List.nil_sublist _), ?_⟩
         replace HS := H.sub (List.nil_sublist _)
         refine t_done (by kernel_rfl) ?_
         clear HS
         repeat refine c_seq ?_
         refine c_region ?_
         refine l_op (o_val (r_mv) ?_)
         refine l_op (o_val (r_bin (a := (i : Int)) (b := 1) rfl rfl (fun _ => b_add (by omega) (by omega))) ?_)
         refine l_op (o_val (r_as) ?_)
         first | refine l_end ?_ | refine l_nil ?_
         rw [show List.replicate i (List.replicate 512 (0 : UInt8)) ++ [List.replicate 512 (0 : UInt8)] = List.replicate (i + 1) (List.replicate 512 (0 : UInt8)) from List.replicate_succ'.symm, show List.replicate i ([] : List UInt8) ++ [[]] = List.replicate (i + 1) ([] : List UInt8) from List.replicate_succ'.symm] at H
         refine round_end (i + 1, a57, c58, a59, c60) ?_ ?_ ?_
         · exact ⟨rfl, rfl, rfl, show VI ((i : Int) + 1) = VI ((i + 1 : Nat) : Int) from congrArg VI (by omega), trivial⟩
         · refine ⟨?_, ?_⟩
           · try dsimp only
             exact by omega
           · exact H.sub (.cons_cons _ (.cons_cons _ (.cons_cons _ (List.nil_sublist _))))
         · show n - (i + 1 : Nat) < n - i; omega
       ·
        refine (o_val (r_ld (v := .slice (hd a2) i c2) H (i := 0) rfl rfl ct49 rfl) ?_)
        refine ⟨H.sub (List.nil_sublist _), ?_⟩
        replace HS := H.sub (List.nil_sublist _)
        refine t_step 7 rfl (by kernel_rfl) (o_bslV ([.string ⟨(List.replicate 512 (0 : UInt8)).toArray⟩]) H sl49 zc9 rfl (by simp [Value.oneCell']) rfl (by decide) (fun b61 w H hb61 => ?_))
        replace H : Hp _ w _ ([_, _, _, _, .own (some b61) 1 1 (([List.replicate 512 (0 : UInt8)]).flatMap strD) 9 1]) := H
        refine ⟨H.sub (List.nil_sublist _), ?_⟩
        replace HS := H.sub (List.nil_sublist _)
        refine t_step 8 rfl (by kernel_rfl) (o_appG (enc := strD) (s := ⟨hd (some b61), 1, 1, [List.replicate 512 (0 : UInt8)]⟩) (l' := List.replicate i (List.replicate 512 (0 : UInt8)) ++ ([List.replicate 512 (0 : UInt8)])) (len' := i + 1) rfl rfl H (i := 1) rfl sl49 Try.underlying49 rfl rfl (H.glOwn (i := 4) rfl (by decide) (fun _ _ => rfl)) (by decide) (fun _ _ => rfl) (by omega) (by decide) (fun a62 c63 w H => ?_))
        replace H : Hp _ w _ ([_, .own a62 (i + 1) c63 ((List.replicate i (List.replicate 512 (0 : UInt8)) ++ ([List.replicate 512 (0 : UInt8)])).flatMap strD) 9 1, _, _, _]) := H
        refine ⟨H.sub (List.nil_sublist _), ?_⟩
        replace HS := H.sub (List.nil_sublist _)
        refine t_step 14 rfl (by kernel_rfl) (o_appG (enc := strD) (s := ⟨hd (some b51), 1, 1, [([] : List UInt8)]⟩) (l' := List.replicate i ([] : List UInt8) ++ ([([] : List UInt8)])) (len' := i + 1) rfl rfl H (i := 2) rfl sl49 Try.underlying49 rfl rfl (H.glOwn (i := 3) rfl (by decide) (fun _ _ => rfl)) (by decide) (fun _ _ => rfl) (by omega) (by decide) (fun a64 c65 w H => ?_))
        replace H : Hp _ w _ ([_, _, .own a64 (i + 1) c65 ((List.replicate i ([] : List UInt8) ++ ([([] : List UInt8)])).flatMap strD) 9 1, _, _]) := H
        refine ⟨H.sub (List.nil_sublist _), ?_⟩
        replace HS := H.sub (List.nil_sublist _)
        refine t_take 15 rfl (by kernel_rfl) (by kernel_rfl) (by kernel_rfl) (fun _ _ _ h => h) (fun w HS => r_nilc rfl) HS ?_
        refine t_take 16 rfl (by kernel_rfl) (by kernel_rfl) (by kernel_rfl) (fun _ _ _ h => h) (fun w HS => r_fa rfl fo106_0) HS ?_
        refine t_step 17 rfl (by kernel_rfl) (o_st (v := .slice (hd a62) (i + 1) c63) H (i := 0) rfl rfl rfl cs49 rfl (by simp only [List.length_cons, List.length_nil]; omega) (fun w H => ?_))
        replace H : Hp _ w _ ([.blk b3 ([.slice (hd a62) (i + 1) c63, .slice (hd a2) i c2, .bool false, VI (-1), VI 0, VI (-1), .string ⟨(([] : List UInt8)).toArray⟩, VI 0, VI 0]) 106, _, _, _, _]) := H
        refine ⟨H.sub (List.nil_sublist _), ?_⟩
        replace HS := H.sub (List.nil_sublist _)
        refine t_take 18 rfl (by kernel_rfl) (by kernel_rfl) (by kernel_rfl) (fun _ _ _ h => h) (fun w HS => r_nilc rfl) HS ?_
        refine t_take 19 rfl (by kernel_rfl) (by kernel_rfl) (by kernel_rfl) (fun _ _ _ h => h) (fun w HS => r_fa rfl fo106_1) HS ?_
        refine t_step 20 rfl (by kernel_rfl) (o_st (v := .slice (hd a64) (i + 1) c65) H (i := 0) rfl rfl rfl cs49 rfl (by simp only [List.length_cons, List.length_nil]; omega) (fun w H => ?_))
        replace H : Hp _ w _ ([.blk b3 ([.slice (hd a62) (i + 1) c63, .slice (hd a64) (i + 1) c65, .bool false, VI (-1), VI 0, VI (-1), .string ⟨(([] : List UInt8)).toArray⟩, VI 0, VI 0]) 106, _, _, _, _]) := H
        refine ⟨H.sub (List.nil_sublist _), ?_⟩
        replace HS := H.sub (List.nil_sublist _)
        refine t_done (by kernel_rfl) ?_
        clear HS
        repeat refine c_seq ?_
        refine c_region ?_
        refine l_op (o_val (r_mv) ?_)
        refine l_op (o_val (r_bin (a := (i : Int)) (b := 1) rfl rfl (fun _ => b_add (by omega) (by omega))) ?_)
        refine l_op (o_val (r_as) ?_)
        first | refine l_end ?_ | refine l_nil ?_
        rw [show List.replicate i (List.replicate 512 (0 : UInt8)) ++ [List.replicate 512 (0 : UInt8)] = List.replicate (i + 1) (List.replicate 512 (0 : UInt8)) from List.replicate_succ'.symm, show List.replicate i ([] : List UInt8) ++ [[]] = List.replicate (i + 1) ([] : List UInt8) from List.replicate_succ'.symm] at H
        refine round_end (i + 1, a62, c63, a64, c65) ?_ ?_ ?_
        · exact ⟨rfl, rfl, rfl, show VI ((i : Int) + 1) = VI ((i + 1 : Nat) : Int) from congrArg VI (by omega), trivial⟩
        · refine ⟨?_, ?_⟩
          · try dsimp only
            exact by omega
          · exact H.sub (.cons_cons _ (.cons_cons _ (.cons_cons _ (List.nil_sublist _))))
        · show n - (i + 1 : Nat) < n - i; omega
     ·
      refine (o_bslV ([.string ⟨(List.replicate 512 (0 : UInt8)).toArray⟩]) H sl49 zc9 rfl (by simp [Value.oneCell']) rfl (by decide) (fun b66 w H hb66 => ?_))
      replace H : Hp _ w _ ([_, _, _, .own (some b66) 1 1 (([List.replicate 512 (0 : UInt8)]).flatMap strD) 9 1]) := H
      refine ⟨H.sub (List.nil_sublist _), ?_⟩
      replace HS := H.sub (List.nil_sublist _)
      refine t_all [5, 12, 13] (by kernel_rfl) (by simp) (all_cons (w_op 5 rfl ?_) (all_cons (w_op 12 rfl ?_) (all_cons (w_op 13 rfl ?_) (all_nil))))
      ·
       refine (o_val (r_ld (v := .slice (hd a1) i c1) H (i := 0) rfl rfl ct49 rfl) ?_)
       refine ⟨H.sub (List.nil_sublist _), ?_⟩
       replace HS := H.sub (List.nil_sublist _)
       refine t_all [8, 12, 13] (by kernel_rfl) (by simp) (all_cons (w_op 8 rfl ?_) (all_cons (w_op 12 rfl ?_) (all_cons (w_op 13 rfl ?_) (all_nil))))
       ·
        refine (o_appG (enc := strD) (s := ⟨hd (some b66), 1, 1, [List.replicate 512 (0 : UInt8)]⟩) (l' := List.replicate i (List.replicate 512 (0 : UInt8)) ++ ([List.replicate 512 (0 : UInt8)])) (len' := i + 1) rfl rfl H (i := 1) rfl sl49 Try.underlying49 rfl rfl (H.glOwn (i := 3) rfl (by decide) (fun _ _ => rfl)) (by decide) (fun _ _ => rfl) (by omega) (by decide) (fun a67 c68 w H => ?_))
        replace H : Hp _ w _ ([_, .own a67 (i + 1) c68 ((List.replicate i (List.replicate 512 (0 : UInt8)) ++ ([List.replicate 512 (0 : UInt8)])).flatMap strD) 9 1, _, _]) := H
        refine ⟨H.sub (List.nil_sublist _), ?_⟩
        replace HS := H.sub (List.nil_sublist _)
        refine t_all [12, 13] (by kernel_rfl) (by simp) (all_cons (w_op 12 rfl ?_) (all_cons (w_op 13 rfl ?_) (all_nil)))
        ·
         refine (o_val (r_ld (v := .slice (hd a2) i c2) H (i := 0) rfl rfl ct49 rfl) ?_)
         refine ⟨H.sub (List.nil_sublist _), ?_⟩
         replace HS := H.sub (List.nil_sublist _)
         refine t_step 13 rfl (by kernel_rfl) (o_bslV ([.string ⟨(([] : List UInt8)).toArray⟩]) H sl49 zc9 rfl (by simp [Value.oneCell']) rfl (by decide) (fun b69 w H hb69 => ?_))
         replace H : Hp _ w _ ([_, _, _, _, .own (some b69) 1 1 (([([] : List UInt8)]).flatMap strD) 9 1]) := H
         refine ⟨H.sub (List.nil_sublist _), ?_⟩
         replace HS := H.sub (List.nil_sublist _)
         refine t_step 14 rfl (by kernel_rfl) (o_appG (enc := strD) (s := ⟨hd (some b69), 1, 1, [([] : List UInt8)]⟩) (l' := List.replicate i ([] : List UInt8) ++ ([([] : List UInt8)])) (len' := i + 1) rfl rfl H (i := 2) rfl sl49 Try.underlying49 rfl rfl (H.glOwn (i := 4) rfl (by decide) (fun _ _ => rfl)) (by decide) (fun _ _ => rfl) (by omega) (by decide) (fun a70 c71 w H => ?_))
         replace H : Hp _ w _ ([_, _, .own a70 (i + 1) c71 ((List.replicate i ([] : List UInt8) ++ ([([] : List UInt8)])).flatMap strD) 9 1, _, _]) := H
         refine ⟨H.sub (List.nil_sublist _), ?_⟩
         replace HS := H.sub (List.nil_sublist _)
         refine t_take 15 rfl (by kernel_rfl) (by kernel_rfl) (by kernel_rfl) (fun _ _ _ h => h) (fun w HS => r_nilc rfl) HS ?_
         refine t_take 16 rfl (by kernel_rfl) (by kernel_rfl) (by kernel_rfl) (fun _ _ _ h => h) (fun w HS => r_fa rfl fo106_0) HS ?_
         refine t_step 17 rfl (by kernel_rfl) (o_st (v := .slice (hd a67) (i + 1) c68) H (i := 0) rfl rfl rfl cs49 rfl (by simp only [List.length_cons, List.length_nil]; omega) (fun w H => ?_))
         replace H : Hp _ w _ ([.blk b3 ([.slice (hd a67) (i + 1) c68, .slice (hd a2) i c2, .bool false, VI (-1), VI 0, VI (-1), .string ⟨(([] : List UInt8)).toArray⟩, VI 0, VI 0]) 106, _, _, _, _]) := H
         refine ⟨H.sub (List.nil_sublist _), ?_⟩
         replace HS := H.sub (List.nil_sublist _)
         refine t_take 18 rfl (by kernel_rfl) (by kernel_rfl) (by kernel_rfl) (fun _ _ _ h => h) (fun w HS => r_nilc rfl) HS ?_
         refine t_take 19 rfl (by kernel_rfl) (by kernel_rfl) (by kernel_rfl) (fun _ _ _ h => h) (fun w HS => r_fa rfl fo106_1) HS ?_
         refine t_step 20 rfl (by kernel_rfl) (o_st (v := .slice (hd a70) (i + 1) c71) H (i := 0) rfl rfl rfl cs49 rfl (by simp only [List.length_cons, List.length_nil]; omega) (fun w H => ?_))
         replace H : Hp _ w _ ([.blk b3 ([.slice (hd a67) (i + 1) c68, .slice (hd a70) (i + 1) c71, .bool false, VI (-1), VI 0, VI (-1), .string ⟨(([] : List UInt8)).toArray⟩, VI 0, VI 0]) 106, _, _, _, _]) := H
         refine ⟨H.sub (List.nil_sublist _), ?_⟩
         replace HS := H.sub (List.nil_sublist _)
         refine t_done (by kernel_rfl) ?_
         clear HS
         repeat refine c_seq ?_
         refine c_region ?_
         refine l_op (o_val (r_mv) ?_)
         refine l_op (o_val (r_bin (a := (i : Int)) (b := 1) rfl rfl (fun _ => b_add (by omega) (by omega))) ?_)
         refine l_op (o_val (r_as) ?_)
         first | refine l_end ?_ | refine l_nil ?_
         rw [show List.replicate i (List.replicate 512 (0 : UInt8)) ++ [List.replicate 512 (0 : UInt8)] = List.replicate (i + 1) (List.replicate 512 (0 : UInt8)) from List.replicate_succ'.symm, show List.replicate i ([] : List UInt8) ++ [[]] = List.replicate (i + 1) ([] : List UInt8) from List.replicate_succ'.symm] at H
         refine round_end (i + 1, a67, c68, a70, c71) ?_ ?_ ?_
         · exact ⟨rfl, rfl, rfl, show VI ((i : Int) + 1) = VI ((i + 1 : Nat) : Int) from congrArg VI (by omega), trivial⟩
         · refine ⟨?_, ?_⟩
           · try dsimp only
             exact by omega
           · exact H.sub (.cons_cons _ (.cons_cons _ (.cons_cons _ (List.nil_sublist _))))
         · show n - (i + 1 : Nat) < n - i; omega
        ·
         refine (o_bslV ([.string ⟨(([] : List UInt8)).toArray⟩]) H sl49 zc9 rfl (by simp [Value.oneCell']) rfl (by decide) (fun b72 w H hb72 => ?_))
         replace H : Hp _ w _ ([_, _, _, _, .own (some b72) 1 1 (([([] : List UInt8)]).flatMap strD) 9 1]) := H
         refine ⟨H.sub (List.nil_sublist _), ?_⟩
         replace HS := H.sub (List.nil_sublist _)
         refine t_step 12 rfl (by kernel_rfl) (o_val (r_ld (v := .slice (hd a2) i c2) H (i := 0) rfl rfl ct49 rfl) ?_)
         refine ⟨H.sub (List.nil_sublist _), ?_⟩
         replace HS := H.sub (List.nil_sublist _)
         refine t_step 14 rfl (by kernel_rfl) (o_appG (enc := strD) (s := ⟨hd (some b72), 1, 1, [([] : List UInt8)]⟩) (l' := List.replicate i ([] : List UInt8) ++ ([([] : List UInt8)])) (len' := i + 1) rfl rfl H (i := 2) rfl sl49 Try.underlying49 rfl rfl (H.glOwn (i := 4) rfl (by decide) (fun _ _ => rfl)) (by decide) (fun _ _ => rfl) (by omega) (by decide) (fun a73 c74 w H => ?_))
         replace H : Hp _ w _ ([_, _, .own a73 (i + 1) c74 ((List.replicate i ([] : List UInt8) ++ ([([] : List UInt8)])).flatMap strD) 9 1, _, _]) := H
         refine ⟨H.sub (List.nil_sublist _), ?_⟩
         replace HS := H.sub (List.nil_sublist _)
         refine t_take 15 rfl (by kernel_rfl) (by kernel_rfl) (by kernel_rfl) (fun _ _ _ h => h) (fun w HS => r_nilc rfl) HS ?_
         refine t_take 16 rfl (by kernel_rfl) (by kernel_rfl) (by kernel_rfl) (fun _ _ _ h => h) (fun w HS => r_fa rfl fo106_0) HS ?_
         refine t_step 17 rfl (by kernel_rfl) (o_st (v := .slice (hd a67) (i + 1) c68) H (i := 0) rfl rfl rfl cs49 rfl (by simp only [List.length_cons, List.length_nil]; omega) (fun w H => ?_))
         replace H : Hp _ w _ ([.blk b3 ([.slice (hd a67) (i + 1) c68, .slice (hd a2) i c2, .bool false, VI (-1), VI 0, VI (-1), .string ⟨(([] : List UInt8)).toArray⟩, VI 0, VI 0]) 106, _, _, _, _]) := H
         refine ⟨H.sub (List.nil_sublist _), ?_⟩
         replace HS := H.sub (List.nil_sublist _)
         refine t_take 18 rfl (by kernel_rfl) (by kernel_rfl) (by kernel_rfl) (fun _ _ _ h => h) (fun w HS => r_nilc rfl) HS ?_
         refine t_take 19 rfl (by kernel_rfl) (by kernel_rfl) (by kernel_rfl) (fun _ _ _ h => h) (fun w HS => r_fa rfl fo106_1) HS ?_
         refine t_step 20 rfl (by kernel_rfl) (o_st (v := .slice (hd a73) (i + 1) c74) H (i := 0) rfl rfl rfl cs49 rfl (by simp only [List.length_cons, List.length_nil]; omega) (fun w H => ?_))
         replace H : Hp _ w _ ([.blk b3 ([.slice (hd a67) (i + 1) c68, .slice (hd a73) (i + 1) c74, .bool false, VI (-1), VI 0, VI (-1), .string ⟨(([] : List UInt8)).toArray⟩, VI 0, VI 0]) 106, _, _, _, _]) := H
         refine ⟨H.sub (List.nil_sublist _), ?_⟩
         replace HS := H.sub (List.nil_sublist _)
         refine t_done (by kernel_rfl) ?_
         clear HS
         repeat refine c_seq ?_
         refine c_region ?_
         refine l_op (o_val (r_mv) ?_)
         refine l_op (o_val (r_bin (a := (i : Int)) (b := 1) rfl rfl (fun _ => b_add (by omega) (by omega))) ?_)
         refine l_op (o_val (r_as) ?_)
         first | refine l_end ?_ | refine l_nil ?_
         rw [show List.replicate i (List.replicate 512 (0 : UInt8)) ++ [List.replicate 512 (0 : UInt8)] = List.replicate (i + 1) (List.replicate 512 (0 : UInt8)) from List.replicate_succ'.symm, show List.replicate i ([] : List UInt8) ++ [[]] = List.replicate (i + 1) ([] : List UInt8) from List.replicate_succ'.symm] at H
         refine round_end (i + 1, a67, c68, a73, c74) ?_ ?_ ?_
         · exact ⟨rfl, rfl, rfl, show VI ((i : Int) + 1) = VI ((i + 1 : Nat) : Int) from congrArg VI (by omega), trivial⟩
         · refine ⟨?_, ?_⟩
           · try dsimp only
             exact by omega
           · exact H.sub (.cons_cons _ (.cons_cons _ (.cons_cons _ (List.nil_sublist _))))
         · show n - (i + 1 : Nat) < n - i; omega
       ·
        refine (o_val (r_ld (v := .slice (hd a2) i c2) H (i := 0) rfl rfl ct49 rfl) ?_)
        refine ⟨H.sub (List.nil_sublist _), ?_⟩
        replace HS := H.sub (List.nil_sublist _)
        refine t_all [8, 13] (by kernel_rfl) (by simp) (all_cons (w_op 8 rfl ?_) (all_cons (w_op 13 rfl ?_) (all_nil)))
        ·
         refine (o_appG (enc := strD) (s := ⟨hd (some b66), 1, 1, [List.replicate 512 (0 : UInt8)]⟩) (l' := List.replicate i (List.replicate 512 (0 : UInt8)) ++ ([List.replicate 512 (0 : UInt8)])) (len' := i + 1) rfl rfl H (i := 1) rfl sl49 Try.underlying49 rfl rfl (H.glOwn (i := 3) rfl (by decide) (fun _ _ => rfl)) (by decide) (fun _ _ => rfl) (by omega) (by decide) (fun a75 c76 w H => ?_))
         replace H : Hp _ w _ ([_, .own a75 (i + 1) c76 ((List.replicate i (List.replicate 512 (0 : UInt8)) ++ ([List.replicate 512 (0 : UInt8)])).flatMap strD) 9 1, _, _]) := H
         refine ⟨H.sub (List.nil_sublist _), ?_⟩
         replace HS := H.sub (List.nil_sublist _)
         refine t_step 13 rfl (by kernel_rfl) (o_bslV ([.string ⟨(([] : List UInt8)).toArray⟩]) H sl49 zc9 rfl (by simp [Value.oneCell']) rfl (by decide) (fun b77 w H hb77 => ?_))
         replace H : Hp _ w _ ([_, _, _, _, .own (some b77) 1 1 (([([] : List UInt8)]).flatMap strD) 9 1]) := H
         refine ⟨H.sub (List.nil_sublist _), ?_⟩
         replace HS := H.sub (List.nil_sublist _)
         refine t_step 14 rfl (by kernel_rfl) (o_appG (enc := strD) (s := ⟨hd (some b77), 1, 1, [([] : List UInt8)]⟩) (l' := List.replicate i ([] : List UInt8) ++ ([([] : List UInt8)])) (len' := i + 1) rfl rfl H (i := 2) rfl sl49 Try.underlying49 rfl rfl (H.glOwn (i := 4) rfl (by decide) (fun _ _ => rfl)) (by decide) (fun _ _ => rfl) (by omega) (by decide) (fun a78 c79 w H => ?_))
         replace H : Hp _ w _ ([_, _, .own a78 (i + 1) c79 ((List.replicate i ([] : List UInt8) ++ ([([] : List UInt8)])).flatMap strD) 9 1, _, _]) := H
         refine ⟨H.sub (List.nil_sublist _), ?_⟩
         replace HS := H.sub (List.nil_sublist _)
         refine t_take 15 rfl (by kernel_rfl) (by kernel_rfl) (by kernel_rfl) (fun _ _ _ h => h) (fun w HS => r_nilc rfl) HS ?_
         refine t_take 16 rfl (by kernel_rfl) (by kernel_rfl) (by kernel_rfl) (fun _ _ _ h => h) (fun w HS => r_fa rfl fo106_0) HS ?_
         refine t_step 17 rfl (by kernel_rfl) (o_st (v := .slice (hd a75) (i + 1) c76) H (i := 0) rfl rfl rfl cs49 rfl (by simp only [List.length_cons, List.length_nil]; omega) (fun w H => ?_))
         replace H : Hp _ w _ ([.blk b3 ([.slice (hd a75) (i + 1) c76, .slice (hd a2) i c2, .bool false, VI (-1), VI 0, VI (-1), .string ⟨(([] : List UInt8)).toArray⟩, VI 0, VI 0]) 106, _, _, _, _]) := H
         refine ⟨H.sub (List.nil_sublist _), ?_⟩
         replace HS := H.sub (List.nil_sublist _)
         refine t_take 18 rfl (by kernel_rfl) (by kernel_rfl) (by kernel_rfl) (fun _ _ _ h => h) (fun w HS => r_nilc rfl) HS ?_
         refine t_take 19 rfl (by kernel_rfl) (by kernel_rfl) (by kernel_rfl) (fun _ _ _ h => h) (fun w HS => r_fa rfl fo106_1) HS ?_
         refine t_step 20 rfl (by kernel_rfl) (o_st (v := .slice (hd a78) (i + 1) c79) H (i := 0) rfl rfl rfl cs49 rfl (by simp only [List.length_cons, List.length_nil]; omega) (fun w H => ?_))
         replace H : Hp _ w _ ([.blk b3 ([.slice (hd a75) (i + 1) c76, .slice (hd a78) (i + 1) c79, .bool false, VI (-1), VI 0, VI (-1), .string ⟨(([] : List UInt8)).toArray⟩, VI 0, VI 0]) 106, _, _, _, _]) := H
         refine ⟨H.sub (List.nil_sublist _), ?_⟩
         replace HS := H.sub (List.nil_sublist _)
         refine t_done (by kernel_rfl) ?_
         clear HS
         repeat refine c_seq ?_
         refine c_region ?_
         refine l_op (o_val (r_mv) ?_)
         refine l_op (o_val (r_bin (a := (i : Int)) (b := 1) rfl rfl (fun _ => b_add (by omega) (by omega))) ?_)
         refine l_op (o_val (r_as) ?_)
         first | refine l_end ?_ | refine l_nil ?_
         rw [show List.replicate i (List.replicate 512 (0 : UInt8)) ++ [List.replicate 512 (0 : UInt8)] = List.replicate (i + 1) (List.replicate 512 (0 : UInt8)) from List.replicate_succ'.symm, show List.replicate i ([] : List UInt8) ++ [[]] = List.replicate (i + 1) ([] : List UInt8) from List.replicate_succ'.symm] at H
         refine round_end (i + 1, a75, c76, a78, c79) ?_ ?_ ?_
         · exact ⟨rfl, rfl, rfl, show VI ((i : Int) + 1) = VI ((i + 1 : Nat) : Int) from congrArg VI (by omega), trivial⟩
         · refine ⟨?_, ?_⟩
           · try dsimp only
             exact by omega
           · exact H.sub (.cons_cons _ (.cons_cons _ (.cons_cons _ (List.nil_sublist _))))
         · show n - (i + 1 : Nat) < n - i; omega
        ·
         refine (o_bslV ([.string ⟨(([] : List UInt8)).toArray⟩]) H sl49 zc9 rfl (by simp [Value.oneCell']) rfl (by decide) (fun b80 w H hb80 => ?_))
         replace H : Hp _ w _ ([_, _, _, _, .own (some b80) 1 1 (([([] : List UInt8)]).flatMap strD) 9 1]) := H
         refine ⟨H.sub (List.nil_sublist _), ?_⟩
         replace HS := H.sub (List.nil_sublist _)
         refine t_step 8 rfl (by kernel_rfl) (o_appG (enc := strD) (s := ⟨hd (some b66), 1, 1, [List.replicate 512 (0 : UInt8)]⟩) (l' := List.replicate i (List.replicate 512 (0 : UInt8)) ++ ([List.replicate 512 (0 : UInt8)])) (len' := i + 1) rfl rfl H (i := 1) rfl sl49 Try.underlying49 rfl rfl (H.glOwn (i := 3) rfl (by decide) (fun _ _ => rfl)) (by decide) (fun _ _ => rfl) (by omega) (by decide) (fun a81 c82 w H => ?_))
         replace H : Hp _ w _ ([_, .own a81 (i + 1) c82 ((List.replicate i (List.replicate 512 (0 : UInt8)) ++ ([List.replicate 512 (0 : UInt8)])).flatMap strD) 9 1, _, _, _]) := H
         refine ⟨H.sub (List.nil_sublist _), ?_⟩
         replace HS := H.sub (List.nil_sublist _)
         refine t_step 14 rfl (by kernel_rfl) (o_appG (enc := strD) (s := ⟨hd (some b80), 1, 1, [([] : List UInt8)]⟩) (l' := List.replicate i ([] : List UInt8) ++ ([([] : List UInt8)])) (len' := i + 1) rfl rfl H (i := 2) rfl sl49 Try.underlying49 rfl rfl (H.glOwn (i := 4) rfl (by decide) (fun _ _ => rfl)) (by decide) (fun _ _ => rfl) (by omega) (by decide) (fun a83 c84 w H => ?_))
         replace H : Hp _ w _ ([_, _, .own a83 (i + 1) c84 ((List.replicate i ([] : List UInt8) ++ ([([] : List UInt8)])).flatMap strD) 9 1, _, _]) := H
         refine ⟨H.sub (List.nil_sublist _), ?_⟩
         replace HS := H.sub (List.nil_sublist _)
         refine t_take 15 rfl (by kernel_rfl) (by kernel_rfl) (by kernel_rfl) (fun _ _ _ h => h) (fun w HS => r_nilc rfl) HS ?_
         refine t_take 16 rfl (by kernel_rfl) (by kernel_rfl) (by kernel_rfl) (fun _ _ _ h => h) (fun w HS => r_fa rfl fo106_0) HS ?_
         refine t_step 17 rfl (by kernel_rfl) (o_st (v := .slice (hd a81) (i + 1) c82) H (i := 0) rfl rfl rfl cs49 rfl (by simp only [List.length_cons, List.length_nil]; omega) (fun w H => ?_))
         replace H : Hp _ w _ ([.blk b3 ([.slice (hd a81) (i + 1) c82, .slice (hd a2) i c2, .bool false, VI (-1), VI 0, VI (-1), .string ⟨(([] : List UInt8)).toArray⟩, VI 0, VI 0]) 106, _, _, _, _]) := H
         refine ⟨H.sub (List.nil_sublist _), ?_⟩
         replace HS := H.sub (List.nil_sublist _)
         refine t_take 18 rfl (by kernel_rfl) (by kernel_rfl) (by kernel_rfl) (fun _ _ _ h => h) (fun w HS => r_nilc rfl) HS ?_
         refine t_take 19 rfl (by kernel_rfl) (by kernel_rfl) (by kernel_rfl) (fun _ _ _ h => h) (fun w HS => r_fa rfl fo106_1) HS ?_
         refine t_step 20 rfl (by kernel_rfl) (o_st (v := .slice (hd a83) (i + 1) c84) H (i := 0) rfl rfl rfl cs49 rfl (by simp only [List.length_cons, List.length_nil]; omega) (fun w H => ?_))
         replace H : Hp _ w _ ([.blk b3 ([.slice (hd a81) (i + 1) c82, .slice (hd a83) (i + 1) c84, .bool false, VI (-1), VI 0, VI (-1), .string ⟨(([] : List UInt8)).toArray⟩, VI 0, VI 0]) 106, _, _, _, _]) := H
         refine ⟨H.sub (List.nil_sublist _), ?_⟩
         replace HS := H.sub (List.nil_sublist _)
         refine t_done (by kernel_rfl) ?_
         clear HS
         repeat refine c_seq ?_
         refine c_region ?_
         refine l_op (o_val (r_mv) ?_)
         refine l_op (o_val (r_bin (a := (i : Int)) (b := 1) rfl rfl (fun _ => b_add (by omega) (by omega))) ?_)
         refine l_op (o_val (r_as) ?_)
         first | refine l_end ?_ | refine l_nil ?_
         rw [show List.replicate i (List.replicate 512 (0 : UInt8)) ++ [List.replicate 512 (0 : UInt8)] = List.replicate (i + 1) (List.replicate 512 (0 : UInt8)) from List.replicate_succ'.symm, show List.replicate i ([] : List UInt8) ++ [[]] = List.replicate (i + 1) ([] : List UInt8) from List.replicate_succ'.symm] at H
         refine round_end (i + 1, a81, c82, a83, c84) ?_ ?_ ?_
         · exact ⟨rfl, rfl, rfl, show VI ((i : Int) + 1) = VI ((i + 1 : Nat) : Int) from congrArg VI (by omega), trivial⟩
         · refine ⟨?_, ?_⟩
           · try dsimp only
             exact by omega
           · exact H.sub (.cons_cons _ (.cons_cons _ (.cons_cons _ (List.nil_sublist _))))
         · show n - (i + 1 : Nat) < n - i; omega
       ·
        refine (o_bslV ([.string ⟨(([] : List UInt8)).toArray⟩]) H sl49 zc9 rfl (by simp [Value.oneCell']) rfl (by decide) (fun b85 w H hb85 => ?_))
        replace H : Hp _ w _ ([_, _, _, _, .own (some b85) 1 1 (([([] : List UInt8)]).flatMap strD) 9 1]) := H
        refine ⟨H.sub (List.nil_sublist _), ?_⟩
        replace HS := H.sub (List.nil_sublist _)
        refine t_all [8, 12] (by kernel_rfl) (by simp) (all_cons (w_op 8 rfl ?_) (all_cons (w_op 12 rfl ?_) (all_nil)))
        ·
         refine (o_appG (enc := strD) (s := ⟨hd (some b66), 1, 1, [List.replicate 512 (0 : UInt8)]⟩) (l' := List.replicate i (List.replicate 512 (0 : UInt8)) ++ ([List.replicate 512 (0 : UInt8)])) (len' := i + 1) rfl rfl H (i := 1) rfl sl49 Try.underlying49 rfl rfl (H.glOwn (i := 3) rfl (by decide) (fun _ _ => rfl)) (by decide) (fun _ _ => rfl) (by omega) (by decide) (fun a86 c87 w H => ?_))
         replace H : Hp _ w _ ([_, .own a86 (i + 1) c87 ((List.replicate i (List.replicate 512 (0 : UInt8)) ++ ([List.replicate 512 (0 : UInt8)])).flatMap strD) 9 1, _, _, _]) := H
         refine ⟨H.sub (List.nil_sublist _), ?_⟩
         replace HS := H.sub (List.nil_sublist _)
         refine t_step 12 rfl (by kernel_rfl) (o_val (r_ld (v := .slice (hd a2) i c2) H (i := 0) rfl rfl ct49 rfl) ?_)
         refine ⟨H.sub (List.nil_sublist _), ?_⟩
         replace HS := H.sub (List.nil_sublist _)
         refine t_step 14 rfl (by kernel_rfl) (o_appG (enc := strD) (s := ⟨hd (some b85), 1, 1, [([] : List UInt8)]⟩) (l' := List.replicate i ([] : List UInt8) ++ ([([] : List UInt8)])) (len' := i + 1) rfl rfl H (i := 2) rfl sl49 Try.underlying49 rfl rfl (H.glOwn (i := 4) rfl (by decide) (fun _ _ => rfl)) (by decide) (fun _ _ => rfl) (by omega) (by decide) (fun a88 c89 w H => ?_))
         replace H : Hp _ w _ ([_, _, .own a88 (i + 1) c89 ((List.replicate i ([] : List UInt8) ++ ([([] : List UInt8)])).flatMap strD) 9 1, _, _]) := H
         refine ⟨H.sub (List.nil_sublist _), ?_⟩
         replace HS := H.sub (List.nil_sublist _)
         refine t_take 15 rfl (by kernel_rfl) (by kernel_rfl) (by kernel_rfl) (fun _ _ _ h => h) (fun w HS => r_nilc rfl) HS ?_
         refine t_take 16 rfl (by kernel_rfl) (by kernel_rfl) (by kernel_rfl) (fun _ _ _ h => h) (fun w HS => r_fa rfl fo106_0) HS ?_
         refine t_step 17 rfl (by kernel_rfl) (o_st (v := .slice (hd a86) (i + 1) c87) H (i := 0) rfl rfl rfl cs49 rfl (by simp only [List.length_cons, List.length_nil]; omega) (fun w H => ?_))
         replace H : Hp _ w _ ([.blk b3 ([.slice (hd a86) (i + 1) c87, .slice (hd a2) i c2, .bool false, VI (-1), VI 0, VI (-1), .string ⟨(([] : List UInt8)).toArray⟩, VI 0, VI 0]) 106, _, _, _, _]) := H
         refine ⟨H.sub (List.nil_sublist _), ?_⟩
         replace HS := H.sub (List.nil_sublist _)
         refine t_take 18 rfl (by kernel_rfl) (by kernel_rfl) (by kernel_rfl) (fun _ _ _ h => h) (fun w HS => r_nilc rfl) HS ?_
         refine t_take 19 rfl (by kernel_rfl) (by kernel_rfl) (by kernel_rfl) (fun _ _ _ h => h) (fun w HS => r_fa rfl fo106_1) HS ?_
         refine t_step 20 rfl (by kernel_rfl) (o_st (v := .slice (hd a88) (i + 1) c89) H (i := 0) rfl rfl rfl cs49 rfl (by simp only [List.length_cons, List.length_nil]; omega) (fun w H => ?_))
         replace H : Hp _ w _ ([.blk b3 ([.slice (hd a86) (i + 1) c87, .slice (hd a88) (i + 1) c89, .bool false, VI (-1), VI 0, VI (-1), .string ⟨(([] : List UInt8)).toArray⟩, VI 0, VI 0]) 106, _, _, _, _]) := H
         refine ⟨H.sub (List.nil_sublist _), ?_⟩
         replace HS := H.sub (List.nil_sublist _)
         refine t_done (by kernel_rfl) ?_
         clear HS
         repeat refine c_seq ?_
         refine c_region ?_
         refine l_op (o_val (r_mv) ?_)
         refine l_op (o_val (r_bin (a := (i : Int)) (b := 1) rfl rfl (fun _ => b_add (by omega) (by omega))) ?_)
         refine l_op (o_val (r_as) ?_)
         first | refine l_end ?_ | refine l_nil ?_
         rw [show List.replicate i (List.replicate 512 (0 : UInt8)) ++ [List.replicate 512 (0 : UInt8)] = List.replicate (i + 1) (List.replicate 512 (0 : UInt8)) from List.replicate_succ'.symm, show List.replicate i ([] : List UInt8) ++ [[]] = List.replicate (i + 1) ([] : List UInt8) from List.replicate_succ'.symm] at H
         refine round_end (i + 1, a86, c87, a88, c89) ?_ ?_ ?_
         · exact ⟨rfl, rfl, rfl, show VI ((i : Int) + 1) = VI ((i + 1 : Nat) : Int) from congrArg VI (by omega), trivial⟩
         · refine ⟨?_, ?_⟩
           · try dsimp only
             exact by omega
           · exact H.sub (.cons_cons _ (.cons_cons _ (.cons_cons _ (List.nil_sublist _))))
         · show n - (i + 1 : Nat) < n - i; omega
        ·
         refine (o_val (r_ld (v := .slice (hd a2) i c2) H (i := 0) rfl rfl ct49 rfl) ?_)
         refine ⟨H.sub (List.nil_sublist _), ?_⟩
         replace HS := H.sub (List.nil_sublist _)
         refine t_step 8 rfl (by kernel_rfl) (o_appG (enc := strD) (s := ⟨hd (some b66), 1, 1, [List.replicate 512 (0 : UInt8)]⟩) (l' := List.replicate i (List.replicate 512 (0 : UInt8)) ++ ([List.replicate 512 (0 : UInt8)])) (len' := i + 1) rfl rfl H (i := 1) rfl sl49 Try.underlying49 rfl rfl (H.glOwn (i := 3) rfl (by decide) (fun _ _ => rfl)) (by decide) (fun _ _ => rfl) (by omega) (by decide) (fun a90 c91 w H => ?_))
         replace H : Hp _ w _ ([_, .own a90 (i + 1) c91 ((List.replicate i (List.replicate 512 (0 : UInt8)) ++ ([List.replicate 512 (0 : UInt8)])).flatMap strD) 9 1, _, _, _]) := H
         refine ⟨H.sub (List.nil_sublist _), ?_⟩
         replace HS := H.sub (List.nil_sublist _)
         refine t_step 14 rfl (by kernel_rfl) (o_appG (enc := strD) (s := ⟨hd (some b85), 1, 1, [([] : List UInt8)]⟩) (l' := List.replicate i ([] : List UInt8) ++ ([([] : List UInt8)])) (len' := i + 1) rfl rfl H (i := 2) rfl sl49 Try.underlying49 rfl rfl (H.glOwn (i := 4) rfl (by decide) (fun _ _ => rfl)) (by decide) (fun _ _ => rfl) (by omega) (by decide) (fun a92 c93 w H => ?_))
         replace H : Hp _ w _ ([_, _, .own a92 (i + 1) c93 ((List.replicate i ([] : List UInt8) ++ ([([] : List UInt8)])).flatMap strD) 9 1, _, _]) := H
         refine ⟨H.sub (List.nil_sublist _), ?_⟩
         replace HS := H.sub (List.nil_sublist _)
         refine t_take 15 rfl (by kernel_rfl) (by kernel_rfl) (by kernel_rfl) (fun _ _ _ h => h) (fun w HS => r_nilc rfl) HS ?_
         refine t_take 16 rfl (by kernel_rfl) (by kernel_rfl) (by kernel_rfl) (fun _ _ _ h => h) (fun w HS => r_fa rfl fo106_0) HS ?_
         refine t_step 17 rfl (by kernel_rfl) (o_st (v := .slice (hd a90) (i + 1) c91) H (i := 0) rfl rfl rfl cs49 rfl (by simp only [List.length_cons, List.length_nil]; omega) (fun w H => ?_))
         replace H : Hp _ w _ ([.blk b3 ([.slice (hd a90) (i + 1) c91, .slice (hd a2) i c2, .bool false, VI (-1), VI 0, VI (-1), .string ⟨(([] : List UInt8)).toArray⟩, VI 0, VI 0]) 106, _, _, _, _]) := H
         refine ⟨H.sub (List.nil_sublist _), ?_⟩
         replace HS := H.sub (List.nil_sublist _)
         refine t_take 18 rfl (by kernel_rfl) (by kernel_rfl) (by kernel_rfl) (fun _ _ _ h => h) (fun w HS => r_nilc rfl) HS ?_
         refine t_take 19 rfl (by kernel_rfl) (by kernel_rfl) (by kernel_rfl) (fun _ _ _ h => h) (fun w HS => r_fa rfl fo106_1) HS ?_
         refine t_step 20 rfl (by kernel_rfl) (o_st (v := .slice (hd a92) (i + 1) c93) H (i := 0) rfl rfl rfl cs49 rfl (by simp only [List.length_cons, List.length_nil]; omega) (fun w H => ?_))
         replace H : Hp _ w _ ([.blk b3 ([.slice (hd a90) (i + 1) c91, .slice (hd a92) (i + 1) c93, .bool false, VI (-1), VI 0, VI (-1), .string ⟨(([] : List UInt8)).toArray⟩, VI 0, VI 0]) 106, _, _, _, _]) := H
         refine ⟨H.sub (List.nil_sublist _), ?_⟩
         replace HS := H.sub (List.nil_sublist _)
         refine t_done (by kernel_rfl) ?_
         clear HS
         repeat refine c_seq ?_
         refine c_region ?_
         refine l_op (o_val (r_mv) ?_)
         refine l_op (o_val (r_bin (a := (i : Int)) (b := 1) rfl rfl (fun _ => b_add (by omega) (by omega))) ?_)
         refine l_op (o_val (r_as) ?_)
         first | refine l_end ?_ | refine l_nil ?_
         rw [show List.replicate i (List.replicate 512 (0 : UInt8)) ++ [List.replicate 512 (0 : UInt8)] = List.replicate (i + 1) (List.replicate 512 (0 : UInt8)) from List.replicate_succ'.symm, show List.replicate i ([] : List UInt8) ++ [[]] = List.replicate (i + 1) ([] : List UInt8) from List.replicate_succ'.symm] at H
         refine round_end (i + 1, a90, c91, a92, c93) ?_ ?_ ?_
         · exact ⟨rfl, rfl, rfl, show VI ((i : Int) + 1) = VI ((i + 1 : Nat) : Int) from congrArg VI (by omega), trivial⟩
         · refine ⟨?_, ?_⟩
           · try dsimp only
             exact by omega
           · exact H.sub (.cons_cons _ (.cons_cons _ (.cons_cons _ (List.nil_sublist _))))
         · show n - (i + 1 : Nat) < n - i; omega
      ·
       refine (o_val (r_ld (v := .slice (hd a2) i c2) H (i := 0) rfl rfl ct49 rfl) ?_)
       refine ⟨H.sub (List.nil_sublist _), ?_⟩
       replace HS := H.sub (List.nil_sublist _)
       refine t_all [5, 13] (by kernel_rfl) (by simp) (all_cons (w_op 5 rfl ?_) (all_cons (w_op 13 rfl ?_) (all_nil)))
       ·
        refine (o_val (r_ld (v := .slice (hd a1) i c1) H (i := 0) rfl rfl ct49 rfl) ?_)
        refine ⟨H.sub (List.nil_sublist _), ?_⟩
        replace HS := H.sub (List.nil_sublist _)
        refine t_all [8, 13] (by kernel_rfl) (by simp) (all_cons (w_op 8 rfl ?_) (all_cons (w_op 13 rfl ?_) (all_nil)))
        ·
         refine (o_appG (enc := strD) (s := ⟨hd (some b66), 1, 1, [List.replicate 512 (0 : UInt8)]⟩) (l' := List.replicate i (List.replicate 512 (0 : UInt8)) ++ ([List.replicate 512 (0 : UInt8)])) (len' := i + 1) rfl rfl H (i := 1) rfl sl49 Try.underlying49 rfl rfl (H.glOwn (i := 3) rfl (by decide) (fun _ _ => rfl)) (by decide) (fun _ _ => rfl) (by omega) (by decide) (fun a94 c95 w H => ?_))
         replace H : Hp _ w _ ([_, .own a94 (i + 1) c95 ((List.replicate i (List.replicate 512 (0 : UInt8)) ++ ([List.replicate 512 (0 : UInt8)])).flatMap strD) 9 1, _, _]) := H
         refine ⟨H.sub (List.nil_sublist _), ?_⟩
         replace HS := H.sub (List.nil_sublist _)
         refine t_step 13 rfl (by kernel_rfl) (o_bslV ([.string ⟨(([] : List UInt8)).toArray⟩]) H sl49 zc9 rfl (by simp [Value.oneCell']) rfl (by decide) (fun b96 w H hb96 => ?_))
         replace H : Hp _ w _ ([_, _, _, _, .own (some b96) 1 1 (([([] : List UInt8)]).flatMap strD) 9 1]) := H
         refine ⟨H.sub (List.nil_sublist _), ?_⟩
         replace HS := H.sub (List.nil_sublist _)
         refine t_step 14 rfl (by kernel_rfl) (o_appG (enc := strD) (s := ⟨hd (some b96), 1, 1, [([] : List UInt8)]⟩) (l' := List.replicate i ([] : List UInt8) ++ ([([] : List UInt8)])) (len' := i + 1) rfl rfl H (i := 2) rfl sl49 Try.underlying49 rfl rfl (H.glOwn (i := 4) rfl (by decide) (fun _ _ => rfl)) (by decide) (fun _ _ => rfl) (by omega) (by decide) (fun a97 c98 w H => ?_))
         replace H : Hp _ w _ ([_, _, .own a97 (i + 1) c98 ((List.replicate i ([] : List UInt8) ++ ([([] : List UInt8)])).flatMap strD) 9 1, _, _]) := H
         refine ⟨H.sub (List.nil_sublist _), ?_⟩
         replace HS := H.sub (List.nil_sublist _)
         refine t_take 15 rfl (by kernel_rfl) (by kernel_rfl) (by kernel_rfl) (fun _ _ _ h => h) (fun w HS => r_nilc rfl) HS ?_
         refine t_take 16 rfl (by kernel_rfl) (by kernel_rfl) (by kernel_rfl) (fun _ _ _ h => h) (fun w HS => r_fa rfl fo106_0) HS ?_
         refine t_step 17 rfl (by kernel_rfl) (o_st (v := .slice (hd a94) (i + 1) c95) H (i := 0) rfl rfl rfl cs49 rfl (by simp only [List.length_cons, List.length_nil]; omega) (fun w H => ?_))
         replace H : Hp _ w _ ([.blk b3 ([.slice (hd a94) (i + 1) c95, .slice (hd a2) i c2, .bool false, VI (-1), VI 0, VI (-1), .string ⟨(([] : List UInt8)).toArray⟩, VI 0, VI 0]) 106, _, _, _, _]) := H
         refine ⟨H.sub (List.nil_sublist _), ?_⟩
         replace HS := H.sub (List.nil_sublist _)
         refine t_take 18 rfl (by kernel_rfl) (by kernel_rfl) (by kernel_rfl) (fun _ _ _ h => h) (fun w HS => r_nilc rfl) HS ?_
         refine t_take 19 rfl (by kernel_rfl) (by kernel_rfl) (by kernel_rfl) (fun _ _ _ h => h) (fun w HS => r_fa rfl fo106_1) HS ?_
         refine t_step 20 rfl (by kernel_rfl) (o_st (v := .slice (hd a97) (i + 1) c98) H (i := 0) rfl rfl rfl cs49 rfl (by simp only [List.length_cons, List.length_nil]; omega) (fun w H => ?_))
         replace H : Hp _ w _ ([.blk b3 ([.slice (hd a94) (i + 1) c95, .slice (hd a97) (i + 1) c98, .bool false, VI (-1), VI 0, VI (-1), .string ⟨(([] : List UInt8)).toArray⟩, VI 0, VI 0]) 106, _, _, _, _]) := H
         refine ⟨H.sub (List.nil_sublist _), ?_⟩
         replace HS := H.sub (List.nil_sublist _)
         refine t_done (by kernel_rfl) ?_
         clear HS
         repeat refine c_seq ?_
         refine c_region ?_
         refine l_op (o_val (r_mv) ?_)
         refine l_op (o_val (r_bin (a := (i : Int)) (b := 1) rfl rfl (fun _ => b_add (by omega) (by omega))) ?_)
         refine l_op (o_val (r_as) ?_)
         first | refine l_end ?_ | refine l_nil ?_
         rw [show List.replicate i (List.replicate 512 (0 : UInt8)) ++ [List.replicate 512 (0 : UInt8)] = List.replicate (i + 1) (List.replicate 512 (0 : UInt8)) from List.replicate_succ'.symm, show List.replicate i ([] : List UInt8) ++ [[]] = List.replicate (i + 1) ([] : List UInt8) from List.replicate_succ'.symm] at H
         refine round_end (i + 1, a94, c95, a97, c98) ?_ ?_ ?_
         · exact ⟨rfl, rfl, rfl, show VI ((i : Int) + 1) = VI ((i + 1 : Nat) : Int) from congrArg VI (by omega), trivial⟩
         · refine ⟨?_, ?_⟩
           · try dsimp only
             exact by omega
           · exact H.sub (.cons_cons _ (.cons_cons _ (.cons_cons _ (List.nil_sublist _))))
         · show n - (i + 1 : Nat) < n - i; omega
        ·
         refine (o_bslV ([.string ⟨(([] : List UInt8)).toArray⟩]) H sl49 zc9 rfl (by simp [Value.oneCell']) rfl (by decide) (fun b99 w H hb99 => ?_))
         replace H : Hp _ w _ ([_, _, _, _, .own (some b99) 1 1 (([([] : List UInt8)]).flatMap strD) 9 1]) := H
         refine ⟨H.sub (List.nil_sublist _), ?_⟩
         replace HS := H.sub (List.nil_sublist _)
         refine t_step 8 rfl (by kernel_rfl) (o_appG (enc := strD) (s := ⟨hd (some b66), 1, 1, [List.replicate 512 (0 : UInt8)]⟩) (l' := List.replicate i (List.replicate 512 (0 : UInt8)) ++ ([List.replicate 512 (0 : UInt8)])) (len' := i + 1) rfl rfl H (i := 1) rfl sl49 Try.underlying49 rfl rfl (H.glOwn (i := 3) rfl (by decide) (fun _ _ => rfl)) (by decide) (fun _ _ => rfl) (by omega) (by decide) (fun a100 c101 w H => ?_))
         replace H : Hp _ w _ ([_, .own a100 (i + 1) c101 ((List.replicate i (List.replicate 512 (0 : UInt8)) ++ ([List.replicate 512 (0 : UInt8)])).flatMap strD) 9 1, _, _, _]) := H
         refine ⟨H.sub (List.nil_sublist _), ?_⟩
         replace HS := H.sub (List.nil_sublist _)
         refine t_step 14 rfl (by kernel_rfl) (o_appG (enc := strD) (s := ⟨hd (some b99), 1, 1, [([] : List UInt8)]⟩) (l' := List.replicate i ([] : List UInt8) ++ ([([] : List UInt8)])) (len' := i + 1) rfl rfl H (i := 2) rfl sl49 Try.underlying49 rfl rfl (H.glOwn (i := 4) rfl (by decide) (fun _ _ => rfl)) (by decide) (fun _ _ => rfl) (by omega) (by decide) (fun a102 c103 w H => ?_))
         replace H : Hp _ w _ ([_, _, .own a102 (i + 1) c103 ((List.replicate i ([] : List UInt8) ++ ([([] : List UInt8)])).flatMap strD) 9 1, _, _]) := H
         refine ⟨H.sub (List.nil_sublist _), ?_⟩
         replace HS := H.sub (List.nil_sublist _)
         refine t_take 15 rfl (by kernel_rfl) (by kernel_rfl) (by kernel_rfl) (fun _ _ _ h => h) (fun w HS => r_nilc rfl) HS ?_
         refine t_take 16 rfl (by kernel_rfl) (by kernel_rfl) (by kernel_rfl) (fun _ _ _ h => h) (fun w HS => r_fa rfl fo106_0) HS ?_
         refine t_step 17 rfl (by kernel_rfl) (o_st (v := .slice (hd a100) (i + 1) c101) H (i := 0) rfl rfl rfl cs49 rfl (by simp only [List.length_cons, List.length_nil]; omega) (fun w H => ?_))
         replace H : Hp _ w _ ([.blk b3 ([.slice (hd a100) (i + 1) c101, .slice (hd a2) i c2, .bool false, VI (-1), VI 0, VI (-1), .string ⟨(([] : List UInt8)).toArray⟩, VI 0, VI 0]) 106, _, _, _, _]) := H
         refine ⟨H.sub (List.nil_sublist _), ?_⟩
         replace HS := H.sub (List.nil_sublist _)
         refine t_take 18 rfl (by kernel_rfl) (by kernel_rfl) (by kernel_rfl) (fun _ _ _ h => h) (fun w HS => r_nilc rfl) HS ?_
         refine t_take 19 rfl (by kernel_rfl) (by kernel_rfl) (by kernel_rfl) (fun _ _ _ h => h) (fun w HS => r_fa rfl fo106_1) HS ?_
         refine t_step 20 rfl (by kernel_rfl) (o_st (v := .slice (hd a102) (i + 1) c103) H (i := 0) rfl rfl rfl cs49 rfl (by simp only [List.length_cons, List.length_nil]; omega) (fun w H => ?_))
         replace H : Hp _ w _ ([.blk b3 ([.slice (hd a100) (i + 1) c101, .slice (hd a102) (i + 1) c103, .bool false, VI (-1), VI 0, VI (-1), .string ⟨(([] : List UInt8)).toArray⟩, VI 0, VI 0]) 106, _, _, _, _]) := H
         refine ⟨H.sub (List.nil_sublist _), ?_⟩
         replace HS := H.sub (List.nil_sublist _)
         refine t_done (by kernel_rfl) ?_
         clear HS
         repeat refine c_seq ?_
         refine c_region ?_
         refine l_op (o_val (r_mv) ?_)
         refine l_op (o_val (r_bin (a := (i : Int)) (b := 1) rfl rfl (fun _ => b_add (by omega) (by omega))) ?_)
         refine l_op (o_val (r_as) ?_)
         first | refine l_end ?_ | refine l_nil ?_
         rw [show List.replicate i (List.replicate 512 (0 : UInt8)) ++ [List.replicate 512 (0 : UInt8)] = List.replicate (i + 1) (List.replicate 512 (0 : UInt8)) from List.replicate_succ'.symm, show List.replicate i ([] : List UInt8) ++ [[]] = List.replicate (i + 1) ([] : List UInt8) from List.replicate_succ'.symm] at H
         refine round_end (i + 1, a100, c101, a102, c103) ?_ ?_ ?_
         · exact ⟨rfl, rfl, rfl, show VI ((i : Int) + 1) = VI ((i + 1 : Nat) : Int) from congrArg VI (by omega), trivial⟩
         · refine ⟨?_, ?_⟩
           · try dsimp only
             exact by omega
           · exact H.sub (.cons_cons _ (.cons_cons _ (.cons_cons _ (List.nil_sublist _))))
         · show n - (i + 1 : Nat) < n - i; omega
       ·
        refine (o_bslV ([.string ⟨(([] : List UInt8)).toArray⟩]) H sl49 zc9 rfl (by simp [Value.oneCell']) rfl (by decide) (fun b104 w H hb104 => ?_))
        replace H : Hp _ w _ ([_, _, _, _, .own (some b104) 1 1 (([([] : List UInt8)]).flatMap strD) 9 1]) := H
        refine ⟨H.sub (List.nil_sublist _), ?_⟩
        replace HS := H.sub (List.nil_sublist _)
        refine t_step 5 rfl (by kernel_rfl) (o_val (r_ld (v := .slice (hd a1) i c1) H (i := 0) rfl rfl ct49 rfl) ?_)
        refine ⟨H.sub (List.nil_sublist _), ?_⟩
        replace HS := H.sub (List.nil_sublist _)
        refine t_step 8 rfl (by kernel_rfl) (o_appG (enc := strD) (s := ⟨hd (some b66), 1, 1, [List.replicate 512 (0 : UInt8)]⟩) (l' := List.replicate i (List.replicate 512 (0 : UInt8)) ++ ([List.replicate 512 (0 : UInt8)])) (len' := i + 1) rfl rfl H (i := 1) rfl sl49 Try.underlying49 rfl rfl (H.glOwn (i := 3) rfl (by decide) (fun _ _ => rfl)) (by decide) (fun _ _ => rfl) (by omega) (by decide) (fun a105 c106 w H => ?_))
        replace H : Hp _ w _ ([_, .own a105 (i + 1) c106 ((List.replicate i (List.replicate 512 (0 : UInt8)) ++ ([List.replicate 512 (0 : UInt8)])).flatMap strD) 9 1, _, _, _]) := H
        refine ⟨H.sub (List.nil_sublist _), ?_⟩
        replace HS := H.sub (List.nil_sublist _)
        refine t_step 14 rfl (by kernel_rfl) (o_appG (enc := strD) (s := ⟨hd (some b104), 1, 1, [([] : List UInt8)]⟩) (l' := List.replicate i ([] : List UInt8) ++ ([([] : List UInt8)])) (len' := i + 1) rfl rfl H (i := 2) rfl sl49 Try.underlying49 rfl rfl (H.glOwn (i := 4) rfl (by decide) (fun _ _ => rfl)) (by decide) (fun _ _ => rfl) (by omega) (by decide) (fun a107 c108 w H => ?_))
        replace H : Hp _ w _ ([_, _, .own a107 (i + 1) c108 ((List.replicate i ([] : List UInt8) ++ ([([] : List UInt8)])).flatMap strD) 9 1, _, _]) := H
        refine ⟨H.sub (List.nil_sublist _), ?_⟩
        replace HS := H.sub (List.nil_sublist _)
        refine t_take 15 rfl (by kernel_rfl) (by kernel_rfl) (by kernel_rfl) (fun _ _ _ h => h) (fun w HS => r_nilc rfl) HS ?_
        refine t_take 16 rfl (by kernel_rfl) (by kernel_rfl) (by kernel_rfl) (fun _ _ _ h => h) (fun w HS => r_fa rfl fo106_0) HS ?_
        refine t_step 17 rfl (by kernel_rfl) (o_st (v := .slice (hd a105) (i + 1) c106) H (i := 0) rfl rfl rfl cs49 rfl (by simp only [List.length_cons, List.length_nil]; omega) (fun w H => ?_))
        replace H : Hp _ w _ ([.blk b3 ([.slice (hd a105) (i + 1) c106, .slice (hd a2) i c2, .bool false, VI (-1), VI 0, VI (-1), .string ⟨(([] : List UInt8)).toArray⟩, VI 0, VI 0]) 106, _, _, _, _]) := H
        refine ⟨H.sub (List.nil_sublist _), ?_⟩
        replace HS := H.sub (List.nil_sublist _)
        refine t_take 18 rfl (by kernel_rfl) (by kernel_rfl) (by kernel_rfl) (fun _ _ _ h => h) (fun w HS => r_nilc rfl) HS ?_
        refine t_take 19 rfl (by kernel_rfl) (by kernel_rfl) (by kernel_rfl) (fun _ _ _ h => h) (fun w HS => r_fa rfl fo106_1) HS ?_
        refine t_step 20 rfl (by kernel_rfl) (o_st (v := .slice (hd a107) (i + 1) c108) H (i := 0) rfl rfl rfl cs49 rfl (by simp only [List.length_cons, List.length_nil]; omega) (fun w H => ?_))
        replace H : Hp _ w _ ([.blk b3 ([.slice (hd a105) (i + 1) c106, .slice (hd a107) (i + 1) c108, .bool false, VI (-1), VI 0, VI (-1), .string ⟨(([] : List UInt8)).toArray⟩, VI 0, VI 0]) 106, _, _, _, _]) := H
        refine ⟨H.sub (List.nil_sublist _), ?_⟩
        replace HS := H.sub (List.nil_sublist _)
        refine t_done (by kernel_rfl) ?_
        clear HS
        repeat refine c_seq ?_
        refine c_region ?_
        refine l_op (o_val (r_mv) ?_)
        refine l_op (o_val (r_bin (a := (i : Int)) (b := 1) rfl rfl (fun _ => b_add (by omega) (by omega))) ?_)
        refine l_op (o_val (r_as) ?_)
        first | refine l_end ?_ | refine l_nil ?_
        rw [show List.replicate i (List.replicate 512 (0 : UInt8)) ++ [List.replicate 512 (0 : UInt8)] = List.replicate (i + 1) (List.replicate 512 (0 : UInt8)) from List.replicate_succ'.symm, show List.replicate i ([] : List UInt8) ++ [[]] = List.replicate (i + 1) ([] : List UInt8) from List.replicate_succ'.symm] at H
        refine round_end (i + 1, a105, c106, a107, c108) ?_ ?_ ?_
        · exact ⟨rfl, rfl, rfl, show VI ((i : Int) + 1) = VI ((i + 1 : Nat) : Int) from congrArg VI (by omega), trivial⟩
        · refine ⟨?_, ?_⟩
          · try dsimp only
            exact by omega
          · exact H.sub (.cons_cons _ (.cons_cons _ (.cons_cons _ (List.nil_sublist _))))
        · show n - (i + 1 : Nat) < n - i; omega
      ·
       refine (o_bslV ([.string ⟨(([] : List UInt8)).toArray⟩]) H sl49 zc9 rfl (by simp [Value.oneCell']) rfl (by decide) (fun b109 w H hb109 => ?_))
       replace H : Hp _ w _ ([_, _, _, _, .own (some b109) 1 1 (([([] : List UInt8)]).flatMap strD) 9 1]) := H
       refine ⟨H.sub (List.nil_sublist _), ?_⟩
       replace HS := H.sub (List.nil_sublist _)
       refine t_all [5, 12] (by kernel_rfl) (by simp) (all_cons (w_op 5 rfl ?_) (all_cons (w_op 12 rfl ?_) (all_nil)))
       ·
        refine (o_val (r_ld (v := .slice (hd a1) i c1) H (i := 0) rfl rfl ct49 rfl) ?_)
        refine ⟨H.sub (List.nil_sublist _), ?_⟩
        replace HS := H.sub (List.nil_sublist _)
        refine t_all [8, 12] (by kernel_rfl) (by simp) (all_cons (w_op 8 rfl ?_) (all_cons (w_op 12 rfl ?_) (all_nil)))
        ·
         refine (o_appG (enc := strD) (s := ⟨hd (some b66), 1, 1, [List.replicate 512 (0 : UInt8)]⟩) (l' := List.replicate i (List.replicate 512 (0 : UInt8)) ++ ([List.replicate 512 (0 : UInt8)])) (len' := i + 1) rfl rfl H (i := 1) rfl sl49 Try.underlying49 rfl rfl (H.glOwn (i := 3) rfl (by decide) (fun _ _ => rfl)) (by decide) (fun _ _ => rfl) (by omega) (by decide) (fun a110 c111 w H => ?_))
         replace H : Hp _ w _ ([_, .own a110 (i + 1) c111 ((List.replicate i (List.replicate 512 (0 : UInt8)) ++ ([List.replicate 512 (0 : UInt8)])).flatMap strD) 9 1, _, _, _]) := H
         refine ⟨H.sub (List.nil_sublist _), ?_⟩
         replace HS := H.sub (List.nil_sublist _)
         refine t_step 12 rfl (by kernel_rfl) (o_val (r_ld (v := .slice (hd a2) i c2) H (i := 0) rfl rfl ct49 rfl) ?_)
         refine ⟨H.sub (List.nil_sublist _), ?_⟩
         replace HS := H.sub (List.nil_sublist _)
         refine t_step 14 rfl (by kernel_rfl) (o_appG (enc := strD) (s := ⟨hd (some b109), 1, 1, [([] : List UInt8)]⟩) (l' := List.replicate i ([] : List UInt8) ++ ([([] : List UInt8)])) (len' := i + 1) rfl rfl H (i := 2) rfl sl49 Try.underlying49 rfl rfl (H.glOwn (i := 4) rfl (by decide) (fun _ _ => rfl)) (by decide) (fun _ _ => rfl) (by omega) (by decide) (fun a112 c113 w H => ?_))
         replace H : Hp _ w _ ([_, _, .own a112 (i + 1) c113 ((List.replicate i ([] : List UInt8) ++ ([([] : List UInt8)])).flatMap strD) 9 1, _, _]) := H
         refine ⟨H.sub (List.nil_sublist _), ?_⟩
         replace HS := H.sub (List.nil_sublist _)
         refine t_take 15 rfl (by kernel_rfl) (by kernel_rfl) (by kernel_rfl) (fun _ _ _ h => h) (fun w HS => r_nilc rfl) HS ?_
         refine t_take 16 rfl (by kernel_rfl) (by kernel_rfl) (by kernel_rfl) (fun _ _ _ h => h) (fun w HS => r_fa rfl fo106_0) HS ?_
         refine t_step 17 rfl (by kernel_rfl) (o_st (v := .slice (hd a110) (i + 1) c111) H (i := 0) rfl rfl rfl cs49 rfl (by simp only [List.length_cons, List.length_nil]; omega) (fun w H => ?_))
         replace H : Hp _ w _ ([.blk b3 ([.slice (hd a110) (i + 1) c111, .slice (hd a2) i c2, .bool false, VI (-1), VI 0, VI (-1), .string ⟨(([] : List UInt8)).toArray⟩, VI 0, VI 0]) 106, _, _, _, _]) := H
         refine ⟨H.sub (List.nil_sublist _), ?_⟩
         replace HS := H.sub (List.nil_sublist _)
         refine t_take 18 rfl (by kernel_rfl) (by kernel_rfl) (by kernel_rfl) (fun _ _ _ h => h) (fun w HS => r_nilc rfl) HS ?_
         refine t_take 19 rfl (by kernel_rfl) (by kernel_rfl) (by kernel_rfl) (fun _ _ _ h => h) (fun w HS => r_fa rfl fo106_1) HS ?_
         refine t_step 20 rfl (by kernel_rfl) (o_st (v := .slice (hd a112) (i + 1) c113) H (i := 0) rfl rfl rfl cs49 rfl (by simp only [List.length_cons, List.length_nil]; omega) (fun w H => ?_))
         replace H : Hp _ w _ ([.blk b3 ([.slice (hd a110) (i + 1) c111, .slice (hd a112) (i + 1) c113, .bool false, VI (-1), VI 0, VI (-1), .string ⟨(([] : List UInt8)).toArray⟩, VI 0, VI 0]) 106, _, _, _, _]) := H
         refine ⟨H.sub (List.nil_sublist _), ?_⟩
         replace HS := H.sub (List.nil_sublist _)
         refine t_done (by kernel_rfl) ?_
         clear HS
         repeat refine c_seq ?_
         refine c_region ?_
         refine l_op (o_val (r_mv) ?_)
         refine l_op (o_val (r_bin (a := (i : Int)) (b := 1) rfl rfl (fun _ => b_add (by omega) (by omega))) ?_)
         refine l_op (o_val (r_as) ?_)
         first | refine l_end ?_ | refine l_nil ?_
         rw [show List.replicate i (List.replicate 512 (0 : UInt8)) ++ [List.replicate 512 (0 : UInt8)] = List.replicate (i + 1) (List.replicate 512 (0 : UInt8)) from List.replicate_succ'.symm, show List.replicate i ([] : List UInt8) ++ [[]] = List.replicate (i + 1) ([] : List UInt8) from List.replicate_succ'.symm] at H
         refine round_end (i + 1, a110, c111, a112, c113) ?_ ?_ ?_
         · exact ⟨rfl, rfl, rfl, show VI ((i : Int) + 1) = VI ((i + 1 : Nat) : Int) from congrArg VI (by omega), trivial⟩
         · refine ⟨?_, ?_⟩
           · try dsimp only
             exact by omega
           · exact H.sub (.cons_cons _ (.cons_cons _ (.cons_cons _ (List.nil_sublist _))))
         · show n - (i + 1 : Nat) < n - i; omega
        ·
         refine (o_val (r_ld (v := .slice (hd a2) i c2) H (i := 0) rfl rfl ct49 rfl) ?_)
         refine ⟨H.sub (List.nil_sublist _), ?_⟩
         replace HS := H.sub (List.nil_sublist _)
         refine t_step 8 rfl (by kernel_rfl) (o_appG (enc := strD) (s := ⟨hd (some b66), 1, 1, [List.replicate 512 (0 : UInt8)]⟩) (l' := List.replicate i (List.replicate 512 (0 : UInt8)) ++ ([List.replicate 512 (0 : UInt8)])) (len' := i + 1) rfl rfl H (i := 1) rfl sl49 Try.underlying49 rfl rfl (H.glOwn (i := 3) rfl (by decide) (fun _ _ => rfl)) (by decide) (fun _ _ => rfl) (by omega) (by decide) (fun a114 c115 w H => ?_))
         replace H : Hp _ w _ ([_, .own a114 (i + 1) c115 ((List.replicate i (List.replicate 512 (0 : UInt8)) ++ ([List.replicate 512 (0 : UInt8)])).flatMap strD) 9 1, _, _, _]) := H
         refine ⟨H.sub (List.nil_sublist _), ?_⟩
         replace HS := H.sub (List.nil_sublist _)
         refine t_step 14 rfl (by kernel_rfl) (o_appG (enc := strD) (s := ⟨hd (some b109), 1, 1, [([] : List UInt8)]⟩) (l' := List.replicate i ([] : List UInt8) ++ ([([] : List UInt8)])) (len' := i + 1) rfl rfl H (i := 2) rfl sl49 Try.underlying49 rfl rfl (H.glOwn (i := 4) rfl (by decide) (fun _ _ => rfl)) (by decide) (fun _ _ => rfl) (by omega) (by decide) (fun a116 c117 w H => ?_))
         replace H : Hp _ w _ ([_, _, .own a116 (i + 1) c117 ((List.replicate i ([] : List UInt8) ++ ([([] : List UInt8)])).flatMap strD) 9 1, _, _]) := H
         refine ⟨H.sub (List.nil_sublist _), ?_⟩
         replace HS := H.sub (List.nil_sublist _)
         refine t_take 15 rfl (by kernel_rfl) (by kernel_rfl) (by kernel_rfl) (fun _ _ _ h => h) (fun w HS => r_nilc rfl) HS ?_
         refine t_take 16 rfl (by kernel_rfl) (by kernel_rfl) (by kernel_rfl) (fun _ _ _ h => h) (fun w HS => r_fa rfl fo106_0) HS ?_
         refine t_step 17 rfl (by kernel_rfl) (o_st (v := .slice (hd a114) (i + 1) c115) H (i := 0) rfl rfl rfl cs49 rfl (by simp only [List.length_cons, List.length_nil]; omega) (fun w H => ?_))
         replace H : Hp _ w _ ([.blk b3 ([.slice (hd a114) (i + 1) c115, .slice (hd a2) i c2, .bool false, VI (-1), VI 0, VI (-1), .string ⟨(([] : List UInt8)).toArray⟩, VI 0, VI 0]) 106, _, _, _, _]) := H
         refine ⟨H.sub (List.nil_sublist _), ?_⟩
         replace HS := H.sub (List.nil_sublist _)
         refine t_take 18 rfl (by kernel_rfl) (by kernel_rfl) (by kernel_rfl) (fun _ _ _ h => h) (fun w HS => r_nilc rfl) HS ?_
         refine t_take 19 rfl (by kernel_rfl) (by kernel_rfl) (by kernel_rfl) (fun _ _ _ h => h) (fun w HS => r_fa rfl fo106_1) HS ?_
         refine t_step 20 rfl (by kernel_rfl) (o_st (v := .slice (hd a116) (i + 1) c117) H (i := 0) rfl rfl rfl cs49 rfl (by simp only [List.length_cons, List.length_nil]; omega) (fun w H => ?_))
         replace H : Hp _ w _ ([.blk b3 ([.slice (hd a114) (i + 1) c115, .slice (hd a116) (i + 1) c117, .bool false, VI (-1), VI 0, VI (-1), .string ⟨(([] : List UInt8)).toArray⟩, VI 0, VI 0]) 106, _, _, _, _]) := H
         refine ⟨H.sub (List.nil_sublist _), ?_⟩
         replace HS := H.sub (List.nil_sublist _)
         refine t_done (by kernel_rfl) ?_
         clear HS
         repeat refine c_seq ?_
         refine c_region ?_
         refine l_op (o_val (r_mv) ?_)
         refine l_op (o_val (r_bin (a := (i : Int)) (b := 1) rfl rfl (fun _ => b_add (by omega) (by omega))) ?_)
         refine l_op (o_val (r_as) ?_)
         first | refine l_end ?_ | refine l_nil ?_
         rw [show List.replicate i (List.replicate 512 (0 : UInt8)) ++ [List.replicate 512 (0 : UInt8)] = List.replicate (i + 1) (List.replicate 512 (0 : UInt8)) from List.replicate_succ'.symm, show List.replicate i ([] : List UInt8) ++ [[]] = List.replicate (i + 1) ([] : List UInt8) from List.replicate_succ'.symm] at H
         refine round_end (i + 1, a114, c115, a116, c117) ?_ ?_ ?_
         · exact ⟨rfl, rfl, rfl, show VI ((i : Int) + 1) = VI ((i + 1 : Nat) : Int) from congrArg VI (by omega), trivial⟩
         · refine ⟨?_, ?_⟩
           · try dsimp only
             exact by omega
           · exact H.sub (.cons_cons _ (.cons_cons _ (.cons_cons _ (List.nil_sublist _))))
         · show n - (i + 1 : Nat) < n - i; omega
       ·
        refine (o_val (r_ld (v := .slice (hd a2) i c2) H (i := 0) rfl rfl ct49 rfl) ?_)
        refine ⟨H.sub (List.nil_sublist _), ?_⟩
        replace HS := H.sub (List.nil_sublist _)
        refine t_step 5 rfl (by kernel_rfl) (o_val (r_ld (v := .slice (hd a1) i c1) H (i := 0) rfl rfl ct49 rfl) ?_)
        refine ⟨H.sub (List.nil_sublist _), ?_⟩
        replace HS := H.sub (List.nil_sublist _)
        refine t_step 8 rfl (by kernel_rfl) (o_appG (enc := strD) (s := ⟨hd (some b66), 1, 1, [List.replicate 512 (0 : UInt8)]⟩) (l' := List.replicate i (List.replicate 512 (0 : UInt8)) ++ ([List.replicate 512 (0 : UInt8)])) (len' := i + 1) rfl rfl H (i := 1) rfl sl49 Try.underlying49 rfl rfl (H.glOwn (i := 3) rfl (by decide) (fun _ _ => rfl)) (by decide) (fun _ _ => rfl) (by omega) (by decide) (fun a118 c119 w H => ?_))
        replace H : Hp _ w _ ([_, .own a118 (i + 1) c119 ((List.replicate i (List.replicate 512 (0 : UInt8)) ++ ([List.replicate 512 (0 : UInt8)])).flatMap strD) 9 1, _, _, _]) := H
        refine ⟨H.sub (List.nil_sublist _), ?_⟩
        replace HS := H.sub (List.nil_sublist _)
        refine t_step 14 rfl (by kernel_rfl) (o_appG (enc := strD) (s := ⟨hd (some b109), 1, 1, [([] : List UInt8)]⟩) (l' := List.replicate i ([] : List UInt8) ++ ([([] : List UInt8)])) (len' := i + 1) rfl rfl H (i := 2) rfl sl49 Try.underlying49 rfl rfl (H.glOwn (i := 4) rfl (by decide) (fun _ _ => rfl)) (by decide) (fun _ _ => rfl) (by omega) (by decide) (fun a120 c121 w H => ?_))
        replace H : Hp _ w _ ([_, _, .own a120 (i + 1) c121 ((List.replicate i ([] : List UInt8) ++ ([([] : List UInt8)])).flatMap strD) 9 1, _, _]) := H
        refine ⟨H.sub (List.nil_sublist _), ?_⟩
        replace HS := H.sub (List.nil_sublist _)
        refine t_take 15 rfl (by kernel_rfl) (by kernel_rfl) (by kernel_rfl) (fun _ _ _ h => h) (fun w HS => r_nilc rfl) HS ?_
        refine t_take 16 rfl (by kernel_rfl) (by kernel_rfl) (by kernel_rfl) (fun _ _ _ h => h) (fun w HS => r_fa rfl fo106_0) HS ?_
        refine t_step 17 rfl (by kernel_rfl) (o_st (v := .slice (hd a118) (i + 1) c119) H (i := 0) rfl rfl rfl cs49 rfl (by simp only [List.length_cons, List.length_nil]; omega) (fun w H => ?_))
        replace H : Hp _ w _ ([.blk b3 ([.slice (hd a118) (i + 1) c119, .slice (hd a2) i c2, .bool false, VI (-1), VI 0, VI (-1), .string ⟨(([] : List UInt8)).toArray⟩, VI 0, VI 0]) 106, _, _, _, _]) := H
        refine ⟨H.sub (List.nil_sublist _), ?_⟩
        replace HS := H.sub (List.nil_sublist _)
        refine t_take 18 rfl (by kernel_rfl) (by kernel_rfl) (by kernel_rfl) (fun _ _ _ h => h) (fun w HS => r_nilc rfl) HS ?_
        refine t_take 19 rfl (by kernel_rfl) (by kernel_rfl) (by kernel_rfl) (fun _ _ _ h => h) (fun w HS => r_fa rfl fo106_1) HS ?_
        refine t_step 20 rfl (by kernel_rfl) (o_st (v := .slice (hd a120) (i + 1) c121) H (i := 0) rfl rfl rfl cs49 rfl (by simp only [List.length_cons, List.length_nil]; omega) (fun w H => ?_))
        replace H : Hp _ w _ ([.blk b3 ([.slice (hd a118) (i + 1) c119, .slice (hd a120) (i + 1) c121, .bool false, VI (-1), VI 0, VI (-1), .string ⟨(([] : List UInt8)).toArray⟩, VI 0, VI 0]) 106, _, _, _, _]) := H
        refine ⟨H.sub (List.nil_sublist _), ?_⟩
        replace HS := H.sub (List.nil_sublist _)
        refine t_done (by kernel_rfl) ?_
        clear HS
        repeat refine c_seq ?_
        refine c_region ?_
        refine l_op (o_val (r_mv) ?_)
        refine l_op (o_val (r_bin (a := (i : Int)) (b := 1) rfl rfl (fun _ => b_add (by omega) (by omega))) ?_)
        refine l_op (o_val (r_as) ?_)
        first | refine l_end ?_ | refine l_nil ?_
        rw [show List.replicate i (List.replicate 512 (0 : UInt8)) ++ [List.replicate 512 (0 : UInt8)] = List.replicate (i + 1) (List.replicate 512 (0 : UInt8)) from List.replicate_succ'.symm, show List.replicate i ([] : List UInt8) ++ [[]] = List.replicate (i + 1) ([] : List UInt8) from List.replicate_succ'.symm] at H
        refine round_end (i + 1, a118, c119, a120, c121) ?_ ?_ ?_
        · exact ⟨rfl, rfl, rfl, show VI ((i : Int) + 1) = VI ((i + 1 : Nat) : Int) from congrArg VI (by omega), trivial⟩
        · refine ⟨?_, ?_⟩
          · try dsimp only
            exact by omega
          · exact H.sub (.cons_cons _ (.cons_cons _ (.cons_cons _ (List.nil_sublist _))))
        · show n - (i + 1 : Nat) < n - i; omega
     ·
      refine (o_val (r_ld (v := .slice (hd a2) i c2) H (i := 0) rfl rfl ct49 rfl) ?_)
      refine ⟨H.sub (List.nil_sublist _), ?_⟩
      replace HS := H.sub (List.nil_sublist _)
      refine t_all [5, 7, 13] (by kernel_rfl) (by simp) (all_cons (w_op 5 rfl ?_) (all_cons (w_op 7 rfl ?_) (all_cons (w_op 13 rfl ?_) (all_nil))))
      ·
       refine (o_val (r_ld (v := .slice (hd a1) i c1) H (i := 0) rfl rfl ct49 rfl) ?_)
       refine ⟨H.sub (List.nil_sublist _), ?_⟩
       replace HS := H.sub (List.nil_sublist _)
       refine t_all [7, 13] (by kernel_rfl) (by simp) (all_cons (w_op 7 rfl ?_) (all_cons (w_op 13 rfl ?_) (all_nil)))
       ·
        refine (o_bslV ([.string ⟨(List.replicate 512 (0 : UInt8)).toArray⟩]) H sl49 zc9 rfl (by simp [Value.oneCell']) rfl (by decide) (fun b122 w H hb122 => ?_))
        replace H : Hp _ w _ ([_, _, _, .own (some b122) 1 1 (([List.replicate 512 (0 : UInt8)]).flatMap strD) 9 1]) := H
        refine ⟨H.sub (List.nil_sublist _), ?_⟩
        replace HS := H.sub (List.nil_sublist _)
        refine t_all [8, 13] (by kernel_rfl) (by simp) (all_cons (w_op 8 rfl ?_) (all_cons (w_op 13 rfl ?_) (all_nil)))
        ·
         refine (o_appG (enc := strD) (s := ⟨hd (some b122), 1, 1, [List.replicate 512 (0 : UInt8)]⟩) (l' := List.replicate i (List.replicate 512 (0 : UInt8)) ++ ([List.replicate 512 (0 : UInt8)])) (len' := i + 1) rfl rfl H (i := 1) rfl sl49 Try.underlying49 rfl rfl (H.glOwn (i := 3) rfl (by decide) (fun _ _ => rfl)) (by decide) (fun _ _ => rfl) (by omega) (by decide) (fun a123 c124 w H => ?_))
         replace H : Hp _ w _ ([_, .own a123 (i + 1) c124 ((List.replicate i (List.replicate 512 (0 : UInt8)) ++ ([List.replicate 512 (0 : UInt8)])).flatMap strD) 9 1, _, _]) := H
         refine ⟨H.sub (List.nil_sublist _), ?_⟩
         replace HS := H.sub (List.nil_sublist _)
         refine t_step 13 rfl (by kernel_rfl) (o_bslV ([.string ⟨(([] : List UInt8)).toArray⟩]) H sl49 zc9 rfl (by simp [Value.oneCell']) rfl (by decide) (fun b125 w H hb125 => ?_))
         replace H : Hp _ w _ ([_, _, _, _, .own (some b125) 1 1 (([([] : List UInt8)]).flatMap strD) 9 1]) := H
         refine ⟨H.sub (List.nil_sublist _), ?_⟩
         replace HS := H.sub (List.nil_sublist _)
         refine t_step 14 rfl (by kernel_rfl) (o_appG (enc := strD) (s := ⟨hd (some b125), 1, 1, [([] : List UInt8)]⟩) (l' := List.replicate i ([] : List UInt8) ++ ([([] : List UInt8)])) (len' := i + 1) rfl rfl H (i := 2) rfl sl49 Try.underlying49 rfl rfl (H.glOwn (i := 4) rfl (by decide) (fun _ _ => rfl)) (by decide) (fun _ _ => rfl) (by omega) (by decide) (fun a126 c127 w H => ?_))
         replace H : Hp _ w _ ([_, _, .own a126 (i + 1) c127 ((List.replicate i ([] : List UInt8) ++ ([([] : List UInt8)])).flatMap strD) 9 1, _, _]) := H
         refine ⟨H.sub (List.nil_sublist _), ?_⟩
         replace HS := H.sub (List.nil_sublist _)
         refine t_take 15 rfl (by kernel_rfl) (by kernel_rfl) (by kernel_rfl) (fun _ _ _ h => h) (fun w HS => r_nilc rfl) HS ?_
         refine t_take 16 rfl (by kernel_rfl) (by kernel_rfl) (by kernel_rfl) (fun _ _ _ h => h) (fun w HS => r_fa rfl fo106_0) HS ?_
         refine t_step 17 rfl (by kernel_rfl) (o_st (v := .slice (hd a123) (i + 1) c124) H (i := 0) rfl rfl rfl cs49 rfl (by simp only [List.length_cons, List.length_nil]; omega) (fun w H => ?_))
         replace H : Hp _ w _ ([.blk b3 ([.slice (hd a123) (i + 1) c124, .slice (hd a2) i c2, .bool false, VI (-1), VI 0, VI (-1), .string ⟨(([] : List UInt8)).toArray⟩, VI 0, VI 0]) 106, _, _, _, _]) := H
         refine ⟨H.sub (List.nil_sublist _), ?_⟩
         replace HS := H.sub (List.nil_sublist _)
         refine t_take 18 rfl (by kernel_rfl) (by kernel_rfl) (by kernel_rfl) (fun _ _ _ h => h) (fun w HS => r_nilc rfl) HS ?_
         refine t_take 19 rfl (by kernel_rfl) (by kernel_rfl) (by kernel_rfl) (fun _ _ _ h => h) (fun w HS => r_fa rfl fo106_1) HS ?_
         refine t_step 20 rfl (by kernel_rfl) (o_st (v := .slice (hd a126) (i + 1) c127) H (i := 0) rfl rfl rfl cs49 rfl (by simp only [List.length_cons, List.length_nil]; omega) (fun w H => ?_))
         replace H : Hp _ w _ ([.blk b3 ([.slice (hd a123) (i + 1) c124, .slice (hd a126) (i + 1) c127, .bool false, VI (-1), VI 0, VI (-1), .string ⟨(([] : List UInt8)).toArray⟩, VI 0, VI 0]) 106, _, _, _, _]) := H
         refine ⟨H.sub (List.nil_sublist _), ?_⟩
         replace HS := H.sub (List.nil_sublist _)
         refine t_done (by kernel_rfl) ?_
         clear HS
         repeat refine c_seq ?_
         refine c_region ?_
         refine l_op (o_val (r_mv) ?_)
         refine l_op (o_val (r_bin (a := (i : Int)) (b := 1) rfl rfl (fun _ => b_add (by omega) (by omega))) ?_)
         refine l_op (o_val (r_as) ?_)
         first | refine l_end ?_ | refine l_nil ?_
         rw [show List.replicate i (List.replicate 512 (0 : UInt8)) ++ [List.replicate 512 (0 : UInt8)] = List.replicate (i + 1) (List.replicate 512 (0 : UInt8)) from List.replicate_succ'.symm, show List.replicate i ([] : List UInt8) ++ [[]] = List.replicate (i + 1) ([] : List UInt8) from List.replicate_succ'.symm] at H
         refine round_end (i + 1, a123, c124, a126, c127) ?_ ?_ ?_
         · exact ⟨rfl, rfl, rfl, show VI ((i : Int) + 1) = VI ((i + 1 : Nat) : Int) from congrArg VI (by omega), trivial⟩
         · refine ⟨?_, ?_⟩
           · try dsimp only
             exact by omega
           · exact H.sub (.cons_cons _ (.cons_cons _ (.cons_cons _ (List.nil_sublist _))))
         · show n - (i + 1 : Nat) < n - i; omega
        ·
         refine (o_bslV ([.string ⟨(([] : List UInt8)).toArray⟩]) H sl49 zc9 rfl (by simp [Value.oneCell']) rfl (by decide) (fun b128 w H hb128 => ?_))
         replace H : Hp _ w _ ([_, _, _, _, .own (some b128) 1 1 (([([] : List UInt8)]).flatMap strD) 9 1]) := H
         refine ⟨H.sub (List.nil_sublist _), ?_⟩
         replace HS := H.sub (List.nil_sublist _)
         refine t_step 8 rfl (by kernel_rfl) (o_appG (enc := strD) (s := ⟨hd (some b122), 1, 1, [List.replicate 512 (0 : UInt8)]⟩) (l' := List.replicate i (List.replicate 512 (0 : UInt8)) ++ ([List.replicate 512 (0 : UInt8)])) (len' := i + 1) rfl rfl H (i := 1) rfl sl49 Try.underlying49 rfl rfl (H.glOwn (i := 3) rfl (by decide) (fun _ _ => rfl)) (by decide) (fun _ _ => rfl) (by omega) (by decide) (fun a129 c130 w H => ?_))
         replace H : Hp _ w _ ([_, .own a129 (i + 1) c130 ((List.replicate i (List.replicate 512 (0 : UInt8)) ++ ([List.replicate 512 (0 : UInt8)])).flatMap strD) 9 1, _, _, _]) := H
         refine ⟨H.sub (List.nil_sublist _), ?_⟩
         replace HS := H.sub (List.nil_sublist _)
         refine t_step 14 rfl (by kernel_rfl) (o_appG (enc := strD) (s := ⟨hd (some b128), 1, 1, [([] : List UInt8)]⟩) (l' := List.replicate i ([] : List UInt8) ++ ([([] : List UInt8)])) (len' := i + 1) rfl rfl H (i := 2) rfl sl49 Try.underlying49 rfl rfl (H.glOwn (i := 4) rfl (by decide) (fun _ _ => rfl)) (by decide) (fun _ _ => rfl) (by omega) (by decide) (fun a131 c132 w H => ?_))
         replace H : Hp _ w _ ([_, _, .own a131 (i + 1) c132 ((List.replicate i ([] : List UInt8) ++ ([([] : List UInt8)])).flatMap strD) 9 1, _, _]) := H
         refine ⟨H.sub (List.nil_sublist _), ?_⟩
         replace HS := H.sub (List.nil_sublist _)
         refine t_take 15 rfl (by kernel_rfl) (by kernel_rfl) (by kernel_rfl) (fun _ _ _ h => h) (fun w HS => r_nilc rfl) HS ?_
         refine t_take 16 rfl (by kernel_rfl) (by kernel_rfl) (by kernel_rfl) (fun _ _ _ h => h) (fun w HS => r_fa rfl fo106_0) HS ?_
         refine t_step 17 rfl (by kernel_rfl) (o_st (v := .slice (hd a129) (i + 1) c130) H (i := 0) rfl rfl rfl cs49 rfl (by simp only [List.length_cons, List.length_nil]; omega) (fun w H => ?_))
         replace H : Hp _ w _ ([.blk b3 ([.slice (hd a129) (i + 1) c130, .slice (hd a2) i c2, .bool false, VI (-1), VI 0, VI (-1), .string ⟨(([] : List UInt8)).toArray⟩, VI 0, VI 0]) 106, _, _, _, _]) := H
         refine ⟨H.sub (List.nil_sublist _), ?_⟩
         replace HS := H.sub (List.nil_sublist _)
         refine t_take 18 rfl (by kernel_rfl) (by kernel_rfl) (by kernel_rfl) (fun _ _ _ h => h) (fun w HS => r_nilc rfl) HS ?_
         refine t_take 19 rfl (by kernel_rfl) (by kernel_rfl) (by kernel_rfl) (fun _ _ _ h => h) (fun w HS => r_fa rfl fo106_1) HS ?_
         refine t_step 20 rfl (by kernel_rfl) (o_st (v := .slice (hd a131) (i + 1) c132) H (i := 0) rfl rfl rfl cs49 rfl (by simp only [List.length_cons, List.length_nil]; omega) (fun w H => ?_))
         replace H : Hp _ w _ ([.blk b3 ([.slice (hd a129) (i + 1) c130, .slice (hd a131) (i + 1) c132, .bool false, VI (-1), VI 0, VI (-1), .string ⟨(([] : List UInt8)).toArray⟩, VI 0, VI 0]) 106, _, _, _, _]) := H
         refine ⟨H.sub (List.nil_sublist _), ?_⟩
         replace HS := H.sub (List.nil_sublist _)
         refine t_done (by kernel_rfl) ?_
         clear HS
         repeat refine c_seq ?_
         refine c_region ?_
         refine l_op (o_val (r_mv) ?_)
         refine l_op (o_val (r_bin (a := (i : Int)) (b := 1) rfl rfl (fun _ => b_add (by omega) (by omega))) ?_)
         refine l_op (o_val (r_as) ?_)
         first | refine l_end ?_ | refine l_nil ?_
         rw [show List.replicate i (List.replicate 512 (0 : UInt8)) ++ [List.replicate 512 (0 : UInt8)] = List.replicate (i + 1) (List.replicate 512 (0 : UInt8)) from List.replicate_succ'.symm, show List.replicate i ([] : List UInt8) ++ [[]] = List.replicate (i + 1) ([] : List UInt8) from List.replicate_succ'.symm] at H
         refine round_end (i + 1, a129, c130, a131, c132) ?_ ?_ ?_
         · exact ⟨rfl, rfl, rfl, show VI ((i : Int) + 1) = VI ((i + 1 : Nat) : Int) from congrArg VI (by omega), trivial⟩
         · refine ⟨?_, ?_⟩
           · try dsimp only
             exact by omega
           · exact H.sub (.cons_cons _ (.cons_cons _ (.cons_cons _ (List.nil_sublist _))))
         · show n - (i + 1 : Nat) < n - i; omega
       ·
        refine (o_bslV ([.string ⟨(([] : List UInt8)).toArray⟩]) H sl49 zc9 rfl (by simp [Value.oneCell']) rfl (by decide) (fun b133 w H hb133 => ?_))
        replace H : Hp _ w _ ([_, _, _, .own (some b133) 1 1 (([([] : List UInt8)]).flatMap strD) 9 1]) := H
        refine ⟨H.sub (List.nil_sublist _), ?_⟩
        replace HS := H.sub (List.nil_sublist _)
        refine t_step 7 rfl (by kernel_rfl) (o_bslV ([.string ⟨(List.replicate 512 (0 : UInt8)).toArray⟩]) H sl49 zc9 rfl (by simp [Value.oneCell']) rfl (by decide) (fun b134 w H hb134 => ?_))
        replace H : Hp _ w _ ([_, _, _, _, .own (some b134) 1 1 (([List.replicate 512 (0 : UInt8)]).flatMap strD) 9 1]) := H
        refine ⟨H.sub (List.nil_sublist _), ?_⟩
        replace HS := H.sub (List.nil_sublist _)
        refine t_step 8 rfl (by kernel_rfl) (o_appG (enc := strD) (s := ⟨hd (some b134), 1, 1, [List.replicate 512 (0 : UInt8)]⟩) (l' := List.replicate i (List.replicate 512 (0 : UInt8)) ++ ([List.replicate 512 (0 : UInt8)])) (len' := i + 1) rfl rfl H (i := 1) rfl sl49 Try.underlying49 rfl rfl (H.glOwn (i := 4) rfl (by decide) (fun _ _ => rfl)) (by decide) (fun _ _ => rfl) (by omega) (by decide) (fun a135 c136 w H => ?_))
        replace H : Hp _ w _ ([_, .own a135 (i + 1) c136 ((List.replicate i (List.replicate 512 (0 : UInt8)) ++ ([List.replicate 512 (0 : UInt8)])).flatMap strD) 9 1, _, _, _]) := H
        refine ⟨H.sub (List.nil_sublist _), ?_⟩
        replace HS := H.sub (List.nil_sublist _)
        refine t_step 14 rfl (by kernel_rfl) (o_appG (enc := strD) (s := ⟨hd (some b133), 1, 1, [([] : List UInt8)]⟩) (l' := List.replicate i ([] : List UInt8) ++ ([([] : List UInt8)])) (len' := i + 1) rfl rfl H (i := 2) rfl sl49 Try.underlying49 rfl rfl (H.glOwn (i := 3) rfl (by decide) (fun _ _ => rfl)) (by decide) (fun _ _ => rfl) (by omega) (by decide) (fun a137 c138 w H => ?_))
        replace H : Hp _ w _ ([_, _, .own a137 (i + 1) c138 ((List.replicate i ([] : List UInt8) ++ ([([] : List UInt8)])).flatMap strD) 9 1, _, _]) := H
        refine ⟨H.sub (List.nil_sublist _), ?_⟩
        replace HS := H.sub (List.nil_sublist _)
        refine t_take 15 rfl (by kernel_rfl) (by kernel_rfl) (by kernel_rfl) (fun _ _ _ h => h) (fun w HS => r_nilc rfl) HS ?_
        refine t_take 16 rfl (by kernel_rfl) (by kernel_rfl) (by kernel_rfl) (fun _ _ _ h => h) (fun w HS => r_fa rfl fo106_0) HS ?_
        refine t_step 17 rfl (by kernel_rfl) (o_st (v := .slice (hd a135) (i + 1) c136) H (i := 0) rfl rfl rfl cs49 rfl (by simp only [List.length_cons, List.length_nil]; omega) (fun w H => ?_))
        replace H : Hp _ w _ ([.blk b3 ([.slice (hd a135) (i + 1) c136, .slice (hd a2) i c2, .bool false, VI (-1), VI 0, VI (-1), .string ⟨(([] : List UInt8)).toArray⟩, VI 0, VI 0]) 106, _, _, _, _]) := H
        refine ⟨H.sub (List.nil_sublist _), ?_⟩
        replace HS := H.sub (List.nil_sublist _)
        refine t_take 18 rfl (by kernel_rfl) (by kernel_rfl) (by kernel_rfl) (fun _ _ _ h => h) (fun w HS => r_nilc rfl) HS ?_
        refine t_take 19 rfl (by kernel_rfl) (by kernel_rfl) (by kernel_rfl) (fun _ _ _ h => h) (fun w HS => r_fa rfl fo106_1) HS ?_
        refine t_step 20 rfl (by kernel_rfl) (o_st (v := .slice (hd a137) (i + 1) c138) H (i := 0) rfl rfl rfl cs49 rfl (by simp only [List.length_cons, List.length_nil]; omega) (fun w H => ?_))
        replace H : Hp _ w _ ([.blk b3 ([.slice (hd a135) (i + 1) c136, .slice (hd a137) (i + 1) c138, .bool false, VI (-1), VI 0, VI (-1), .string ⟨(([] : List UInt8)).toArray⟩, VI 0, VI 0]) 106, _, _, _, _]) := H
        refine ⟨H.sub (List.nil_sublist _), ?_⟩
        replace HS := H.sub (List.nil_sublist _)
        refine t_done (by kernel_rfl) ?_
        clear HS
        repeat refine c_seq ?_
        refine c_region ?_
        refine l_op (o_val (r_mv) ?_)
        refine l_op (o_val (r_bin (a := (i : Int)) (b := 1) rfl rfl (fun _ => b_add (by omega) (by omega))) ?_)
        refine l_op (o_val (r_as) ?_)
        first | refine l_end ?_ | refine l_nil ?_
        rw [show List.replicate i (List.replicate 512 (0 : UInt8)) ++ [List.replicate 512 (0 : UInt8)] = List.replicate (i + 1) (List.replicate 512 (0 : UInt8)) from List.replicate_succ'.symm, show List.replicate i ([] : List UInt8) ++ [[]] = List.replicate (i + 1) ([] : List UInt8) from List.replicate_succ'.symm] at H
        refine round_end (i + 1, a135, c136, a137, c138) ?_ ?_ ?_
        · exact ⟨rfl, rfl, rfl, show VI ((i : Int) + 1) = VI ((i + 1 : Nat) : Int) from congrArg VI (by omega), trivial⟩
        · refine ⟨?_, ?_⟩
          · try dsimp only
            exact by omega
          · exact H.sub (.cons_cons _ (.cons_cons _ (.cons_cons _ (List.nil_sublist _))))
        · show n - (i + 1 : Nat) < n - i; omega
      ·
       refine (o_bslV ([.string ⟨(List.replicate 512 (0 : UInt8)).toArray⟩]) H sl49 zc9 rfl (by simp [Value.oneCell']) rfl (by decide) (fun b139 w H hb139 => ?_))
       replace H : Hp _ w _ ([_, _, _, .own (some b139) 1 1 (([List.replicate 512 (0 : UInt8)]).flatMap strD) 9 1]) := H
       refine ⟨H.sub (List.nil_sublist _), ?_⟩
       replace HS := H.sub (List.nil_sublist _)
       refine t_all [5, 13] (by kernel_rfl) (by simp) (all_cons (w_op 5 rfl ?_) (all_cons (w_op 13 rfl ?_) (all_nil)))
       ·
        refine (o_val (r_ld (v := .slice (hd a1) i c1) H (i := 0) rfl rfl ct49 rfl) ?_)
        refine ⟨H.sub (List.nil_sublist _), ?_⟩
        replace HS := H.sub (List.nil_sublist _)
        refine t_all [8, 13] (by kernel_rfl) (by simp) (all_cons (w_op 8 rfl ?_) (all_cons (w_op 13 rfl ?_) (all_nil)))
        ·
         refine (o_appG (enc := strD) (s := ⟨hd (some b139), 1, 1, [List.replicate 512 (0 : UInt8)]⟩) (l' := List.replicate i (List.replicate 512 (0 : UInt8)) ++ ([List.replicate 512 (0 : UInt8)])) (len' := i + 1) rfl rfl H (i := 1) rfl sl49 Try.underlying49 rfl rfl (H.glOwn (i := 3) rfl (by decide) (fun _ _ => rfl)) (by decide) (fun _ _ => rfl) (by omega) (by decide) (fun a140 c141 w H => ?_))
         replace H : Hp _ w _ ([_, .own a140 (i + 1) c141 ((List.replicate i (List.replicate 512 (0 : UInt8)) ++ ([List.replicate 512 (0 : UInt8)])).flatMap strD) 9 1, _, _]) := H
         refine ⟨H.sub (List.nil_sublist _), ?_⟩
         replace HS := H.sub (List.nil_sublist _)
         refine t_step 13 rfl (by kernel_rfl) (o_bslV ([.string ⟨(([] : List UInt8)).toArray⟩]) H sl49 zc9 rfl (by simp [Value.oneCell']) rfl (by decide) (fun b142 w H hb142 => ?_))
         replace H : Hp _ w _ ([_, _, _, _, .own (some b142) 1 1 (([([] : List UInt8)]).flatMap strD) 9 1]) := H
         refine ⟨H.sub (List.nil_sublist _), ?_⟩
         replace HS := H.sub (List.nil_sublist _)
         refine t_step 14 rfl (by kernel_rfl) (o_appG (enc := strD) (s := ⟨hd (some b142), 1, 1, [([] : List UInt8)]⟩) (l' := List.replicate i ([] : List UInt8) ++ ([([] : List UInt8)])) (len' := i + 1) rfl rfl H (i := 2) rfl sl49 Try.underlying49 rfl rfl (H.glOwn (i := 4) rfl (by decide) (fun _ _ => rfl)) (by decide) (fun _ _ => rfl) (by omega) (by decide) (fun a143 c144 w H => ?_))
         replace H : Hp _ w _ ([_, _, .own a143 (i + 1) c144 ((List.replicate i ([] : List UInt8) ++ ([([] : List UInt8)])).flatMap strD) 9 1, _, _]) := H
         refine ⟨H.sub (List.nil_sublist _), ?_⟩
         replace HS := H.sub (List.nil_sublist _)
         refine t_take 15 rfl (by kernel_rfl) (by kernel_rfl) (by kernel_rfl) (fun _ _ _ h => h) (fun w HS => r_nilc rfl) HS ?_
         refine t_take 16 rfl (by kernel_rfl) (by kernel_rfl) (by kernel_rfl) (fun _ _ _ h => h) (fun w HS => r_fa rfl fo106_0) HS ?_
         refine t_step 17 rfl (by kernel_rfl) (o_st (v := .slice (hd a140) (i + 1) c141) H (i := 0) rfl rfl rfl cs49 rfl (by simp only [List.length_cons, List.length_nil]; omega) (fun w H => ?_))
         replace H : Hp _ w _ ([.blk b3 ([.slice (hd a140) (i + 1) c141, .slice (hd a2) i c2, .bool false, VI (-1), VI 0, VI (-1), .string ⟨(([] : List UInt8)).toArray⟩, VI 0, VI 0]) 106, _, _, _, _]) := H
         refine ⟨H.sub (List.nil_sublist _), ?_⟩
         replace HS := H.sub (List.nil_sublist _)
         refine t_take 18 rfl (by kernel_rfl) (by kernel_rfl) (by kernel_rfl) (fun _ _ _ h => h) (fun w HS => r_nilc rfl) HS ?_
         refine t_take 19 rfl (by kernel_rfl) (by kernel_rfl) (by kernel_rfl) (fun _ _ _ h => h) (fun w HS => r_fa rfl fo106_1) HS ?_
         refine t_step 20 rfl (by kernel_rfl) (o_st (v := .slice (hd a143) (i + 1) c144) H (i := 0) rfl rfl rfl cs49 rfl (by simp only [List.length_cons, List.length_nil]; omega) (fun w H => ?_))
         replace H : Hp _ w _ ([.blk b3 ([.slice (hd a140) (i + 1) c141, .slice (hd a143) (i + 1) c144, .bool false, VI (-1), VI 0, VI (-1), .string ⟨(([] : List UInt8)).toArray⟩, VI 0, VI 0]) 106, _, _, _, _]) := H
         refine ⟨H.sub (List.nil_sublist _), ?_⟩
         replace HS := H.sub (List.nil_sublist _)
         refine t_done (by kernel_rfl) ?_
         clear HS
         repeat refine c_seq ?_
         refine c_region ?_
         refine l_op (o_val (r_mv) ?_)
         refine l_op (o_val (r_bin (a := (i : Int)) (b := 1) rfl rfl (fun _ => b_add (by omega) (by omega))) ?_)
         refine l_op (o_val (r_as) ?_)
         first | refine l_end ?_ | refine l_nil ?_
         rw [show List.replicate i (List.replicate 512 (0 : UInt8)) ++ [List.replicate 512 (0 : UInt8)] = List.replicate (i + 1) (List.replicate 512 (0 : UInt8)) from List.replicate_succ'.symm, show List.replicate i ([] : List UInt8) ++ [[]] = List.replicate (i + 1) ([] : List UInt8) from List.replicate_succ'.symm] at H
         refine round_end (i + 1, a140, c141, a143, c144) ?_ ?_ ?_
         · exact ⟨rfl, rfl, rfl, show VI ((i : Int) + 1) = VI ((i + 1 : Nat) : Int) from congrArg VI (by omega), trivial⟩
         · refine ⟨?_, ?_⟩
           · try dsimp only
             exact by omega
           · exact H.sub (.cons_cons _ (.cons_cons _ (.cons_cons _ (List.nil_sublist _))))
         · show n - (i + 1 : Nat) < n - i; omega
        ·
         refine (o_bslV ([.string ⟨(([] : List UInt8)).toArray⟩]) H sl49 zc9 rfl (by simp [Value.oneCell']) rfl (by decide) (fun b145 w H hb145 => ?_))
         replace H : Hp _ w _ ([_, _, _, _, .own (some b145) 1 1 (([([] : List UInt8)]).flatMap strD) 9 1]) := H
         refine ⟨H.sub (List.nil_sublist _), ?_⟩
         replace HS := H.sub (List.nil_sublist _)
         refine t_step 8 rfl (by kernel_rfl) (o_appG (enc := strD) (s := ⟨hd (some b139), 1, 1, [List.replicate 512 (0 : UInt8)]⟩) (l' := List.replicate i (List.replicate 512 (0 : UInt8)) ++ ([List.replicate 512 (0 : UInt8)])) (len' := i + 1) rfl rfl H (i := 1) rfl sl49 Try.underlying49 rfl rfl (H.glOwn (i := 3) rfl (by decide) (fun _ _ => rfl)) (by decide) (fun _ _ => rfl) (by omega) (by decide) (fun a146 c147 w H => ?_))
         replace H : Hp _ w _ ([_, .own a146 (i + 1) c147 ((List.replicate i (List.replicate 512 (0 : UInt8)) ++ ([List.replicate 512 (0 : UInt8)])).flatMap strD) 9 1, _, _, _]) := H
         refine ⟨H.sub (List.nil_sublist _), ?_⟩
         replace HS := H.sub (List.nil_sublist _)
         refine t_step 14 rfl (by kernel_rfl) (o_appG (enc := strD) (s := ⟨hd (some b145), 1, 1, [([] : List UInt8)]⟩) (l' := List.replicate i ([] : List UInt8) ++ ([([] : List UInt8)])) (len' := i + 1) rfl rfl H (i := 2) rfl sl49 Try.underlying49 rfl rfl (H.glOwn (i := 4) rfl (by decide) (fun _ _ => rfl)) (by decide) (fun _ _ => rfl) (by omega) (by decide) (fun a148 c149 w H => ?_))
         replace H : Hp _ w _ ([_, _, .own a148 (i + 1) c149 ((List.replicate i ([] : List UInt8) ++ ([([] : List UInt8)])).flatMap strD) 9 1, _, _]) := H
         refine ⟨H.sub (List.nil_sublist _), ?_⟩
         replace HS := H.sub (List.nil_sublist _)
         refine t_take 15 rfl (by kernel_rfl) (by kernel_rfl) (by kernel_rfl) (fun _ _ _ h => h) (fun w HS => r_nilc rfl) HS ?_
         refine t_take 16 rfl (by kernel_rfl) (by kernel_rfl) (by kernel_rfl) (fun _ _ _ h => h) (fun w HS => r_fa rfl fo106_0) HS ?_
         refine t_step 17 rfl (by kernel_rfl) (o_st (v := .slice (hd a146) (i + 1) c147) H (i := 0) rfl rfl rfl cs49 rfl (by simp only [List.length_cons, List.length_nil]; omega) (fun w H => ?_))
         replace H : Hp _ w _ ([.blk b3 ([.slice (hd a146) (i + 1) c147, .slice (hd a2) i c2, .bool false, VI (-1), VI 0, VI (-1), .string ⟨(([] : List UInt8)).toArray⟩, VI 0, VI 0]) 106, _, _, _, _]) := H
         refine ⟨H.sub (List.nil_sublist _), ?_⟩
         replace HS := H.sub (List.nil_sublist _)
         refine t_take 18 rfl (by kernel_rfl) (by kernel_rfl) (by kernel_rfl) (fun _ _ _ h => h) (fun w HS => r_nilc rfl) HS ?_
         refine t_take 19 rfl (by kernel_rfl) (by kernel_rfl) (by kernel_rfl) (fun _ _ _ h => h) (fun w HS => r_fa rfl fo106_1) HS ?_
         refine t_step 20 rfl (by kernel_rfl) (o_st (v := .slice (hd a148) (i + 1) c149) H (i := 0) rfl rfl rfl cs49 rfl (by simp only [List.length_cons, List.length_nil]; omega) (fun w H => ?_))
         replace H : Hp _ w _ ([.blk b3 ([.slice (hd a146) (i + 1) c147, .slice (hd a148) (i + 1) c149, .bool false, VI (-1), VI 0, VI (-1), .string ⟨(([] : List UInt8)).toArray⟩, VI 0, VI 0]) 106, _, _, _, _]) := H
         refine ⟨H.sub (List.nil_sublist _), ?_⟩
         replace HS := H.sub (List.nil_sublist _)
         refine t_done (by kernel_rfl) ?_
         clear HS
         repeat refine c_seq ?_
         refine c_region ?_
         refine l_op (o_val (r_mv) ?_)
         refine l_op (o_val (r_bin (a := (i : Int)) (b := 1) rfl rfl (fun _ => b_add (by omega) (by omega))) ?_)
         refine l_op (o_val (r_as) ?_)
         first | refine l_end ?_ | refine l_nil ?_
         rw [show List.replicate i (List.replicate 512 (0 : UInt8)) ++ [List.replicate 512 (0 : UInt8)] = List.replicate (i + 1) (List.replicate 512 (0 : UInt8)) from List.replicate_succ'.symm, show List.replicate i ([] : List UInt8) ++ [[]] = List.replicate (i + 1) ([] : List UInt8) from List.replicate_succ'.symm] at H
         refine round_end (i + 1, a146, c147, a148, c149) ?_ ?_ ?_
         · exact ⟨rfl, rfl, rfl, show VI ((i : Int) + 1) = VI ((i + 1 : Nat) : Int) from congrArg VI (by omega), trivial⟩
         · refine ⟨?_, ?_⟩
           · try dsimp only
             exact by omega
           · exact H.sub (.cons_cons _ (.cons_cons _ (.cons_cons _ (List.nil_sublist _))))
         · show n - (i + 1 : Nat) < n - i; omega
       ·
        refine (o_bslV ([.string ⟨(([] : List UInt8)).toArray⟩]) H sl49 zc9 rfl (by simp [Value.oneCell']) rfl (by decide) (fun b150 w H hb150 => ?_))
        replace H : Hp _ w _ ([_, _, _, _, .own (some b150) 1 1 (([([] : List UInt8)]).flatMap strD) 9 1]) := H
        refine ⟨H.sub (List.nil_sublist _), ?_⟩
        replace HS := H.sub (List.nil_sublist _)
        refine t_step 5 rfl (by kernel_rfl) (o_val (r_ld (v := .slice (hd a1) i c1) H (i := 0) rfl rfl ct49 rfl) ?_)
        refine ⟨H.sub (List.nil_sublist _), ?_⟩
        replace HS := H.sub (List.nil_sublist _)
        refine t_step 8 rfl (by kernel_rfl) (o_appG (enc := strD) (s := ⟨hd (some b139), 1, 1, [List.replicate 512 (0 : UInt8)]⟩) (l' := List.replicate i (List.replicate 512 (0 : UInt8)) ++ ([List.replicate 512 (0 : UInt8)])) (len' := i + 1) rfl rfl H (i := 1) rfl sl49 Try.underlying49 rfl rfl (H.glOwn (i := 3) rfl (by decide) (fun _ _ => rfl)) (by decide) (fun _ _ => rfl) (by omega) (by decide) (fun a151 c152 w H => ?_))
        replace H : Hp _ w _ ([_, .own a151 (i + 1) c152 ((List.replicate i (List.replicate 512 (0 : UInt8)) ++ ([List.replicate 512 (0 : UInt8)])).flatMap strD) 9 1, _, _, _]) := H
        refine ⟨H.sub (List.nil_sublist _), ?_⟩
        replace HS := H.sub (List.nil_sublist _)
        refine t_step 14 rfl (by kernel_rfl) (o_appG (enc := strD) (s := ⟨hd (some b150), 1, 1, [([] : List UInt8)]⟩) (l' := List.replicate i ([] : List UInt8) ++ ([([] : List UInt8)])) (len' := i + 1) rfl rfl H (i := 2) rfl sl49 Try.underlying49 rfl rfl (H.glOwn (i := 4) rfl (by decide) (fun _ _ => rfl)) (by decide) (fun _ _ => rfl) (by omega) (by decide) (fun a153 c154 w H => ?_))
        replace H : Hp _ w _ ([_, _, .own a153 (i + 1) c154 ((List.replicate i ([] : List UInt8) ++ ([([] : List UInt8)])).flatMap strD) 9 1, _, _]) := H
        refine ⟨H.sub (List.nil_sublist _), ?_⟩
        replace HS := H.sub (List.nil_sublist _)
        refine t_take 15 rfl (by kernel_rfl) (by kernel_rfl) (by kernel_rfl) (fun _ _ _ h => h) (fun w HS => r_nilc rfl) HS ?_
        refine t_take 16 rfl (by kernel_rfl) (by kernel_rfl) (by kernel_rfl) (fun _ _ _ h => h) (fun w HS => r_fa rfl fo106_0) HS ?_
        refine t_step 17 rfl (by kernel_rfl) (o_st (v := .slice (hd a151) (i + 1) c152) H (i := 0) rfl rfl rfl cs49 rfl (by simp only [List.length_cons, List.length_nil]; omega) (fun w H => ?_))
        replace H : Hp _ w _ ([.blk b3 ([.slice (hd a151) (i + 1) c152, .slice (hd a2) i c2, .bool false, VI (-1), VI 0, VI (-1), .string ⟨(([] : List UInt8)).toArray⟩, VI 0, VI 0]) 106, _, _, _, _]) := H
        refine ⟨H.sub (List.nil_sublist _), ?_⟩
        replace HS := H.sub (List.nil_sublist _)
        refine t_take 18 rfl (by kernel_rfl) (by kernel_rfl) (by kernel_rfl) (fun _ _ _ h => h) (fun w HS => r_nilc rfl) HS ?_
        refine t_take 19 rfl (by kernel_rfl) (by kernel_rfl) (by kernel_rfl) (fun _ _ _ h => h) (fun w HS => r_fa rfl fo106_1) HS ?_
        refine t_step 20 rfl (by kernel_rfl) (o_st (v := .slice (hd a153) (i + 1) c154) H (i := 0) rfl rfl rfl cs49 rfl (by simp only [List.length_cons, List.length_nil]; omega) (fun w H => ?_))
        replace H : Hp _ w _ ([.blk b3 ([.slice (hd a151) (i + 1) c152, .slice (hd a153) (i + 1) c154, .bool false, VI (-1), VI 0, VI (-1), .string ⟨(([] : List UInt8)).toArray⟩, VI 0, VI 0]) 106, _, _, _, _]) := H
        refine ⟨H.sub (List.nil_sublist _), ?_⟩
        replace HS := H.sub (List.nil_sublist _)
        refine t_done (by kernel_rfl) ?_
        clear HS
        repeat refine c_seq ?_
        refine c_region ?_
        refine l_op (o_val (r_mv) ?_)
        refine l_op (o_val (r_bin (a := (i : Int)) (b := 1) rfl rfl (fun _ => b_add (by omega) (by omega))) ?_)
        refine l_op (o_val (r_as) ?_)
        first | refine l_end ?_ | refine l_nil ?_
        rw [show List.replicate i (List.replicate 512 (0 : UInt8)) ++ [List.replicate 512 (0 : UInt8)] = List.replicate (i + 1) (List.replicate 512 (0 : UInt8)) from List.replicate_succ'.symm, show List.replicate i ([] : List UInt8) ++ [[]] = List.replicate (i + 1) ([] : List UInt8) from List.replicate_succ'.symm] at H
        refine round_end (i + 1, a151, c152, a153, c154) ?_ ?_ ?_
        · exact ⟨rfl, rfl, rfl, show VI ((i : Int) + 1) = VI ((i + 1 : Nat) : Int) from congrArg VI (by omega), trivial⟩
        · refine ⟨?_, ?_⟩
          · try dsimp only
            exact by omega
          · exact H.sub (.cons_cons _ (.cons_cons _ (.cons_cons _ (List.nil_sublist _))))
        · show n - (i + 1 : Nat) < n - i; omega
      ·
       refine (o_bslV ([.string ⟨(([] : List UInt8)).toArray⟩]) H sl49 zc9 rfl (by simp [Value.oneCell']) rfl (by decide) (fun b155 w H hb155 => ?_))
       replace H : Hp _ w _ ([_, _, _, .own (some b155) 1 1 (([([] : List UInt8)]).flatMap strD) 9 1]) := H
       refine ⟨H.sub (List.nil_sublist _), ?_⟩
       replace HS := H.sub (List.nil_sublist _)
       refine t_all [5, 7] (by kernel_rfl) (by simp) (all_cons (w_op 5 rfl ?_) (all_cons (w_op 7 rfl ?_) (all_nil)))
       ·
        refine (o_val (r_ld (v := .slice (hd a1) i c1) H (i := 0) rfl rfl ct49 rfl) ?_)
        refine ⟨H.sub (List.nil_sublist _), ?_⟩
        replace HS := H.sub (List.nil_sublist _)
        refine t_step 7 rfl (by kernel_rfl) (o_bslV ([.string ⟨(List.replicate 512 (0 : UInt8)).toArray⟩]) H sl49 zc9 rfl (by simp [Value.oneCell']) rfl (by decide) (fun b156 w H hb156 => ?_))
        replace H : Hp _ w _ ([_, _, _, _, .own (some b156) 1 1 (([List.replicate 512 (0 : UInt8)]).flatMap strD) 9 1]) := H
        refine ⟨H.sub (List.nil_sublist _), ?_⟩
        replace HS := H.sub (List.nil_sublist _)
        refine t_step 8 rfl (by kernel_rfl) (o_appG (enc := strD) (s := ⟨hd (some b156), 1, 1, [List.replicate 512 (0 : UInt8)]⟩) (l' := List.replicate i (List.replicate 512 (0 : UInt8)) ++ ([List.replicate 512 (0 : UInt8)])) (len' := i + 1) rfl rfl H (i := 1) rfl sl49 Try.underlying49 rfl rfl (H.glOwn (i := 4) rfl (by decide) (fun _ _ => rfl)) (by decide) (fun _ _ => rfl) (by omega) (by decide) (fun a157 c158 w H => ?_))
        replace H : Hp _ w _ ([_, .own a157 (i + 1) c158 ((List.replicate i (List.replicate 512 (0 : UInt8)) ++ ([List.replicate 512 (0 : UInt8)])).flatMap strD) 9 1, _, _, _]) := H
        refine ⟨H.sub (List.nil_sublist _), ?_⟩
        replace HS := H.sub (List.nil_sublist _)
        refine t_step 14 rfl (by kernel_rfl) (o_appG (enc := strD) (s := ⟨hd (some b155), 1, 1, [([] : List UInt8)]⟩) (l' := List.replicate i ([] : List UInt8) ++ ([([] : List UInt8)])) (len' := i + 1) rfl rfl H (i := 2) rfl sl49 Try.underlying49 rfl rfl (H.glOwn (i := 3) rfl (by decide) (fun _ _ => rfl)) (by decide) (fun _ _ => rfl) (by omega) (by decide) (fun a159 c160 w H => ?_))
        replace H : Hp _ w _ ([_, _, .own a159 (i + 1) c160 ((List.replicate i ([] : List UInt8) ++ ([([] : List UInt8)])).flatMap strD) 9 1, _, _]) := H
        refine ⟨H.sub (List.nil_sublist _), ?_⟩
        replace HS := H.sub (List.nil_sublist _)
        refine t_take 15 rfl (by kernel_rfl) (by kernel_rfl) (by kernel_rfl) (fun _ _ _ h => h) (fun w HS => r_nilc rfl) HS ?_
        refine t_take 16 rfl (by kernel_rfl) (by kernel_rfl) (by kernel_rfl) (fun _ _ _ h => h) (fun w HS => r_fa rfl fo106_0) HS ?_
        refine t_step 17 rfl (by kernel_rfl) (o_st (v := .slice (hd a157) (i + 1) c158) H (i := 0) rfl rfl rfl cs49 rfl (by simp only [List.length_cons, List.length_nil]; omega) (fun w H => ?_))
        replace H : Hp _ w _ ([.blk b3 ([.slice (hd a157) (i + 1) c158, .slice (hd a2) i c2, .bool false, VI (-1), VI 0, VI (-1), .string ⟨(([] : List UInt8)).toArray⟩, VI 0, VI 0]) 106, _, _, _, _]) := H
        refine ⟨H.sub (List.nil_sublist _), ?_⟩
        replace HS := H.sub (List.nil_sublist _)
        refine t_take 18 rfl (by kernel_rfl) (by kernel_rfl) (by kernel_rfl) (fun _ _ _ h => h) (fun w HS => r_nilc rfl) HS ?_
        refine t_take 19 rfl (by kernel_rfl) (by kernel_rfl) (by kernel_rfl) (fun _ _ _ h => h) (fun w HS => r_fa rfl fo106_1) HS ?_
        refine t_step 20 rfl (by kernel_rfl) (o_st (v := .slice (hd a159) (i + 1) c160) H (i := 0) rfl rfl rfl cs49 rfl (by simp only [List.length_cons, List.length_nil]; omega) (fun w H => ?_))
        replace H : Hp _ w _ ([.blk b3 ([.slice (hd a157) (i + 1) c158, .slice (hd a159) (i + 1) c160, .bool false, VI (-1), VI 0, VI (-1), .string ⟨(([] : List UInt8)).toArray⟩, VI 0, VI 0]) 106, _, _, _, _]) := H
        refine ⟨H.sub (List.nil_sublist _), ?_⟩
        replace HS := H.sub (List.nil_sublist _)
        refine t_done (by kernel_rfl) ?_
        clear HS
        repeat refine c_seq ?_
        refine c_region ?_
        refine l_op (o_val (r_mv) ?_)
        refine l_op (o_val (r_bin (a := (i : Int)) (b := 1) rfl rfl (fun _ => b_add (by omega) (by omega))) ?_)
        refine l_op (o_val (r_as) ?_)
        first | refine l_end ?_ | refine l_nil ?_
        rw [show List.replicate i (List.replicate 512 (0 : UInt8)) ++ [List.replicate 512 (0 : UInt8)] = List.replicate (i + 1) (List.replicate 512 (0 : UInt8)) from List.replicate_succ'.symm, show List.replicate i ([] : List UInt8) ++ [[]] = List.replicate (i + 1) ([] : List UInt8) from List.replicate_succ'.symm] at H
        refine round_end (i + 1, a157, c158, a159, c160) ?_ ?_ ?_
        · exact ⟨rfl, rfl, rfl, show VI ((i : Int) + 1) = VI ((i + 1 : Nat) : Int) from congrArg VI (by omega), trivial⟩
        · refine ⟨?_, ?_⟩
          · try dsimp only
            exact by omega
          · exact H.sub (.cons_cons _ (.cons_cons _ (.cons_cons _ (List.nil_sublist _))))
        · show n - (i + 1 : Nat) < n - i; omega
       ·
        refine (o_bslV ([.string ⟨(List.replicate 512 (0 : UInt8)).toArray⟩]) H sl49 zc9 rfl (by simp [Value.oneCell']) rfl (by decide) (fun b161 w H hb161 => ?_))
        replace H : Hp _ w _ ([_, _, _, _, .own (some b161) 1 1 (([List.replicate 512 (0 : UInt8)]).flatMap strD) 9 1]) := H
        refine ⟨H.sub (List.nil_sublist _), ?_⟩
        replace HS := H.sub (List.nil_sublist _)
        refine t_step 5 rfl (by kernel_rfl) (o_val (r_ld (v := .slice (hd a1) i c1) H (i := 0) rfl rfl ct49 rfl) ?_)
        refine ⟨H.sub (List.nil_sublist _), ?_⟩
        replace HS := H.sub (List.nil_sublist _)
        refine t_step 8 rfl (by kernel_rfl) (o_appG (enc := strD) (s := ⟨hd (some b161), 1, 1, [List.replicate 512 (0 : UInt8)]⟩) (l' := List.replicate i (List.replicate 512 (0 : UInt8)) ++ ([List.replicate 512 (0 : UInt8)])) (len' := i + 1) rfl rfl H (i := 1) rfl sl49 Try.underlying49 rfl rfl (H.glOwn (i := 4) rfl (by decide) (fun _ _ => rfl)) (by decide) (fun _ _ => rfl) (by omega) (by decide) (fun a162 c163 w H => ?_))
        replace H : Hp _ w _ ([_, .own a162 (i + 1) c163 ((List.replicate i (List.replicate 512 (0 : UInt8)) ++ ([List.replicate 512 (0 : UInt8)])).flatMap strD) 9 1, _, _, _]) := H
        refine ⟨H.sub (List.nil_sublist _), ?_⟩
        replace HS := H.sub (List.nil_sublist _)
        refine t_step 14 rfl (by kernel_rfl) (o_appG (enc := strD) (s := ⟨hd (some b155), 1, 1, [([] : List UInt8)]⟩) (l' := List.replicate i ([] : List UInt8) ++ ([([] : List UInt8)])) (len' := i + 1) rfl rfl H (i := 2) rfl sl49 Try.underlying49 rfl rfl (H.glOwn (i := 3) rfl (by decide) (fun _ _ => rfl)) (by decide) (fun _ _ => rfl) (by omega) (by decide) (fun a164 c165 w H => ?_))
        replace H : Hp _ w _ ([_, _, .own a164 (i + 1) c165 ((List.replicate i ([] : List UInt8) ++ ([([] : List UInt8)])).flatMap strD) 9 1, _, _]) := H
        refine ⟨H.sub (List.nil_sublist _), ?_⟩
        replace HS := H.sub (List.nil_sublist _)
        refine t_take 15 rfl (by kernel_rfl) (by kernel_rfl) (by kernel_rfl) (fun _ _ _ h => h) (fun w HS => r_nilc rfl) HS ?_
        refine t_take 16 rfl (by kernel_rfl) (by kernel_rfl) (by kernel_rfl) (fun _ _ _ h => h) (fun w HS => r_fa rfl fo106_0) HS ?_
        refine t_step 17 rfl (by kernel_rfl) (o_st (v := .slice (hd a162) (i + 1) c163) H (i := 0) rfl rfl rfl cs49 rfl (by simp only [List.length_cons, List.length_nil]; omega) (fun w H => ?_))
        replace H : Hp _ w _ ([.blk b3 ([.slice (hd a162) (i + 1) c163, .slice (hd a2) i c2, .bool false, VI (-1), VI 0, VI (-1), .string ⟨(([] : List UInt8)).toArray⟩, VI 0, VI 0]) 106, _, _, _, _]) := H
        refine ⟨H.sub (List.nil_sublist _), ?_⟩
        replace HS := H.sub (List.nil_sublist _)
        refine t_take 18 rfl (by kernel_rfl) (by kernel_rfl) (by kernel_rfl) (fun _ _ _ h => h) (fun w HS => r_nilc rfl) HS ?_
        refine t_take 19 rfl (by kernel_rfl) (by kernel_rfl) (by kernel_rfl) (fun _ _ _ h => h) (fun w HS => r_fa rfl fo106_1) HS ?_
        refine t_step 20 rfl (by kernel_rfl) (o_st (v := .slice (hd a164) (i + 1) c165) H (i := 0) rfl rfl rfl cs49 rfl (by simp only [List.length_cons, List.length_nil]; omega) (fun w H => ?_))
        replace H : Hp _ w _ ([.blk b3 ([.slice (hd a162) (i + 1) c163, .slice (hd a164) (i + 1) c165, .bool false, VI (-1), VI 0, VI (-1), .string ⟨(([] : List UInt8)).toArray⟩, VI 0, VI 0]) 106, _, _, _, _]) := H
        refine ⟨H.sub (List.nil_sublist _), ?_⟩
        replace HS := H.sub (List.nil_sublist _)
        refine t_done (by kernel_rfl) ?_
        clear HS
        repeat refine c_seq ?_
        refine c_region ?_
        refine l_op (o_val (r_mv) ?_)
        refine l_op (o_val (r_bin (a := (i : Int)) (b := 1) rfl rfl (fun _ => b_add (by omega) (by omega))) ?_)
        refine l_op (o_val (r_as) ?_)
        first | refine l_end ?_ | refine l_nil ?_
        rw [show List.replicate i (List.replicate 512 (0 : UInt8)) ++ [List.replicate 512 (0 : UInt8)] = List.replicate (i + 1) (List.replicate 512 (0 : UInt8)) from List.replicate_succ'.symm, show List.replicate i ([] : List UInt8) ++ [[]] = List.replicate (i + 1) ([] : List UInt8) from List.replicate_succ'.symm] at H
        refine round_end (i + 1, a162, c163, a164, c165) ?_ ?_ ?_
        · exact ⟨rfl, rfl, rfl, show VI ((i : Int) + 1) = VI ((i + 1 : Nat) : Int) from congrArg VI (by omega), trivial⟩
        · refine ⟨?_, ?_⟩
          · try dsimp only
            exact by omega
          · exact H.sub (.cons_cons _ (.cons_cons _ (.cons_cons _ (List.nil_sublist _))))
        · show n - (i + 1 : Nat) < n - i; omega
     ·
      refine (o_bslV ([.string ⟨(([] : List UInt8)).toArray⟩]) H sl49 zc9 rfl (by simp [Value.oneCell']) rfl (by decide) (fun b166 w H hb166 => ?_))
      replace H : Hp _ w _ ([_, _, _, .own (some b166) 1 1 (([([] : List UInt8)]).flatMap strD) 9 1]) := H
      refine ⟨H.sub (List.nil_sublist _), ?_⟩
      replace HS := H.sub (List.nil_sublist _)
      refine t_all [5, 7, 12] (by kernel_rfl) (by simp) (all_cons (w_op 5 rfl ?_) (all_cons (w_op 7 rfl ?_) (all_cons (w_op 12 rfl ?_) (all_nil))))
      ·
       refine (o_val (r_ld (v := .slice (hd a1) i c1) H (i := 0) rfl rfl ct49 rfl) ?_)
       refine ⟨H.sub (List.nil_sublist _), ?_⟩
       replace HS := H.sub (List.nil_sublist _)
       refine t_all [7, 12] (by kernel_rfl) (by simp) (all_cons (w_op 7 rfl ?_) (all_cons (w_op 12 rfl ?_) (all_nil)))
       ·
        refine (o_bslV ([.string ⟨(List.replicate 512 (0 : UInt8)).toArray⟩]) H sl49 zc9 rfl (by simp [Value.oneCell']) rfl (by decide) (fun b167 w H hb167 => ?_))
        replace H : Hp _ w _ ([_, _, _, _, .own (some b167) 1 1 (([List.replicate 512 (0 : UInt8)]).flatMap strD) 9 1]) := H
        refine ⟨H.sub (List.nil_sublist _), ?_⟩
        replace HS := H.sub (List.nil_sublist _)
        refine t_all [8, 12] (by kernel_rfl) (by simp) (all_cons (w_op 8 rfl ?_) (all_cons (w_op 12 rfl ?_) (all_nil)))
        ·
         refine (o_appG (enc := strD) (s := ⟨hd (some b167), 1, 1, [List.replicate 512 (0 : UInt8)]⟩) (l' := List.replicate i (List.replicate 512 (0 : UInt8)) ++ ([List.replicate 512 (0 : UInt8)])) (len' := i + 1) rfl rfl H (i := 1) rfl sl49 Try.underlying49 rfl rfl (H.glOwn (i := 4) rfl (by decide) (fun _ _ => rfl)) (by decide) (fun _ _ => rfl) (by omega) (by decide) (fun a168 c169 w H => ?_))
         replace H : Hp _ w _ ([_, .own a168 (i + 1) c169 ((List.replicate i (List.replicate 512 (0 : UInt8)) ++ ([List.replicate 512 (0 : UInt8)])).flatMap strD) 9 1, _, _, _]) := H
         refine ⟨H.sub (List.nil_sublist _), ?_⟩
         replace HS := H.sub (List.nil_sublist _)
         refine t_step 12 rfl (by kernel_rfl) (o_val (r_ld (v := .slice (hd a2) i c2) H (i := 0) rfl rfl ct49 rfl) ?_)
         refine ⟨H.sub (List.nil_sublist _), ?_⟩
         replace HS := H.sub (List.nil_sublist _)
         refine t_step 14 rfl (by kernel_rfl) (o_appG (enc := strD) (s := ⟨hd (some b166), 1, 1, [([] : List UInt8)]⟩) (l' := List.replicate i ([] : List UInt8) ++ ([([] : List UInt8)])) (len' := i + 1) rfl rfl H (i := 2) rfl sl49 Try.underlying49 rfl rfl (H.glOwn (i := 3) rfl (by decide) (fun _ _ => rfl)) (by decide) (fun _ _ => rfl) (by omega) (by decide) (fun a170 c171 w H => ?_))
         replace H : Hp _ w _ ([_, _, .own a170 (i + 1) c171 ((List.replicate i ([] : List UInt8) ++ ([([] : List UInt8)])).flatMap strD) 9 1, _, _]) := H
         refine ⟨H.sub (List.nil_sublist _), ?_⟩
         replace HS := H.sub (List.nil_sublist _)
         refine t_take 15 rfl (by kernel_rfl) (by kernel_rfl) (by kernel_rfl) (fun _ _ _ h => h) (fun w HS => r_nilc rfl) HS ?_
         refine t_take 16 rfl (by kernel_rfl) (by kernel_rfl) (by kernel_rfl) (fun _ _ _ h => h) (fun w HS => r_fa rfl fo106_0) HS ?_
         refine t_step 17 rfl (by kernel_rfl) (o_st (v := .slice (hd a168) (i + 1) c169) H (i := 0) rfl rfl rfl cs49 rfl (by simp only [List.length_cons, List.length_nil]; omega) (fun w H => ?_))
         replace H : Hp _ w _ ([.blk b3 ([.slice (hd a168) (i + 1) c169, .slice (hd a2) i c2, .bool false, VI (-1), VI 0, VI (-1), .string ⟨(([] : List UInt8)).toArray⟩, VI 0, VI 0]) 106, _, _, _, _]) := H
         refine ⟨H.sub (List.nil_sublist _), ?_⟩
         replace HS := H.sub (List.nil_sublist _)
         refine t_take 18 rfl (by kernel_rfl) (by kernel_rfl) (by kernel_rfl) (fun _ _ _ h => h) (fun w HS => r_nilc rfl) HS ?_
         refine t_take 19 rfl (by kernel_rfl) (by kernel_rfl) (by kernel_rfl) (fun _ _ _ h => h) (fun w HS => r_fa rfl fo106_1) HS ?_
         refine t_step 20 rfl (by kernel_rfl) (o_st (v := .slice (hd a170) (i + 1) c171) H (i := 0) rfl rfl rfl cs49 rfl (by simp only [List.length_cons, List.length_nil]; omega) (fun w H => ?_))
         replace H : Hp _ w _ ([.blk b3 ([.slice (hd a168) (i + 1) c169, .slice (hd a170) (i + 1) c171, .bool false, VI (-1), VI 0, VI (-1), .string ⟨(([] : List UInt8)).toArray⟩, VI 0, VI 0]) 106, _, _, _, _]) := H
         refine ⟨H.sub (List.nil_sublist _), ?_⟩
         replace HS := H.sub (List.nil_sublist _)
         refine t_done (by kernel_rfl) ?_
         clear HS
         repeat refine c_seq ?_
         refine c_region ?_
         refine l_op (o_val (r_mv) ?_)
         refine l_op (o_val (r_bin (a := (i : Int)) (b := 1) rfl rfl (fun _ => b_add (by omega) (by omega))) ?_)
         refine l_op (o_val (r_as) ?_)
         first | refine l_end ?_ | refine l_nil ?_
         rw [show List.replicate i (List.replicate 512 (0 : UInt8)) ++ [List.replicate 512 (0 : UInt8)] = List.replicate (i + 1) (List.replicate 512 (0 : UInt8)) from List.replicate_succ'.symm, show List.replicate i ([] : List UInt8) ++ [[]] = List.replicate (i + 1) ([] : List UInt8) from List.replicate_succ'.symm] at H
         refine round_end (i + 1, a168, c169, a170, c171) ?_ ?_ ?_
         · exact ⟨rfl, rfl, rfl, show VI ((i : Int) + 1) = VI ((i + 1 : Nat) : Int) from congrArg VI (by omega), trivial⟩
         · refine ⟨?_, ?_⟩
           · try dsimp only
             exact by omega
           · exact H.sub (.cons_cons _ (.cons_cons _ (.cons_cons _ (List.nil_sublist _))))
         · show n - (i + 1 : Nat) < n - i; omega
        ·
         refine (o_val (r_ld (v := .slice (hd a2) i c2) H (i := 0) rfl rfl ct49 rfl) ?_)
         refine ⟨H.sub (List.nil_sublist _), ?_⟩
         replace HS := H.sub (List.nil_sublist _)
         refine t_step 8 rfl (by kernel_rfl) (o_appG (enc := strD) (s := ⟨hd (some b167), 1, 1, [List.replicate 512 (0 : UInt8)]⟩) (l' := List.replicate i (List.replicate 512 (0 : UInt8)) ++ ([List.replicate 512 (0 : UInt8)])) (len' := i + 1) rfl rfl H (i := 1) rfl sl49 Try.underlying49 rfl rfl (H.glOwn (i := 4) rfl (by decide) (fun _ _ => rfl)) (by decide) (fun _ _ => rfl) (by omega) (by decide) (fun a172 c173 w H => ?_))
         replace H : Hp _ w _ ([_, .own a172 (i + 1) c173 ((List.replicate i (List.replicate 512 (0 : UInt8)) ++ ([List.replicate 512 (0 : UInt8)])).flatMap strD) 9 1, _, _, _]) := H
         refine ⟨H.sub (List.nil_sublist _), ?_⟩
         replace HS := H.sub (List.nil_sublist _)
         refine t_step 14 rfl (by kernel_rfl) (o_appG (enc := strD) (s := ⟨hd (some b166), 1, 1, [([] : List UInt8)]⟩) (l' := List.replicate i ([] : List UInt8) ++ ([([] : List UInt8)])) (len' := i + 1) rfl rfl H (i := 2) rfl sl49 Try.underlying49 rfl rfl (H.glOwn (i := 3) rfl (by decide) (fun _ _ => rfl)) (by decide) (fun _ _ => rfl) (by omega) (by decide) (fun a174 c175 w H => ?_))
         replace H : Hp _ w _ ([_, _, .own a174 (i + 1) c175 ((List.replicate i ([] : List UInt8) ++ ([([] : List UInt8)])).flatMap strD) 9 1, _, _]) := H
         refine ⟨H.sub (List.nil_sublist _), ?_⟩
         replace HS := H.sub (List.nil_sublist _)
         refine t_take 15 rfl (by kernel_rfl) (by kernel_rfl) (by kernel_rfl) (fun _ _ _ h => h) (fun w HS => r_nilc rfl) HS ?_
         refine t_take 16 rfl (by kernel_rfl) (by kernel_rfl) (by kernel_rfl) (fun _ _ _ h => h) (fun w HS => r_fa rfl fo106_0) HS ?_
         refine t_step 17 rfl (by kernel_rfl) (o_st (v := .slice (hd a172) (i + 1) c173) H (i := 0) rfl rfl rfl cs49 rfl (by simp only [List.length_cons, List.length_nil]; omega) (fun w H => ?_))
         replace H : Hp _ w _ ([.blk b3 ([.slice (hd a172) (i + 1) c173, .slice (hd a2) i c2, .bool false, VI (-1), VI 0, VI (-1), .string ⟨(([] : List UInt8)).toArray⟩, VI 0, VI 0]) 106, _, _, _, _]) := H
         refine ⟨H.sub (List.nil_sublist _), ?_⟩
         replace HS := H.sub (List.nil_sublist _)
         refine t_take 18 rfl (by kernel_rfl) (by kernel_rfl) (by kernel_rfl) (fun _ _ _ h => h) (fun w HS => r_nilc rfl) HS ?_
         refine t_take 19 rfl (by kernel_rfl) (by kernel_rfl) (by kernel_rfl) (fun _ _ _ h => h) (fun w HS => r_fa rfl fo106_1) HS ?_
         refine t_step 20 rfl (by kernel_rfl) (o_st (v := .slice (hd a174) (i + 1) c175) H (i := 0) rfl rfl rfl cs49 rfl (by simp only [List.length_cons, List.length_nil]; omega) (fun w H => ?_))
         replace H : Hp _ w _ ([.blk b3 ([.slice (hd a172) (i + 1) c173, .slice (hd a174) (i + 1) c175, .bool false, VI (-1), VI 0, VI (-1), .string ⟨(([] : List UInt8)).toArray⟩, VI 0, VI 0]) 106, _, _, _, _]) := H
         refine ⟨H.sub (List.nil_sublist _), ?_⟩
         replace HS := H.sub (List.nil_sublist _)
         refine t_done (by kernel_rfl) ?_
         clear HS
         repeat refine c_seq ?_
         refine c_region ?_
         refine l_op (o_val (r_mv) ?_)
         refine l_op (o_val (r_bin (a := (i : Int)) (b := 1) rfl rfl (fun _ => b_add (by omega) (by omega))) ?_)
         refine l_op (o_val (r_as) ?_)
         first | refine l_end ?_ | refine l_nil ?_
         rw [show List.replicate i (List.replicate 512 (0 : UInt8)) ++ [List.replicate 512 (0 : UInt8)] = List.replicate (i + 1) (List.replicate 512 (0 : UInt8)) from List.replicate_succ'.symm, show List.replicate i ([] : List UInt8) ++ [[]] = List.replicate (i + 1) ([] : List UInt8) from List.replicate_succ'.symm] at H
         refine round_end (i + 1, a172, c173, a174, c175) ?_ ?_ ?_
         · exact ⟨rfl, rfl, rfl, show VI ((i : Int) + 1) = VI ((i + 1 : Nat) : Int) from congrArg VI (by omega), trivial⟩
         · refine ⟨?_, ?_⟩
           · try dsimp only
             exact by omega
           · exact H.sub (.cons_cons _ (.cons_cons _ (.cons_cons _ (List.nil_sublist _))))
         · show n - (i + 1 : Nat) < n - i; omega
       ·
        refine (o_val (r_ld (v := .slice (hd a2) i c2) H (i := 0) rfl rfl ct49 rfl) ?_)
        refine ⟨H.sub (List.nil_sublist _), ?_⟩
        replace HS := H.sub (List.nil_sublist _)
        refine t_step 7 rfl (by kernel_rfl) (o_bslV ([.string ⟨(List.replicate 512 (0 : UInt8)).toArray⟩]) H sl49 zc9 rfl (by simp [Value.oneCell']) rfl (by decide) (fun b176 w H hb176 => ?_))
        replace H : Hp _ w _ ([_, _, _, _, .own (some b176) 1 1 (([List.replicate 512 (0 : UInt8)]).flatMap strD) 9 1]) := H
        refine ⟨H.sub (List.nil_sublist _), ?_⟩
        replace HS := H.sub (List.nil_sublist _)
        refine t_step 8 rfl (by kernel_rfl) (o_appG (enc := strD) (s := ⟨hd (some b176), 1, 1, [List.replicate 512 (0 : UInt8)]⟩) (l' := List.replicate i (List.replicate 512 (0 : UInt8)) ++ ([List.replicate 512 (0 : UInt8)])) (len' := i + 1) rfl rfl H (i := 1) rfl sl49 Try.underlying49 rfl rfl (H.glOwn (i := 4) rfl (by decide) (fun _ _ => rfl)) (by decide) (fun _ _ => rfl) (by omega) (by decide) (fun a177 c178 w H => ?_))
        replace H : Hp _ w _ ([_, .own a177 (i + 1) c178 ((List.replicate i (List.replicate 512 (0 : UInt8)) ++ ([List.replicate 512 (0 : UInt8)])).flatMap strD) 9 1, _, _, _]) := H
        refine ⟨H.sub (List.nil_sublist _), ?_⟩
        replace HS := H.sub (List.nil_sublist _)
        refine t_step 14 rfl (by kernel_rfl) (o_appG (enc := strD) (s := ⟨hd (some b166), 1, 1, [([] : List UInt8)]⟩) (l' := List.replicate i ([] : List UInt8) ++ ([([] : List UInt8)])) (len' := i + 1) rfl rfl H (i := 2) rfl sl49 Try.underlying49 rfl rfl (H.glOwn (i := 3) rfl (by decide) (fun _ _ => rfl)) (by decide) (fun _ _ => rfl) (by omega) (by decide) (fun a179 c180 w H => ?_))
        replace H : Hp _ w _ ([_, _, .own a179 (i + 1) c180 ((List.replicate i ([] : List UInt8) ++ ([([] : List UInt8)])).flatMap strD) 9 1, _, _]) := H
        refine ⟨H.sub (List.nil_sublist _), ?_⟩
        replace HS := H.sub (List.nil_sublist _)
        refine t_take 15 rfl (by kernel_rfl) (by kernel_rfl) (by kernel_rfl) (fun _ _ _ h => h) (fun w HS => r_nilc rfl) HS ?_
        refine t_take 16 rfl (by kernel_rfl) (by kernel_rfl) (by kernel_rfl) (fun _ _ _ h => h) (fun w HS => r_fa rfl fo106_0) HS ?_
        refine t_step 17 rfl (by kernel_rfl) (o_st (v := .slice (hd a177) (i + 1) c178) H (i := 0) rfl rfl rfl cs49 rfl (by simp only [List.length_cons, List.length_nil]; omega) (fun w H => ?_))
        replace H : Hp _ w _ ([.blk b3 ([.slice (hd a177) (i + 1) c178, .slice (hd a2) i c2, .bool false, VI (-1), VI 0, VI (-1), .string ⟨(([] : List UInt8)).toArray⟩, VI 0, VI 0]) 106, _, _, _, _]) := H
        refine ⟨H.sub (List.nil_sublist _), ?_⟩
        replace HS := H.sub (List.nil_sublist _)
        refine t_take 18 rfl (by kernel_rfl) (by kernel_rfl) (by kernel_rfl) (fun _ _ _ h => h) (fun w HS => r_nilc rfl) HS ?_
        refine t_take 19 rfl (by kernel_rfl) (by kernel_rfl) (by kernel_rfl) (fun _ _ _ h => h) (fun w HS => r_fa rfl fo106_1) HS ?_
        refine t_step 20 rfl (by kernel_rfl) (o_st (v := .slice (hd a179) (i + 1) c180) H (i := 0) rfl rfl rfl cs49 rfl (by simp only [List.length_cons, List.length_nil]; omega) (fun w H => ?_))
        replace H : Hp _ w _ ([.blk b3 ([.slice (hd a177) (i + 1) c178, .slice (hd a179) (i + 1) c180, .bool false, VI (-1), VI 0, VI (-1), .string ⟨(([] : List UInt8)).toArray⟩, VI 0, VI 0]) 106, _, _, _, _]) := H
        refine ⟨H.sub (List.nil_sublist _), ?_⟩
        replace HS := H.sub (List.nil_sublist _)
        refine t_done (by kernel_rfl) ?_
        clear HS
        repeat refine c_seq ?_
        refine c_region ?_
        refine l_op (o_val (r_mv) ?_)
        refine l_op (o_val (r_bin (a := (i : Int)) (b := 1) rfl rfl (fun _ => b_add (by omega) (by omega))) ?_)
        refine l_op (o_val (r_as) ?_)
        first | refine l_end ?_ | refine l_nil ?_
        rw [show List.replicate i (List.replicate 512 (0 : UInt8)) ++ [List.replicate 512 (0 : UInt8)] = List.replicate (i + 1) (List.replicate 512 (0 : UInt8)) from List.replicate_succ'.symm, show List.replicate i ([] : List UInt8) ++ [[]] = List.replicate (i + 1) ([] : List UInt8) from List.replicate_succ'.symm] at H
        refine round_end (i + 1, a177, c178, a179, c180) ?_ ?_ ?_
        · exact ⟨rfl, rfl, rfl, show VI ((i : Int) + 1) = VI ((i + 1 : Nat) : Int) from congrArg VI (by omega), trivial⟩
        · refine ⟨?_, ?_⟩
          · try dsimp only
            exact by omega
          · exact H.sub (.cons_cons _ (.cons_cons _ (.cons_cons _ (List.nil_sublist _))))
        · show n - (i + 1 : Nat) < n - i; omega
      ·
       refine (o_bslV ([.string ⟨(List.replicate 512 (0 : UInt8)).toArray⟩]) H sl49 zc9 rfl (by simp [Value.oneCell']) rfl (by decide) (fun b181 w H hb181 => ?_))
       replace H : Hp _ w _ ([_, _, _, _, .own (some b181) 1 1 (([List.replicate 512 (0 : UInt8)]).flatMap strD) 9 1]) := H
       refine ⟨H.sub (List.nil_sublist _), ?_⟩
       replace HS := H.sub (List.nil_sublist _)
       refine t_all [5, 12] (by kernel_rfl) (by simp) (all_cons (w_op 5 rfl ?_) (all_cons (w_op 12 rfl ?_) (all_nil)))
       ·
        refine (o_val (r_ld (v := .slice (hd a1) i c1) H (i := 0) rfl rfl ct49 rfl) ?_)
        refine ⟨H.sub (List.nil_sublist _), ?_⟩
        replace HS := H.sub (List.nil_sublist _)
        refine t_all [8, 12] (by kernel_rfl) (by simp) (all_cons (w_op 8 rfl ?_) (all_cons (w_op 12 rfl ?_) (all_nil)))
        ·
         refine (o_appG (enc := strD) (s := ⟨hd (some b181), 1, 1, [List.replicate 512 (0 : UInt8)]⟩) (l' := List.replicate i (List.replicate 512 (0 : UInt8)) ++ ([List.replicate 512 (0 : UInt8)])) (len' := i + 1) rfl rfl H (i := 1) rfl sl49 Try.underlying49 rfl rfl (H.glOwn (i := 4) rfl (by decide) (fun _ _ => rfl)) (by decide) (fun _ _ => rfl) (by omega) (by decide) (fun a182 c183 w H => ?_))
         replace H : Hp _ w _ ([_, .own a182 (i + 1) c183 ((List.replicate i (List.replicate 512 (0 : UInt8)) ++ ([List.replicate 512 (0 : UInt8)])).flatMap strD) 9 1, _, _, _]) := H
         refine ⟨H.sub (List.nil_sublist _), ?_⟩
         replace HS := H.sub (List.nil_sublist _)
         refine t_step 12 rfl (by kernel_rfl) (o_val (r_ld (v := .slice (hd a2) i c2) H (i := 0) rfl rfl ct49 rfl) ?_)
         refine ⟨H.sub (List.nil_sublist _), ?_⟩
         replace HS := H.sub (List.nil_sublist _)
         refine t_step 14 rfl (by kernel_rfl) (o_appG (enc := strD) (s := ⟨hd (some b166), 1, 1, [([] : List UInt8)]⟩) (l' := List.replicate i ([] : List UInt8) ++ ([([] : List UInt8)])) (len' := i + 1) rfl rfl H (i := 2) rfl sl49 Try.underlying49 rfl rfl (H.glOwn (i := 3) rfl (by decide) (fun _ _ => rfl)) (by decide) (fun _ _ => rfl) (by omega) (by decide) (fun a184 c185 w H => ?_))
         replace H : Hp _ w _ ([_, _, .own a184 (i + 1) c185 ((List.replicate i ([] : List UInt8) ++ ([([] : List UInt8)])).flatMap strD) 9 1, _, _]) := H
         refine ⟨H.sub (List.nil_sublist _), ?_⟩
         replace HS := H.sub (List.nil_sublist _)
         refine t_take 15 rfl (by kernel_rfl) (by kernel_rfl) (by kernel_rfl) (fun _ _ _ h => h) (fun w HS => r_nilc rfl) HS ?_
         refine t_take 16 rfl (by kernel_rfl) (by kernel_rfl) (by kernel_rfl) (fun _ _ _ h => h) (fun w HS => r_fa rfl fo106_0) HS ?_
         refine t_step 17 rfl (by kernel_rfl) (o_st (v := .slice (hd a182) (i + 1) c183) H (i := 0) rfl rfl rfl cs49 rfl (by simp only [List.length_cons, List.length_nil]; omega) (fun w H => ?_))
         replace H : Hp _ w _ ([.blk b3 ([.slice (hd a182) (i + 1) c183, .slice (hd a2) i c2, .bool false, VI (-1), VI 0, VI (-1), .string ⟨(([] : List UInt8)).toArray⟩, VI 0, VI 0]) 106, _, _, _, _]) := H
         refine ⟨H.sub (List.nil_sublist _), ?_⟩
         replace HS := H.sub (List.nil_sublist _)
         refine t_take 18 rfl (by kernel_rfl) (by kernel_rfl) (by kernel_rfl) (fun _ _ _ h => h) (fun w HS => r_nilc rfl) HS ?_
         refine t_take 19 rfl (by kernel_rfl) (by kernel_rfl) (by kernel_rfl) (fun _ _ _ h => h) (fun w HS => r_fa rfl fo106_1) HS ?_
         refine t_step 20 rfl (by kernel_rfl) (o_st (v := .slice (hd a184) (i + 1) c185) H (i := 0) rfl rfl rfl cs49 rfl (by simp only [List.length_cons, List.length_nil]; omega) (fun w H => ?_))
         replace H : Hp _ w _ ([.blk b3 ([.slice (hd a182) (i + 1) c183, .slice (hd a184) (i + 1) c185, .bool false, VI (-1), VI 0, VI (-1), .string ⟨(([] : List UInt8)).toArray⟩, VI 0, VI 0]) 106, _, _, _, _]) := H
         refine ⟨H.sub (List.nil_sublist _), ?_⟩
         replace HS := H.sub (List.nil_sublist _)
         refine t_done (by kernel_rfl) ?_
         clear HS
         repeat refine c_seq ?_
         refine c_region ?_
         refine l_op (o_val (r_mv) ?_)
         refine l_op (o_val (r_bin (a := (i : Int)) (b := 1) rfl rfl (fun _ => b_add (by omega) (by omega))) ?_)
         refine l_op (o_val (r_as) ?_)
         first | refine l_end ?_ | refine l_nil ?_
         rw [show List.replicate i (List.replicate 512 (0 : UInt8)) ++ [List.replicate 512 (0 : UInt8)] = List.replicate (i + 1) (List.replicate 512 (0 : UInt8)) from List.replicate_succ'.symm, show List.replicate i ([] : List UInt8) ++ [[]] = List.replicate (i + 1) ([] : List UInt8) from List.replicate_succ'.symm] at H
         refine round_end (i + 1, a182, c183, a184, c185) ?_ ?_ ?_
         · exact ⟨rfl, rfl, rfl, show VI ((i : Int) + 1) = VI ((i + 1 : Nat) : Int) from congrArg VI (by omega), trivial⟩
         · refine ⟨?_, ?_⟩
           · try dsimp only
             exact by omega
           · exact H.sub (.cons_cons _ (.cons_cons _ (.cons_cons _ (List.nil_sublist _))))
         · show n - (i + 1 : Nat) < n - i; omega
        ·
         refine (o_val (r_ld (v := .slice (hd a2) i c2) H (i := 0) rfl rfl ct49 rfl) ?_)
         refine ⟨H.sub (List.nil_sublist _), ?_⟩
         replace HS := H.sub (List.nil_sublist _)
         refine t_step 8 rfl (by kernel_rfl) (o_appG (enc := strD) (s := ⟨hd (some b181), 1, 1, [List.replicate 512 (0 : UInt8)]⟩) (l' := List.replicate i (List.replicate 512 (0 : UInt8)) ++ ([List.replicate 512 (0 : UInt8)])) (len' := i + 1) rfl rfl H (i := 1) rfl sl49 Try.underlying49 rfl rfl (H.glOwn (i := 4) rfl (by decide) (fun _ _ => rfl)) (by decide) (fun _ _ => rfl) (by omega) (by decide) (fun a186 c187 w H => ?_))
         replace H : Hp _ w _ ([_, .own a186 (i + 1) c187 ((List.replicate i (List.replicate 512 (0 : UInt8)) ++ ([List.replicate 512 (0 : UInt8)])).flatMap strD) 9 1, _, _, _]) := H
         refine ⟨H.sub (List.nil_sublist _), ?_⟩
         replace HS := H.sub (List.nil_sublist _)
         refine t_step 14 rfl (by kernel_rfl) (o_appG (enc := strD) (s := ⟨hd (some b166), 1, 1, [([] : List UInt8)]⟩) (l' := List.replicate i ([] : List UInt8) ++ ([([] : List UInt8)])) (len' := i + 1) rfl rfl H (i := 2) rfl sl49 Try.underlying49 rfl rfl (H.glOwn (i := 3) rfl (by decide) (fun _ _ => rfl)) (by decide) (fun _ _ => rfl) (by omega) (by decide) (fun a188 c189 w H => ?_))
         replace H : Hp _ w _ ([_, _, .own a188 (i + 1) c189 ((List.replicate i ([] : List UInt8) ++ ([([] : List UInt8)])).flatMap strD) 9 1, _, _]) := H
         refine ⟨H.sub (List.nil_sublist _), ?_⟩
         replace HS := H.sub (List.nil_sublist _)
         refine t_take 15 rfl (by kernel_rfl) (by kernel_rfl) (by kernel_rfl) (fun _ _ _ h => h) (fun w HS => r_nilc rfl) HS ?_
         refine t_take 16 rfl (by kernel_rfl) (by kernel_rfl) (by kernel_rfl) (fun _ _ _ h => h) (fun w HS => r_fa rfl fo106_0) HS ?_
         refine t_step 17 rfl (by kernel_rfl) (o_st (v := .slice (hd a186) (i + 1) c187) H (i := 0) rfl rfl rfl cs49 rfl (by simp only [List.length_cons, List.length_nil]; omega) (fun w H => ?_))
         replace H : Hp _ w _ ([.blk b3 ([.slice (hd a186) (i + 1) c187, .slice (hd a2) i c2, .bool false, VI (-1), VI 0, VI (-1), .string ⟨(([] : List UInt8)).toArray⟩, VI 0, VI 0]) 106, _, _, _, _]) := H
         refine ⟨H.sub (List.nil_sublist _), ?_⟩
         replace HS := H.sub (List.nil_sublist _)
         refine t_take 18 rfl (by kernel_rfl) (by kernel_rfl) (by kernel_rfl) (fun _ _ _ h => h) (fun w HS => r_nilc rfl) HS ?_
         refine t_take 19 rfl (by kernel_rfl) (by kernel_rfl) (by kernel_rfl) (fun _ _ _ h => h) (fun w HS => r_fa rfl fo106_1) HS ?_
         refine t_step 20 rfl (by kernel_rfl) (o_st (v := .slice (hd a188) (i + 1) c189) H (i := 0) rfl rfl rfl cs49 rfl (by simp only [List.length_cons, List.length_nil]; omega) (fun w H => ?_))
         replace H : Hp _ w _ ([.blk b3 ([.slice (hd a186) (i + 1) c187, .slice (hd a188) (i + 1) c189, .bool false, VI (-1), VI 0, VI (-1), .string ⟨(([] : List UInt8)).toArray⟩, VI 0, VI 0]) 106, _, _, _, _]) := H
         refine ⟨H.sub (List.nil_sublist _), ?_⟩
         replace HS := H.sub (List.nil_sublist _)
         refine t_done (by kernel_rfl) ?_
         clear HS
         repeat refine c_seq ?_
         refine c_region ?_
         refine l_op (o_val (r_mv) ?_)
         refine l_op (o_val (r_bin (a := (i : Int)) (b := 1) rfl rfl (fun _ => b_add (by omega) (by omega))) ?_)
         refine l_op (o_val (r_as) ?_)
         first | refine l_end ?_ | refine l_nil ?_
         rw [show List.replicate i (List.replicate 512 (0 : UInt8)) ++ [List.replicate 512 (0 : UInt8)] = List.replicate (i + 1) (List.replicate 512 (0 : UInt8)) from List.replicate_succ'.symm, show List.replicate i ([] : List UInt8) ++ [[]] = List.replicate (i + 1) ([] : List UInt8) from List.replicate_succ'.symm] at H
         refine round_end (i + 1, a186, c187, a188, c189) ?_ ?_ ?_
         · exact ⟨rfl, rfl, rfl, show VI ((i : Int) + 1) = VI ((i + 1 : Nat) : Int) from congrArg VI (by omega), trivial⟩
         · refine ⟨?_, ?_⟩
           · try dsimp only
             exact by omega
           · exact H.sub (.cons_cons _ (.cons_cons _ (.cons_cons _ (List.nil_sublist _))))
         · show n - (i + 1 : Nat) < n - i; omega
       ·
        refine (o_val (r_ld (v := .slice (hd a2) i c2) H (i := 0) rfl rfl ct49 rfl) ?_)
        refine ⟨H.sub (List.nil_sublist _), ?_⟩
        replace HS := H.sub (List.nil_sublist _)
        refine t_step 5 rfl (by kernel_rfl) (o_val (r_ld (v := .slice (hd a1) i c1) H (i := 0) rfl rfl ct49 rfl) ?_)
        refine ⟨H.sub (List.nil_sublist _), ?_⟩
        replace HS := H.sub (List.nil_sublist _)
        refine t_step 8 rfl (by kernel_rfl) (o_appG (enc := strD) (s := ⟨hd (some b181), 1, 1, [List.replicate 512 (0 : UInt8)]⟩) (l' := List.replicate i (List.replicate 512 (0 : UInt8)) ++ ([List.replicate 512 (0 : UInt8)])) (len' := i + 1) rfl rfl H (i := 1) rfl sl49 Try.underlying49 rfl rfl (H.glOwn (i := 4) rfl (by decide) (fun _ _ => rfl)) (by decide) (fun _ _ => rfl) (by omega) (by decide) (fun a190 c191 w H => ?_))
        replace H : Hp _ w _ ([_, .own a190 (i + 1) c191 ((List.replicate i (List.replicate 512 (0 : UInt8)) ++ ([List.replicate 512 (0 : UInt8)])).flatMap strD) 9 1, _, _, _]) := H
        refine ⟨H.sub (List.nil_sublist _), ?_⟩
        replace HS := H.sub (List.nil_sublist _)
        refine t_step 14 rfl (by kernel_rfl) (o_appG (enc := strD) (s := ⟨hd (some b166), 1, 1, [([] : List UInt8)]⟩) (l' := List.replicate i ([] : List UInt8) ++ ([([] : List UInt8)])) (len' := i + 1) rfl rfl H (i := 2) rfl sl49 Try.underlying49 rfl rfl (H.glOwn (i := 3) rfl (by decide) (fun _ _ => rfl)) (by decide) (fun _ _ => rfl) (by omega) (by decide) (fun a192 c193 w H => ?_))
        replace H : Hp _ w _ ([_, _, .own a192 (i + 1) c193 ((List.replicate i ([] : List UInt8) ++ ([([] : List UInt8)])).flatMap strD) 9 1, _, _]) := H
        refine ⟨H.sub (List.nil_sublist _), ?_⟩
        replace HS := H.sub (List.nil_sublist _)
        refine t_take 15 rfl (by kernel_rfl) (by kernel_rfl) (by kernel_rfl) (fun _ _ _ h => h) (fun w HS => r_nilc rfl) HS ?_
        refine t_take 16 rfl (by kernel_rfl) (by kernel_rfl) (by kernel_rfl) (fun _ _ _ h => h) (fun w HS => r_fa rfl fo106_0) HS ?_
        refine t_step 17 rfl (by kernel_rfl) (o_st (v := .slice (hd a190) (i + 1) c191) H (i := 0) rfl rfl rfl cs49 rfl (by simp only [List.length_cons, List.length_nil]; omega) (fun w H => ?_))
        replace H : Hp _ w _ ([.blk b3 ([.slice (hd a190) (i + 1) c191, .slice (hd a2) i c2, .bool false, VI (-1), VI 0, VI (-1), .string ⟨(([] : List UInt8)).toArray⟩, VI 0, VI 0]) 106, _, _, _, _]) := H
        refine ⟨H.sub (List.nil_sublist _), ?_⟩
        replace HS := H.sub (List.nil_sublist _)
        refine t_take 18 rfl (by kernel_rfl) (by kernel_rfl) (by kernel_rfl) (fun _ _ _ h => h) (fun w HS => r_nilc rfl) HS ?_
        refine t_take 19 rfl (by kernel_rfl) (by kernel_rfl) (by kernel_rfl) (fun _ _ _ h => h) (fun w HS => r_fa rfl fo106_1) HS ?_
        refine t_step 20 rfl (by kernel_rfl) (o_st (v := .slice (hd a192) (i + 1) c193) H (i := 0) rfl rfl rfl cs49 rfl (by simp only [List.length_cons, List.length_nil]; omega) (fun w H => ?_))
        replace H : Hp _ w _ ([.blk b3 ([.slice (hd a190) (i + 1) c191, .slice (hd a192) (i + 1) c193, .bool false, VI (-1), VI 0, VI (-1), .string ⟨(([] : List UInt8)).toArray⟩, VI 0, VI 0]) 106, _, _, _, _]) := H
        refine ⟨H.sub (List.nil_sublist _), ?_⟩
        replace HS := H.sub (List.nil_sublist _)
        refine t_done (by kernel_rfl) ?_
        clear HS
        repeat refine c_seq ?_
        refine c_region ?_
        refine l_op (o_val (r_mv) ?_)
        refine l_op (o_val (r_bin (a := (i : Int)) (b := 1) rfl rfl (fun _ => b_add (by omega) (by omega))) ?_)
        refine l_op (o_val (r_as) ?_)
        first | refine l_end ?_ | refine l_nil ?_
        rw [show List.replicate i (List.replicate 512 (0 : UInt8)) ++ [List.replicate 512 (0 : UInt8)] = List.replicate (i + 1) (List.replicate 512 (0 : UInt8)) from List.replicate_succ'.symm, show List.replicate i ([] : List UInt8) ++ [[]] = List.replicate (i + 1) ([] : List UInt8) from List.replicate_succ'.symm] at H
        refine round_end (i + 1, a190, c191, a192, c193) ?_ ?_ ?_
        · exact ⟨rfl, rfl, rfl, show VI ((i : Int) + 1) = VI ((i + 1 : Nat) : Int) from congrArg VI (by omega), trivial⟩
        · refine ⟨?_, ?_⟩
          · try dsimp only
            exact by omega
          · exact H.sub (.cons_cons _ (.cons_cons _ (.cons_cons _ (List.nil_sublist _))))
        · show n - (i + 1 : Nat) < n - i; omega
      ·
       refine (o_val (r_ld (v := .slice (hd a2) i c2) H (i := 0) rfl rfl ct49 rfl) ?_)
       refine ⟨H.sub (List.nil_sublist _), ?_⟩
       replace HS := H.sub (List.nil_sublist _)
       refine t_all [5, 7] (by kernel_rfl) (by simp) (all_cons (w_op 5 rfl ?_) (all_cons (w_op 7 rfl ?_) (all_nil)))
       ·
        refine (o_val (r_ld (v := .slice (hd a1) i c1) H (i := 0) rfl rfl ct49 rfl) ?_)
        refine ⟨H.sub (List.nil_sublist _), ?_⟩
        replace HS := H.sub (List.nil_sublist _)
        refine t_step 7 rfl (by kernel_rfl) (o_bslV ([.string ⟨(List.replicate 512 (0 : UInt8)).toArray⟩]) H sl49 zc9 rfl (by simp [Value.oneCell']) rfl (by decide) (fun b194 w H hb194 => ?_))
        replace H : Hp _ w _ ([_, _, _, _, .own (some b194) 1 1 (([List.replicate 512 (0 : UInt8)]).flatMap strD) 9 1]) := H
        refine ⟨H.sub (List.nil_sublist _), ?_⟩
        replace HS := H.sub (List.nil_sublist _)
        refine t_step 8 rfl (by kernel_rfl) (o_appG (enc := strD) (s := ⟨hd (some b194), 1, 1, [List.replicate 512 (0 : UInt8)]⟩) (l' := List.replicate i (List.replicate 512 (0 : UInt8)) ++ ([List.replicate 512 (0 : UInt8)])) (len' := i + 1) rfl rfl H (i := 1) rfl sl49 Try.underlying49 rfl rfl (H.glOwn (i := 4) rfl (by decide) (fun _ _ => rfl)) (by decide) (fun _ _ => rfl) (by omega) (by decide) (fun a195 c196 w H => ?_))
        replace H : Hp _ w _ ([_, .own a195 (i + 1) c196 ((List.replicate i (List.replicate 512 (0 : UInt8)) ++ ([List.replicate 512 (0 : UInt8)])).flatMap strD) 9 1, _, _, _]) := H
        refine ⟨H.sub (List.nil_sublist _), ?_⟩
        replace HS := H.sub (List.nil_sublist _)
        refine t_step 14 rfl (by kernel_rfl) (o_appG (enc := strD) (s := ⟨hd (some b166), 1, 1, [([] : List UInt8)]⟩) (l' := List.replicate i ([] : List UInt8) ++ ([([] : List UInt8)])) (len' := i + 1) rfl rfl H (i := 2) rfl sl49 Try.underlying49 rfl rfl (H.glOwn (i := 3) rfl (by decide) (fun _ _ => rfl)) (by decide) (fun _ _ => rfl) (by omega) (by decide) (fun a197 c198 w H => ?_))
        replace H : Hp _ w _ ([_, _, .own a197 (i + 1) c198 ((List.replicate i ([] : List UInt8) ++ ([([] : List UInt8)])).flatMap strD) 9 1, _, _]) := H
        refine ⟨H.sub (List.nil_sublist _), ?_⟩
        replace HS := H.sub (List.nil_sublist _)
        refine t_take 15 rfl (by kernel_rfl) (by kernel_rfl) (by kernel_rfl) (fun _ _ _ h => h) (fun w HS => r_nilc rfl) HS ?_
        refine t_take 16 rfl (by kernel_rfl) (by kernel_rfl) (by kernel_rfl) (fun _ _ _ h => h) (fun w HS => r_fa rfl fo106_0) HS ?_
        refine t_step 17 rfl (by kernel_rfl) (o_st (v := .slice (hd a195) (i + 1) c196) H (i := 0) rfl rfl rfl cs49 rfl (by simp only [List.length_cons, List.length_nil]; omega) (fun w H => ?_))
        replace H : Hp _ w _ ([.blk b3 ([.slice (hd a195) (i + 1) c196, .slice (hd a2) i c2, .bool false, VI (-1), VI 0, VI (-1), .string ⟨(([] : List UInt8)).toArray⟩, VI 0, VI 0]) 106, _, _, _, _]) := H
        refine ⟨H.sub (List.nil_sublist _), ?_⟩
        replace HS := H.sub (List.nil_sublist _)
        refine t_take 18 rfl (by kernel_rfl) (by kernel_rfl) (by kernel_rfl) (fun _ _ _ h => h) (fun w HS => r_nilc rfl) HS ?_
        refine t_take 19 rfl (by kernel_rfl) (by kernel_rfl) (by kernel_rfl) (fun _ _ _ h => h) (fun w HS => r_fa rfl fo106_1) HS ?_
        refine t_step 20 rfl (by kernel_rfl) (o_st (v := .slice (hd a197) (i + 1) c198) H (i := 0) rfl rfl rfl cs49 rfl (by simp only [List.length_cons, List.length_nil]; omega) (fun w H => ?_))
        replace H : Hp _ w _ ([.blk b3 ([.slice (hd a195) (i + 1) c196, .slice (hd a197) (i + 1) c198, .bool false, VI (-1), VI 0, VI (-1), .string ⟨(([] : List UInt8)).toArray⟩, VI 0, VI 0]) 106, _, _, _, _]) := H
        refine ⟨H.sub (List.nil_sublist _), ?_⟩
        replace HS := H.sub (List.nil_sublist _)
        refine t_done (by kernel_rfl) ?_
        clear HS
        repeat refine c_seq ?_
        refine c_region ?_
        refine l_op (o_val (r_mv) ?_)
        refine l_op (o_val (r_bin (a := (i : Int)) (b := 1) rfl rfl (fun _ => b_add (by omega) (by omega))) ?_)
        refine l_op (o_val (r_as) ?_)
        first | refine l_end ?_ | refine l_nil ?_
        rw [show List.replicate i (List.replicate 512 (0 : UInt8)) ++ [List.replicate 512 (0 : UInt8)] = List.replicate (i + 1) (List.replicate 512 (0 : UInt8)) from List.replicate_succ'.symm, show List.replicate i ([] : List UInt8) ++ [[]] = List.replicate (i + 1) ([] : List UInt8) from List.replicate_succ'.symm] at H
        refine round_end (i + 1, a195, c196, a197, c198) ?_ ?_ ?_
        · exact ⟨rfl, rfl, rfl, show VI ((i : Int) + 1) = VI ((i + 1 : Nat) : Int) from congrArg VI (by omega), trivial⟩
        · refine ⟨?_, ?_⟩
          · try dsimp only
            exact by omega
          · exact H.sub (.cons_cons _ (.cons_cons _ (.cons_cons _ (List.nil_sublist _))))
        · show n - (i + 1 : Nat) < n - i; omega
       ·
        refine (o_bslV ([.string ⟨(List.replicate 512 (0 : UInt8)).toArray⟩]) H sl49 zc9 rfl (by simp [Value.oneCell']) rfl (by decide) (fun b199 w H hb199 => ?_))
        replace H : Hp _ w _ ([_, _, _, _, .own (some b199) 1 1 (([List.replicate 512 (0 : UInt8)]).flatMap strD) 9 1]) := H
        refine ⟨H.sub (List.nil_sublist _), ?_⟩
        replace HS := H.sub (List.nil_sublist _)
        refine t_step 5 rfl (by kernel_rfl) (o_val (r_ld (v := .slice (hd a1) i c1) H (i := 0) rfl rfl ct49 rfl) ?_)
        refine ⟨H.sub (List.nil_sublist _), ?_⟩
        replace HS := H.sub (List.nil_sublist _)
        refine t_step 8 rfl (by kernel_rfl) (o_appG (enc := strD) (s := ⟨hd (some b199), 1, 1, [List.replicate 512 (0 : UInt8)]⟩) (l' := List.replicate i (List.replicate 512 (0 : UInt8)) ++ ([List.replicate 512 (0 : UInt8)])) (len' := i + 1) rfl rfl H (i := 1) rfl sl49 Try.underlying49 rfl rfl (H.glOwn (i := 4) rfl (by decide) (fun _ _ => rfl)) (by decide) (fun _ _ => rfl) (by omega) (by decide) (fun a200 c201 w H => ?_))
        replace H : Hp _ w _ ([_, .own a200 (i + 1) c201 ((List.replicate i (List.replicate 512 (0 : UInt8)) ++ ([List.replicate 512 (0 : UInt8)])).flatMap strD) 9 1, _, _, _]) := H
        refine ⟨H.sub (List.nil_sublist _), ?_⟩
        replace HS := H.sub (List.nil_sublist _)
        refine t_step 14 rfl (by kernel_rfl) (o_appG (enc := strD) (s := ⟨hd (some b166), 1, 1, [([] : List UInt8)]⟩) (l' := List.replicate i ([] : List UInt8) ++ ([([] : List UInt8)])) (len' := i + 1) rfl rfl H (i := 2) rfl sl49 Try.underlying49 rfl rfl (H.glOwn (i := 3) rfl (by decide) (fun _ _ => rfl)) (by decide) (fun _ _ => rfl) (by omega) (by decide) (fun a202 c203 w H => ?_))
        replace H : Hp _ w _ ([_, _, .own a202 (i + 1) c203 ((List.replicate i ([] : List UInt8) ++ ([([] : List UInt8)])).flatMap strD) 9 1, _, _]) := H
        refine ⟨H.sub (List.nil_sublist _), ?_⟩
        replace HS := H.sub (List.nil_sublist _)
        refine t_take 15 rfl (by kernel_rfl) (by kernel_rfl) (by kernel_rfl) (fun _ _ _ h => h) (fun w HS => r_nilc rfl) HS ?_
        refine t_take 16 rfl (by kernel_rfl) (by kernel_rfl) (by kernel_rfl) (fun _ _ _ h => h) (fun w HS => r_fa rfl fo106_0) HS ?_
        refine t_step 17 rfl (by kernel_rfl) (o_st (v := .slice (hd a200) (i + 1) c201) H (i := 0) rfl rfl rfl cs49 rfl (by simp only [List.length_cons, List.length_nil]; omega) (fun w H => ?_))
        replace H : Hp _ w _ ([.blk b3 ([.slice (hd a200) (i + 1) c201, .slice (hd a2) i c2, .bool false, VI (-1), VI 0, VI (-1), .string ⟨(([] : List UInt8)).toArray⟩, VI 0, VI 0]) 106, _, _, _, _]) := H
        refine ⟨H.sub (List.nil_sublist _), ?_⟩
        replace HS := H.sub (List.nil_sublist _)
        refine t_take 18 rfl (by kernel_rfl) (by kernel_rfl) (by kernel_rfl) (fun _ _ _ h => h) (fun w HS => r_nilc rfl) HS ?_
        refine t_take 19 rfl (by kernel_rfl) (by kernel_rfl) (by kernel_rfl) (fun _ _ _ h => h) (fun w HS => r_fa rfl fo106_1) HS ?_
        refine t_step 20 rfl (by kernel_rfl) (o_st (v := .slice (hd a202) (i + 1) c203) H (i := 0) rfl rfl rfl cs49 rfl (by simp only [List.length_cons, List.length_nil]; omega) (fun w H => ?_))
        replace H : Hp _ w _ ([.blk b3 ([.slice (hd a200) (i + 1) c201, .slice (hd a202) (i + 1) c203, .bool false, VI (-1), VI 0, VI (-1), .string ⟨(([] : List UInt8)).toArray⟩, VI 0, VI 0]) 106, _, _, _, _]) := H
        refine ⟨H.sub (List.nil_sublist _), ?_⟩
        replace HS := H.sub (List.nil_sublist _)
        refine t_done (by kernel_rfl) ?_
        clear HS
        repeat refine c_seq ?_
        refine c_region ?_
        refine l_op (o_val (r_mv) ?_)
        refine l_op (o_val (r_bin (a := (i : Int)) (b := 1) rfl rfl (fun _ => b_add (by omega) (by omega))) ?_)
        refine l_op (o_val (r_as) ?_)
        first | refine l_end ?_ | refine l_nil ?_
        rw [show List.replicate i (List.replicate 512 (0 : UInt8)) ++ [List.replicate 512 (0 : UInt8)] = List.replicate (i + 1) (List.replicate 512 (0 : UInt8)) from List.replicate_succ'.symm, show List.replicate i ([] : List UInt8) ++ [[]] = List.replicate (i + 1) ([] : List UInt8) from List.replicate_succ'.symm] at H
        refine round_end (i + 1, a200, c201, a202, c203) ?_ ?_ ?_
        · exact ⟨rfl, rfl, rfl, show VI ((i : Int) + 1) = VI ((i + 1 : Nat) : Int) from congrArg VI (by omega), trivial⟩
        · refine ⟨?_, ?_⟩
          · try dsimp only
            exact by omega
          · exact H.sub (.cons_cons _ (.cons_cons _ (.cons_cons _ (List.nil_sublist _))))
        · show n - (i + 1 : Nat) < n - i; omega
    ·
     repeat refine c_seq ?_
     refine c_no (by exact congrArg Value.bool (decide_eq_false hc5)) ?_
     refine c_exit ?_
     repeat refine c_seq ?_
     refine c_region ?_
     refine l_op (o_val (r_mv) ?_)
     refine l_op (o_val (r_as) ?_)
     first | refine l_end ?_ | refine l_nil ?_
     refine c_ret ?_
     try dsimp only [Exit.then, Exit.inBlock]
     refine e_ret1 (v := .pointer (some ⟨b3, 0, none⟩)) Try.results38 rfl ?_
     refine ⟨_, rfl, ?_⟩
     have hin : i = n := by omega
     subst hin
     have H2 := H.sub (.cons_cons _ (.cons_cons _ (.cons_cons _ (List.nil_sublist _))))
     have hwz : rwf (dNew i) 0 = List.replicate i [] := by
       rw [rwf]
       apply List.ext_getElem?
       intro j
       rw [List.getElem?_map, List.getElem?_replicate]
       by_cases hj : j < i
       · rw [List.getElem?_range (by simpa [dNew] using hj), if_pos hj]; simp [dNew]
       · rw [List.getElem?_eq_none (by simpa [dNew] using hj), if_neg hj]; rfl
     have hln : (dNew i).last.length = i := by simp [dNew]
     rw [← hwz] at H2
     exact ⟨b3, ⟨a1, c1, a2, c2, dNew i, []⟩, rfl, rfl, ⟨dNew_ok (by omega), fun h => by have h' : (0 : Int) ≤ -1 := h; omega⟩, by rw [rkc]; simp only [hln]; exact H2⟩
end Go.Proofs.Ytncmcgcilijfkaa
