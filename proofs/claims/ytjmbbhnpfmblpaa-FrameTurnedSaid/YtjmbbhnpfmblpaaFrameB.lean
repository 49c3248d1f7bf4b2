import Derived.Test.YtjmbbhnpfmblpaaFrameT
import Derived.Test.YtjmbbhnpfmblpaaFrameU
import Derived.Test.YtjmbbhnpfmblpaaSpoil
import Derived.Test.YtjmbbhnpfmblpaaShaAll
/- layer 10: what stands ahead of each statement; answers written over. -/
namespace Go.Proofs.Ytjmbbhnpfmblpaa
open Go
set_option maxRecDepth 100000
theorem spoilNil : True := trivial
theorem spoil0_ret (w0 : World) :
    Ret Try.prog 43 [.slice none 0 0] w0 fun v w' => v = .tuple #[] ∧ Hp w0 w' [] [] := by
  refine ret_mk Try.func43 rfl Try.ntmps43 (by simp) ?_
  have H := Hp.refl w0 []
  repeat refine c_seq ?_
  refine c_region ?_
  refine l_op (o_val (r_mv) ?_)
  refine l_op (o_val (r_mv) ?_)
  refine l_op (o_val (r_caps el29 rfl) ?_)
  refine l_op (o_val (r_slH (h := 0) (m := 0) (hv := some (VI 0)) rfl el29 rfl rfl rfl (fun w => by exact sbh 0 rfl (by omega) w)) ?_)
  refine l_op (o_val (r_as) ?_)
  first | refine l_end ?_ | refine l_nil ?_
  repeat refine c_seq ?_
  refine c_region ?_
  refine l_op (o_val (r_as) ?_)
  first | refine l_end ?_ | refine l_nil ?_
  repeat refine c_seq ?_
  refine c_block ?_
  repeat refine c_seq ?_
  refine c_loop (fun (i : Nat) => [(2, .slice none 0 0), (3, VI (i : Int))])
    (fun (i : Nat) w => (i = 0) ∧ Hp w0 w [] ([]))
    (fun (i : Nat) => 0) 0 ⟨rfl, rfl, trivial⟩ ⟨rfl, H⟩ ?_
  clear H
  rintro i τ w ⟨hi, H⟩
  repeat refine c_seq ?_
  refine c_region ?_
  refine l_op (o_val (r_mv) ?_)
  refine l_op (o_val (r_mv) ?_)
  refine l_op (o_val (r_lens el29 rfl) ?_)
  refine l_op (o_val (r_bin (a := (i : Int)) (b := 0) rfl rfl (fun _ => b_lssB false (decide_eq_false (by omega)))) ?_)
  first | refine l_end ?_ | refine l_nil ?_
  repeat refine c_seq ?_
  refine c_no rfl ?_
  refine c_exit ?_
  try simp only [Exit.then, Exit.inBlock, ↓reduceIte]
  refine e_norm ?_
  refine e_ret0 Try.results43 ?_
  refine ⟨_, rfl, ?_⟩
  exact ⟨rfl, H⟩
theorem spoilOwn_ret {w0 w : World} {S : List Nat} {L : List Ch} {i : Nat} {a : Option Nat} {len cap : Nat} {l : List UInt8} (H : Hp w0 w S L) (hi : L[i]? = some (.own a len cap (l.map V8) 5 1)) :
    Ret Try.prog 43 [.slice (hd a) len cap] w fun v w' => v = .tuple #[] ∧ Hp w0 w' S (L.set i (.own a len cap ((List.replicate len (90 : UInt8)).map V8) 5 1)) := by
  have hok := H.has _ (List.mem_of_getElem? hi)
  cases a with
  | none =>
    obtain ⟨h1, h2, h3⟩ := id hok
    subst h1 h2
    refine (spoil0_ret w).mono fun v w' ⟨hv, Hc⟩ => ⟨hv, ?_⟩
    have := H.call Hc
    rw [List.append_nil] at this
    exact this.conv hi rfl fun _ => ⟨rfl, rfl, rfl⟩
  | some b =>
    obtain ⟨h1, h2, h3, rest, hw, h5⟩ := id hok
    refine (spoilN_ret w b len cap (l.map V8 ++ rest) hw (by omega) h2 h3).mono fun v w' ⟨hv, Hc⟩ => ⟨hv, ?_⟩
    have hc' : Hp w w' [b] [.own (some b) len cap ((List.replicate len (90 : UInt8)).map V8) 5 1] := by
      refine Hc.conv (i := 0) rfl rfl fun hblk => ⟨by simp, h2, h3, List.replicate (cap - len) (V8 90), ?_, by simp; omega⟩
      simp only [Ch.ok] at hblk
      rw [hblk, List.map_replicate, List.replicate_append_replicate, show len + (cap - len) = cap by omega]
    have := H.callAt hi rfl rfl hc'
    rwa [List.append_nil] at this
theorem takeF_put (k b r : List UInt8) (hk : k.length = 32) (hb : b.length ≤ 4200) : takeF (putF k b ++ r) = (k, b, 46 + b.length, 0) := by
  have hl := putF_len k b hk
  have h0 : (putF k b ++ r).getD 0 0 = 199 := by rw [putF]; rfl
  have h1 : (putF k b ++ r).getD 1 0 = 70 := by rw [putF]; rfl
  have hbe : be b.length 4 = ((putF k b ++ r).drop 2).take 4 := by
    rw [putF]; simp only [List.append_assoc, List.cons_append, List.nil_append, List.drop_succ_cons, List.drop_zero]
    rw [List.take_append_of_le_length (by simp [be_len]), List.take_of_length_le (by simp [be_len])]
  have hn : (num (putF k b ++ r) 2 4).toNat = b.length := by
    rw [num_nat _ _ _ (by omega), ← hbe, ofbe_be _ _ (by omega)]
  have h6 : ((putF k b ++ r).drop 6).take 8 = hash8 k b := by
    have e : putF k b ++ r = ([199, 70] ++ be b.length 4) ++ (hash8 k b ++ (k ++ (b ++ r))) := by simp [putF]
    rw [e, List.drop_left' (by simp [be_len]), List.take_left' (by simp [hash8, sha256_len])]
  have h14 : ((putF k b ++ r).drop 14).take 32 = k := by
    have e : putF k b ++ r = ([199, 70] ++ be b.length 4 ++ hash8 k b) ++ (k ++ (b ++ r)) := by simp [putF]
    rw [e, List.drop_left' (by simp [be_len, hash8, sha256_len]), List.take_left' hk]
  have h46 : ((putF k b ++ r).drop 46).take b.length = b := by
    have e : putF k b ++ r = ([199, 70] ++ be b.length 4 ++ hash8 k b ++ k) ++ (b ++ r) := by simp [putF]
    rw [e, List.drop_left' (by simp [be_len, hash8, sha256_len, hk]), List.take_left' rfl]
  have hlen : (putF k b ++ r).length = 46 + b.length + r.length := by rw [List.length_append, hl]
  have e0 : (199 : UInt8).toNat = 199 := rfl
  have e1 : (70 : UInt8).toNat = 70 := rfl
  rw [takeF, if_neg (by omega), if_neg (by rw [h0, h1, e0, e1]; simp), if_neg (by omega), if_neg (by omega), if_neg (by rw [h14, hn, h46, h6]; simp), h14, hn, h46]
theorem takeF_cut (k b : List UInt8) (hk : k.length = 32) (hb : b.length ≤ 4200) (m : Nat) (hm : m < 46 + b.length) : (takeF ((putF k b).take m)).2.2.2 = 3 := by
  have hl := putF_len k b hk
  have hlen : ((putF k b).take m).length = m := by simp; omega
  by_cases h : m < 46
  · rw [takeF, if_pos (by omega)]
  · have h0 : ((putF k b).take m).getD 0 0 = 199 := by rw [List.getD_eq_getElem?_getD, List.getElem?_take_of_lt (by omega), putF]; rfl
    have h1 : ((putF k b).take m).getD 1 0 = 70 := by rw [List.getD_eq_getElem?_getD, List.getElem?_take_of_lt (by omega), putF]; rfl
    have hbe : be b.length 4 = (((putF k b).take m).drop 2).take 4 := by
      rw [List.drop_take, List.take_take, Nat.min_eq_left (by omega), putF]
      simp only [List.append_assoc, List.cons_append, List.nil_append, List.drop_succ_cons, List.drop_zero]
      rw [List.take_append_of_le_length (by simp [be_len]), List.take_of_length_le (by simp [be_len])]
    have hn : (num ((putF k b).take m) 2 4).toNat = b.length := by
      rw [num_nat _ _ _ (by omega), ← hbe, ofbe_be _ _ (by omega)]
    have e0 : (199 : UInt8).toNat = 199 := rfl
    have e1 : (70 : UInt8).toNat = 70 := rfl
    rw [takeF, if_neg (by omega), if_neg (by rw [h0, h1, e0, e1]; simp), if_neg (by omega), if_pos (by omega)]
theorem takeF_ok (l : List UInt8) (h : (takeF l).2.2.2 = 0) : 46 + (takeF l).2.1.length = (takeF l).2.2.1 ∧ (takeF l).2.2.1 ≤ l.length ∧ (takeF l).2.1.length ≤ 4200 ∧ l.take (takeF l).2.2.1 = putF (takeF l).1 (takeF l).2.1 := by
  unfold takeF at h ⊢
  split at h
  · simp at h
  split at h
  · simp at h
  split at h
  · simp at h
  split at h
  · simp at h
  split at h
  · simp at h
  · rename_i h1 h2 h3 h4 h5
    rw [if_neg h1, if_neg h2, if_neg h3, if_neg h4, if_neg h5]
    have e : ((l.drop 46).take (num l 2 4).toNat).length = (num l 2 4).toNat := by simp; omega
    refine ⟨by simp only [e], by simp only; omega, by simp only [e]; omega, ?_⟩
    simp only
    exact ((putF_iff l (by omega) (by omega) (by omega) (by omega)).2 (Classical.not_not.1 h5)).symm
theorem takeF_bad (l : List UInt8) (h : ¬ (takeF l).2.2.2 = 0) : (takeF l).1 = Z32 ∧ (takeF l).2.1 = [] ∧ (takeF l).2.2.1 = 0 := by
  unfold takeF at h ⊢
  split
  · exact ⟨rfl, rfl, rfl⟩
  split
  · exact ⟨rfl, rfl, rfl⟩
  split
  · exact ⟨rfl, rfl, rfl⟩
  split
  · exact ⟨rfl, rfl, rfl⟩
  split
  · exact ⟨rfl, rfl, rfl⟩
  · rename_i h1 h2 h3 h4 h5
    rw [if_neg h1, if_neg h2, if_neg h3, if_neg h4, if_neg h5] at h
    exact absurd rfl h
theorem begun10_ret (w0 : World) :
    Ret Try.prog 58 [] w0 fun v w' => v = .bool true ∧ Hp w0 w' [] [] := by
  refine ret_mk Try.func58 rfl Try.ntmps58 (by simp) ?_
  have H := Hp.refl w0 []
  repeat refine c_seq ?_
  refine c_region ?_
  refine l_op (o_val (r_as) ?_)
  first | refine l_end ?_ | refine l_nil ?_
  repeat refine c_seq ?_
  refine c_region ?_
  refine l_op (o_val (r_bld' (pv := []) bd31 rfl rfl) ?_)
  refine l_op (o_bslB ([(1 : UInt8)]) H sl29 zc5 rfl rfl (by decide) (fun b1 w H hb1 => ?_))
  replace H : Hp w0 w [] ([.own (some b1) 1 1 (([(1 : UInt8)]).map V8) 5 1]) := H
  have hk2 : (1 ≤ 4200) := (by decide)
  refine l_op (o_callR Try.func59 rfl rfl rfl (fput_ok _ (List.replicate 32 (0 : UInt8)) (show (List.replicate 32 (0 : UInt8)).length = 32 from (List.length_replicate ..)) ⟨hd (some b1), 1, 1, [(1 : UInt8)]⟩ (H.slOwn (i := 0) rfl) (by (try dsimp only); omega)) ?_)
  rintro _ w ⟨a3, c4, rfl, Hc⟩
  replace H : Hp w0 w [] ([.own (some b1) 1 1 (([(1 : UInt8)]).map V8) 5 1, .own a3 (46 + 1) c4 ((putF (List.replicate 32 (0 : UInt8)) ([(1 : UInt8)])).map V8) 5 1]) := H.call Hc
  clear Hc
  refine l_op (o_val (r_mv) ?_)
  refine l_op (o_val (r_ext rfl rfl) ?_)
  refine l_op (o_val (r_ext rfl rfl) ?_)
  refine l_op (o_val (r_as) ?_)
  refine l_op (o_val (r_as) ?_)
  first | refine l_end ?_ | refine l_nil ?_
  repeat refine c_seq ?_
  refine c_region ?_
  refine l_op (o_val (r_mv) ?_)
  refine l_op (o_callR Try.func63 rfl rfl rfl (ftake_ret _ ⟨hd a3, 46 + 1, c4, putF (List.replicate 32 (0 : UInt8)) ([(1 : UInt8)])⟩ (H.slOwn (i := 1) rfl) (by (try simp only [Sl.cut]); omega)) ?_)
  rintro _ w ⟨a5, c6, rfl, Hc⟩
  replace H : Hp w0 w [] ([.own (some b1) 1 1 (([(1 : UInt8)]).map V8) 5 1, .own a3 (46 + 1) c4 ((putF (List.replicate 32 (0 : UInt8)) ([(1 : UInt8)])).map V8) 5 1, .own a5 ((takeF (putF (List.replicate 32 (0 : UInt8)) ([(1 : UInt8)]))).2.1.length) c6 (((takeF (putF (List.replicate 32 (0 : UInt8)) ([(1 : UInt8)]))).2.1).map V8) 5 1]) := H.call Hc
  clear Hc
  refine l_op (o_val (r_mv) ?_)
  refine l_op (o_val (r_ext rfl rfl) ?_)
  refine l_op (o_val (r_ext rfl rfl) ?_)
  refine l_op (o_val (r_ext rfl rfl) ?_)
  refine l_op (o_val (r_ext rfl rfl) ?_)
  refine l_op (o_alloc H zc31 (fun b7 w H hb7 => ?_))
  replace H : Hp w0 w [] ([.own (some b1) 1 1 (([(1 : UInt8)]).map V8) 5 1, .own a3 (46 + 1) c4 ((putF (List.replicate 32 (0 : UInt8)) ([(1 : UInt8)])).map V8) 5 1, .own a5 ((takeF (putF (List.replicate 32 (0 : UInt8)) ([(1 : UInt8)]))).2.1.length) c6 (((takeF (putF (List.replicate 32 (0 : UInt8)) ([(1 : UInt8)]))).2.1).map V8) 5 1, .blk b7 ((List.replicate 32 (0 : UInt8)).map V8) 31]) := H
  refine l_op (o_stA (l' := (takeF (putF (List.replicate 32 (0 : UInt8)) ([(1 : UInt8)]))).1) H (i := 3) rfl rfl rfl cs31 (show (List.replicate 32 (0 : UInt8)).length = 32 from (List.length_replicate ..)) (show ((takeF (putF (List.replicate 32 (0 : UInt8)) ([(1 : UInt8)]))).1).length = 32 from takeF_len _) (fun w H => ?_))
  replace H : Hp w0 w [] ([.own (some b1) 1 1 (([(1 : UInt8)]).map V8) 5 1, .own a3 (46 + 1) c4 ((putF (List.replicate 32 (0 : UInt8)) ([(1 : UInt8)])).map V8) 5 1, .own a5 ((takeF (putF (List.replicate 32 (0 : UInt8)) ([(1 : UInt8)]))).2.1.length) c6 (((takeF (putF (List.replicate 32 (0 : UInt8)) ([(1 : UInt8)]))).2.1).map V8) 5 1, .blk b7 (((takeF (putF (List.replicate 32 (0 : UInt8)) ([(1 : UInt8)]))).1).map V8) 31]) := H
  refine l_op (o_val (r_as) ?_)
  refine l_op (o_val (r_as) ?_)
  refine l_op (o_val (r_as) ?_)
  first | refine l_end ?_ | refine l_nil ?_
  have e1 := takeF_put (List.replicate 32 (0 : UInt8)) [1] [] (List.length_replicate ..) (by decide)
  rw [List.append_nil] at e1
  repeat refine c_seq ?_
  refine c_region ?_
  refine l_op (o_val (r_mv) ?_)
  refine l_op (o_val (r_bin (a := 0) (b := 0) rfl rfl (fun _ => b_eqlB true (decide_eq_true (by decide)))) ?_)
  refine l_op (o_val (r_mv) ?_)
  refine l_yes rfl rfl rfl (o_val (r_mv) ?_)
  refine l_yes rfl rfl rfl (o_val (r_bin (a := (((takeF (putF (List.replicate 32 (0 : UInt8)) ([(1 : UInt8)]))).2.2.2 : Nat) : Int)) (b := 0) rfl rfl (fun _ => b_eqlB true (decide_eq_true (by rw [e1]; rfl)))) ?_)
  refine l_op (o_val (r_pick rfl) ?_)
  refine l_op (o_val (r_mv) ?_)
  refine l_yes rfl rfl rfl (o_val (r_mv) ?_)
  refine l_yes rfl rfl rfl (o_val (r_lens el29 rfl) ?_)
  refine l_yes rfl rfl rfl (o_val (r_bin (a := ((46 + 1 : Nat) : Int)) (b := 47) rfl rfl (fun _ => b_eqlB true (decide_eq_true (by rfl)))) ?_)
  refine l_op (o_val (r_pick rfl) ?_)
  refine l_op (o_val (r_mv) ?_)
  refine l_yes rfl rfl rfl (o_val (r_mv) ?_)
  refine l_yes rfl rfl rfl (o_val (r_bin (a := (((takeF (putF (List.replicate 32 (0 : UInt8)) ([(1 : UInt8)]))).2.2.1 : Nat) : Int)) (b := 47) rfl rfl (fun _ => b_eqlB true (decide_eq_true (by rw [e1]; rfl)))) ?_)
  refine l_op (o_val (r_pick rfl) ?_)
  refine l_op (o_val (r_mv) ?_)
  refine l_yes rfl rfl rfl (o_val (r_mv) ?_)
  refine l_yes rfl rfl rfl (o_val (r_b2S (s := ⟨hd a5, (takeF (putF (List.replicate 32 (0 : UInt8)) ([(1 : UInt8)]))).2.1.length, c6, (takeF (putF (List.replicate 32 (0 : UInt8)) ([(1 : UInt8)]))).2.1⟩) Try.underlying29 Try.underlying5 Try.underlying9 rfl (H.slOwn (i := 2) rfl)) ?_)
  refine l_yes rfl rfl rfl (o_val (r_streq (a := (takeF (putF (List.replicate 32 (0 : UInt8)) ([(1 : UInt8)]))).2.1) (b := ([1] : List UInt8)) rfl rfl) ?_)
  have hk8 : (decide ((takeF (putF (List.replicate 32 (0 : UInt8)) ([(1 : UInt8)]))).2.1 = ([1] : List UInt8))) = true := decide_eq_true (by rw [e1])
  refine l_op (o_val (r_pick rfl) ?_)
  refine l_op (o_val (r_mv) ?_)
  refine l_yes rfl rfl (by exact congrArg Value.bool hk8) (o_callR Try.func61 rfl rfl rfl (fsize_ret _ (1)) ?_)
  rintro _ w ⟨rfl, Hc⟩
  replace H : Hp w0 w [] ([.own (some b1) 1 1 (([(1 : UInt8)]).map V8) 5 1, .own a3 (46 + 1) c4 ((putF (List.replicate 32 (0 : UInt8)) ([(1 : UInt8)])).map V8) 5 1, .own a5 ((takeF (putF (List.replicate 32 (0 : UInt8)) ([(1 : UInt8)]))).2.1.length) c6 (((takeF (putF (List.replicate 32 (0 : UInt8)) ([(1 : UInt8)]))).2.1).map V8) 5 1, .blk b7 (((takeF (putF (List.replicate 32 (0 : UInt8)) ([(1 : UInt8)]))).1).map V8) 31]) := H.call Hc
  clear Hc
  refine l_yes rfl rfl (by exact congrArg Value.bool hk8) (o_val (r_bin (a := (if 1 < 0 ∨ 4200 < 1 then 0 else 46 + 1)) (b := 47) rfl rfl (fun _ => b_eqlB true (decide_eq_true (by decide)))) ?_)
  refine l_op (o_val (r_pick (b := true) (congrArg Value.bool hk8)) ?_)
  refine l_op (o_val (r_as) ?_)
  first | refine l_end ?_ | refine l_nil ?_
  refine c_ret ?_
  try dsimp only [Exit.then, Exit.inBlock]
  refine e_ret1 (v := .bool true) Try.results58 rfl ?_
  refine ⟨_, rfl, ?_⟩
  exact ⟨rfl, H.sub (List.nil_sublist _)⟩
end Go.Proofs.Ytjmbbhnpfmblpaa
