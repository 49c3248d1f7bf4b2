import Derived.Test.YtjmbbhnpfmblpaaCap3
import Derived.Test.YtjmbbhnpfmblpaaShaAll
/- layer 14: what stands ahead of each statement. -/
namespace Go.Proofs.Ytjmbbhnpfmblpaa
open Go
set_option maxRecDepth 100000
theorem checkT_own (key : List UInt8) (t : Tok) (now : Int) (hm : mayT t = true) (ht : onF (hmac key (framed [t.head])) t.cs.l = t.tag) : checkT key t now = if now < t.from_ ∨ (effF t.rights t.until_ t.cs.l).2 ≤ now then 14 else 0 := by
  rw [checkT, if_neg (by rw [hm]; decide), if_neg (not_not_intro ht)]
theorem checkT_iff (key : List UInt8) (t : Tok) (now : Int) (hm : mayT t = true) (ht : onF (hmac key (framed [t.head])) t.cs.l = t.tag) : (checkT key t now = 0 ∨ checkT key t now = 14) ∧ (checkT key t now = 0 ↔ t.from_ ≤ now ∧ now < (effF t.rights t.until_ t.cs.l).2) := by
  rw [checkT_own key t now hm ht]
  by_cases h : now < t.from_ ∨ (effF t.rights t.until_ t.cs.l).2 ≤ now
  · rw [if_pos h]; exact ⟨.inr rfl, by constructor <;> intro h2 <;> omega⟩
  · rw [if_neg h]; exact ⟨.inl rfl, by constructor <;> intro h2 <;> omega⟩
theorem begun14_ret (w0 : World) :
    Ret Try.prog 65 [] w0 fun v w' => v = .bool true ∧ Hp w0 w' [] [] := by
  refine ret_mk Try.func65 rfl Try.ntmps65 (by simp) ?_
  have H := Hp.refl w0 []
  repeat refine c_seq ?_
  refine c_region ?_
  refine l_op (o_val (r_as) ?_)
  first | refine l_end ?_ | refine l_nil ?_
  repeat refine c_seq ?_
  refine c_region ?_
  refine l_op (o_val (r_bld' (cells := ((((1 : UInt8) :: List.replicate 31 (0 : UInt8))).map V8).toArray) (pv := [(0, V8 (1 : UInt8))]) bd31 rfl rfl) ?_)
  refine l_op (o_alloc H zc31 (fun b1 w H hb1 => ?_))
  replace H : Hp w0 w [] ([.blk b1 ((List.replicate 32 (0 : UInt8)).map V8) 31]) := H
  refine l_op (o_stA (l' := ((1 : UInt8) :: List.replicate 31 (0 : UInt8))) H (i := 0) rfl rfl rfl cs31 (show (List.replicate 32 (0 : UInt8)).length = 32 from (List.length_replicate ..)) (show (((1 : UInt8) :: List.replicate 31 (0 : UInt8))).length = 32 from rfl) (fun w H => ?_))
  replace H : Hp w0 w [] ([.blk b1 ((((1 : UInt8) :: List.replicate 31 (0 : UInt8))).map V8) 31]) := H
  first | refine l_end ?_ | refine l_nil ?_
  repeat refine c_seq ?_
  refine c_region ?_
  refine l_op (o_val (r_ldAA (l := ((1 : UInt8) :: List.replicate 31 (0 : UInt8))) H (i := 0) rfl rfl rt31 (show (((1 : UInt8) :: List.replicate 31 (0 : UInt8))).length = 32 from rfl)) ?_)
  refine l_op (o_val (r_bld' (cells := ([V64 (1 : UInt64), .string ⟨(([] : List UInt8)).toArray⟩, V8 (7 : UInt8), VI 0, VI 9, .slice none 0 0] ++ (List.replicate 32 (0 : UInt8)).map V8).toArray) (pv := [(0, V64 (1 : UInt64)), (2, V8 (7 : UInt8)), (4, VI 9)]) bd76 rfl rfl) ?_)
  refine l_op (o_callR Try.func68 rfl rfl rfl (issue_ok _ (((1 : UInt8) :: List.replicate 31 (0 : UInt8))) (show (((1 : UInt8) :: List.replicate 31 (0 : UInt8))).length = 32 from rfl) (⟨(1 : UInt64), ([] : List UInt8), (7 : UInt8), 0, 9, ⟨none, 0, 0, []⟩, List.replicate 32 (0 : UInt8)⟩ : Tok) (Gl.ok_nil _) (show (List.replicate 32 (0 : UInt8)).length = 32 from (List.length_replicate ..)) (by first | omega | (dsimp only; omega) | simp) (by first | rfl | (simp [mayT]; decide)) rfl) ?_)
  rintro _ w ⟨rfl, Hc⟩
  replace H : Hp w0 w [] ([.blk b1 ((((1 : UInt8) :: List.replicate 31 (0 : UInt8))).map V8) 31]) := H.call Hc
  clear Hc
  refine l_op (o_val (r_mv) ?_)
  refine l_op (o_val (r_ext rfl rfl) ?_)
  refine l_op (o_val (r_ext rfl rfl) ?_)
  refine l_op (o_alloc H zc76 (fun b2 w H hb2 => ?_))
  replace H : Hp w0 w [] ([.blk b1 ((((1 : UInt8) :: List.replicate 31 (0 : UInt8))).map V8) 31, .blk b2 ([V64 (0 : UInt64), .string ⟨(([] : List UInt8)).toArray⟩, V8 (0 : UInt8), VI 0, VI 0, .slice none 0 0] ++ (List.replicate 32 (0 : UInt8)).map V8) 76]) := H
  refine l_op (o_stW (C' := [V64 (1 : UInt64), .string ⟨(([] : List UInt8)).toArray⟩, V8 (7 : UInt8), VI 0, VI 9, .slice none 0 0] ++ (hmac (((1 : UInt8) :: List.replicate 31 (0 : UInt8))) (framed [headB ((1 : UInt64)) (([] : List UInt8)) ((7 : UInt8)) (0) (9)])).map V8) H (i := 1) rfl rfl rfl cs76 (by simp [Value.oneCell', Sl.v, Gl.v]) (by rw [List.length_append, List.length_map, (show (List.replicate 32 (0 : UInt8)).length = 32 from (List.length_replicate ..))]; rfl) (by rw [List.length_append, List.length_map, (show (hmac (((1 : UInt8) :: List.replicate 31 (0 : UInt8))) (framed [headB ((1 : UInt64)) (([] : List UInt8)) ((7 : UInt8)) (0) (9)])).length = 32 from hmac_len _ _)]; rfl) (fun w H => ?_))
  replace H : Hp w0 w [] ([.blk b1 ((((1 : UInt8) :: List.replicate 31 (0 : UInt8))).map V8) 31, .blk b2 ([V64 (1 : UInt64), .string ⟨(([] : List UInt8)).toArray⟩, V8 (7 : UInt8), VI 0, VI 9, .slice none 0 0] ++ (hmac (((1 : UInt8) :: List.replicate 31 (0 : UInt8))) (framed [headB ((1 : UInt64)) (([] : List UInt8)) ((7 : UInt8)) (0) (9)])).map V8) 76]) := H
  refine l_op (o_val (r_as) ?_)
  first | refine l_end ?_ | refine l_nil ?_
  repeat refine c_seq ?_
  refine c_region ?_
  refine l_op (o_val (r_ldA (C := [V64 (1 : UInt64), .string ⟨(([] : List UInt8)).toArray⟩, V8 (7 : UInt8), VI 0, VI 9, .slice none 0 0] ++ (hmac (((1 : UInt8) :: List.replicate 31 (0 : UInt8))) (framed [headB ((1 : UInt64)) (([] : List UInt8)) ((7 : UInt8)) (0) (9)])).map V8) H (i := 1) rfl rfl rt76 (by rw [List.length_append, List.length_map, (show (hmac (((1 : UInt8) :: List.replicate 31 (0 : UInt8))) (framed [headB ((1 : UInt64)) (([] : List UInt8)) ((7 : UInt8)) (0) (9)])).length = 32 from hmac_len _ _)]; rfl)) ?_)
  refine l_op (o_val (r_bld' (cells := ([V8 (1 : UInt8), VI 5]).toArray) (pv := [(0, V8 (1 : UInt8)), (1, VI 5)]) bd78 rfl rfl) ?_)
  refine l_op (o_callR Try.func70 rfl rfl rfl (less_ok _ (⟨(1 : UInt64), ([] : List UInt8), (7 : UInt8), 0, 9, ⟨none, 0, 0, []⟩, hmac (((1 : UInt8) :: List.replicate 31 (0 : UInt8))) (framed [headB ((1 : UInt64)) (([] : List UInt8)) ((7 : UInt8)) (0) (9)])⟩ : Tok) ((1 : UInt8), 5) (Gl.ok_nil _) (show (hmac (((1 : UInt8) :: List.replicate 31 (0 : UInt8))) (framed [headB ((1 : UInt64)) (([] : List UInt8)) ((7 : UInt8)) (0) (9)])).length = 32 from hmac_len _ _) (by first | omega | (dsimp only; omega) | simp) (by first | rfl | (simp [mayT]; decide)) (by rfl) (by first | omega | (dsimp only; omega) | simp)) ?_)
  rintro _ w ⟨a3, c4, rfl, Hc⟩
  replace H : Hp w0 w [] ([.blk b1 ((((1 : UInt8) :: List.replicate 31 (0 : UInt8))).map V8) 31, .blk b2 ([V64 (1 : UInt64), .string ⟨(([] : List UInt8)).toArray⟩, V8 (7 : UInt8), VI 0, VI 9, .slice none 0 0] ++ (hmac (((1 : UInt8) :: List.replicate 31 (0 : UInt8))) (framed [headB ((1 : UInt64)) (([] : List UInt8)) ((7 : UInt8)) (0) (9)])).map V8) 76, .own a3 (0 + 1) c4 ((([] : List Cav) ++ [((1 : UInt8), 5)]).flatMap cavE) 78 2]) := H.call Hc
  clear Hc
  refine l_op (o_val (r_mv) ?_)
  refine l_op (o_val (r_ext rfl rfl) ?_)
  refine l_op (o_val (r_ext rfl rfl) ?_)
  refine l_op (o_alloc H zc76 (fun b5 w H hb5 => ?_))
  replace H : Hp w0 w [] ([.blk b1 ((((1 : UInt8) :: List.replicate 31 (0 : UInt8))).map V8) 31, .blk b2 ([V64 (1 : UInt64), .string ⟨(([] : List UInt8)).toArray⟩, V8 (7 : UInt8), VI 0, VI 9, .slice none 0 0] ++ (hmac (((1 : UInt8) :: List.replicate 31 (0 : UInt8))) (framed [headB ((1 : UInt64)) (([] : List UInt8)) ((7 : UInt8)) (0) (9)])).map V8) 76, .own a3 (0 + 1) c4 ((([] : List Cav) ++ [((1 : UInt8), 5)]).flatMap cavE) 78 2, .blk b5 ([V64 (0 : UInt64), .string ⟨(([] : List UInt8)).toArray⟩, V8 (0 : UInt8), VI 0, VI 0, .slice none 0 0] ++ (List.replicate 32 (0 : UInt8)).map V8) 76]) := H
  refine l_op (o_stW (C' := [V64 (1 : UInt64), .string ⟨(([] : List UInt8)).toArray⟩, V8 (7 : UInt8), VI 0, VI 9, .slice (hd a3) (0 + 1) c4] ++ (onF (hmac (((1 : UInt8) :: List.replicate 31 (0 : UInt8))) (framed [headB ((1 : UInt64)) (([] : List UInt8)) ((7 : UInt8)) (0) (9)])) [((1 : UInt8), 5)]).map V8) H (i := 3) rfl rfl rfl cs76 (by simp [Value.oneCell', Sl.v, Gl.v]) (by rw [List.length_append, List.length_map, (show (List.replicate 32 (0 : UInt8)).length = 32 from (List.length_replicate ..))]; rfl) (by rw [List.length_append, List.length_map, (show (onF (hmac (((1 : UInt8) :: List.replicate 31 (0 : UInt8))) (framed [headB ((1 : UInt64)) (([] : List UInt8)) ((7 : UInt8)) (0) (9)])) [((1 : UInt8), 5)]).length = 32 from onF_len _ (show (hmac (((1 : UInt8) :: List.replicate 31 (0 : UInt8))) (framed [headB ((1 : UInt64)) (([] : List UInt8)) ((7 : UInt8)) (0) (9)])).length = 32 from hmac_len _ _) _)]; rfl) (fun w H => ?_))
  replace H : Hp w0 w [] ([.blk b1 ((((1 : UInt8) :: List.replicate 31 (0 : UInt8))).map V8) 31, .blk b2 ([V64 (1 : UInt64), .string ⟨(([] : List UInt8)).toArray⟩, V8 (7 : UInt8), VI 0, VI 9, .slice none 0 0] ++ (hmac (((1 : UInt8) :: List.replicate 31 (0 : UInt8))) (framed [headB ((1 : UInt64)) (([] : List UInt8)) ((7 : UInt8)) (0) (9)])).map V8) 76, .own a3 (0 + 1) c4 ((([] : List Cav) ++ [((1 : UInt8), 5)]).flatMap cavE) 78 2, .blk b5 ([V64 (1 : UInt64), .string ⟨(([] : List UInt8)).toArray⟩, V8 (7 : UInt8), VI 0, VI 9, .slice (hd a3) (0 + 1) c4] ++ (onF (hmac (((1 : UInt8) :: List.replicate 31 (0 : UInt8))) (framed [headB ((1 : UInt64)) (([] : List UInt8)) ((7 : UInt8)) (0) (9)])) [((1 : UInt8), 5)]).map V8) 76]) := H
  refine l_op (o_val (r_as) ?_)
  first | refine l_end ?_ | refine l_nil ?_
  repeat refine c_seq ?_
  refine c_region ?_
  refine l_op (o_val (r_ldA (C := [V64 (1 : UInt64), .string ⟨(([] : List UInt8)).toArray⟩, V8 (7 : UInt8), VI 0, VI 9, .slice (hd a3) (0 + 1) c4] ++ (onF (hmac (((1 : UInt8) :: List.replicate 31 (0 : UInt8))) (framed [headB ((1 : UInt64)) (([] : List UInt8)) ((7 : UInt8)) (0) (9)])) [((1 : UInt8), 5)]).map V8) H (i := 3) rfl rfl rt76 (by rw [List.length_append, List.length_map, (show (onF (hmac (((1 : UInt8) :: List.replicate 31 (0 : UInt8))) (framed [headB ((1 : UInt64)) (([] : List UInt8)) ((7 : UInt8)) (0) (9)])) [((1 : UInt8), 5)]).length = 32 from onF_len _ (show (hmac (((1 : UInt8) :: List.replicate 31 (0 : UInt8))) (framed [headB ((1 : UInt64)) (([] : List UInt8)) ((7 : UInt8)) (0) (9)])).length = 32 from hmac_len _ _) _)]; rfl)) ?_)
  refine l_op (o_callR Try.func72 rfl rfl rfl (effect_ret _ (⟨(1 : UInt64), ([] : List UInt8), (7 : UInt8), 0, 9, ⟨hd a3, 0 + 1, c4, ([] : List Cav) ++ [((1 : UInt8), 5)]⟩, onF (hmac (((1 : UInt8) :: List.replicate 31 (0 : UInt8))) (framed [headB ((1 : UInt64)) (([] : List UInt8)) ((7 : UInt8)) (0) (9)])) [((1 : UInt8), 5)]⟩ : Tok) (H.glOwn (i := 2) rfl (by decide) (fun _ _ => rfl)) (show (onF (hmac (((1 : UInt8) :: List.replicate 31 (0 : UInt8))) (framed [headB ((1 : UInt64)) (([] : List UInt8)) ((7 : UInt8)) (0) (9)])) [((1 : UInt8), 5)]).length = 32 from onF_len _ (show (hmac (((1 : UInt8) :: List.replicate 31 (0 : UInt8))) (framed [headB ((1 : UInt64)) (([] : List UInt8)) ((7 : UInt8)) (0) (9)])).length = 32 from hmac_len _ _) _)) ?_)
  rintro _ w ⟨rfl, Hc⟩
  replace H : Hp w0 w [] ([.blk b1 ((((1 : UInt8) :: List.replicate 31 (0 : UInt8))).map V8) 31, .blk b2 ([V64 (1 : UInt64), .string ⟨(([] : List UInt8)).toArray⟩, V8 (7 : UInt8), VI 0, VI 9, .slice none 0 0] ++ (hmac (((1 : UInt8) :: List.replicate 31 (0 : UInt8))) (framed [headB ((1 : UInt64)) (([] : List UInt8)) ((7 : UInt8)) (0) (9)])).map V8) 76, .own a3 (0 + 1) c4 ((([] : List Cav) ++ [((1 : UInt8), 5)]).flatMap cavE) 78 2, .blk b5 ([V64 (1 : UInt64), .string ⟨(([] : List UInt8)).toArray⟩, V8 (7 : UInt8), VI 0, VI 9, .slice (hd a3) (0 + 1) c4] ++ (onF (hmac (((1 : UInt8) :: List.replicate 31 (0 : UInt8))) (framed [headB ((1 : UInt64)) (([] : List UInt8)) ((7 : UInt8)) (0) (9)])) [((1 : UInt8), 5)]).map V8) 76]) := H.call Hc
  clear Hc
  refine l_op (o_val (r_mv) ?_)
  refine l_op (o_val (r_ext rfl rfl) ?_)
  refine l_op (o_val (r_ext rfl rfl) ?_)
  refine l_op (o_val (r_as) ?_)
  refine l_op (o_val (r_as) ?_)
  first | refine l_end ?_ | refine l_nil ?_
  have c1 : ∀ n, (checkT (((1 : UInt8) :: List.replicate 31 (0 : UInt8))) (⟨(1 : UInt64), ([] : List UInt8), (7 : UInt8), 0, 9, ⟨none, 0, 0, []⟩, hmac (((1 : UInt8) :: List.replicate 31 (0 : UInt8))) (framed [headB ((1 : UInt64)) (([] : List UInt8)) ((7 : UInt8)) (0) (9)])⟩ : Tok) n = 0 ∨ checkT (((1 : UInt8) :: List.replicate 31 (0 : UInt8))) (⟨(1 : UInt64), ([] : List UInt8), (7 : UInt8), 0, 9, ⟨none, 0, 0, []⟩, hmac (((1 : UInt8) :: List.replicate 31 (0 : UInt8))) (framed [headB ((1 : UInt64)) (([] : List UInt8)) ((7 : UInt8)) (0) (9)])⟩ : Tok) n = 14) ∧ (checkT (((1 : UInt8) :: List.replicate 31 (0 : UInt8))) (⟨(1 : UInt64), ([] : List UInt8), (7 : UInt8), 0, 9, ⟨none, 0, 0, []⟩, hmac (((1 : UInt8) :: List.replicate 31 (0 : UInt8))) (framed [headB ((1 : UInt64)) (([] : List UInt8)) ((7 : UInt8)) (0) (9)])⟩ : Tok) n = 0 ↔ 0 ≤ n ∧ n < 9) := fun n => checkT_iff (((1 : UInt8) :: List.replicate 31 (0 : UInt8))) (⟨(1 : UInt64), ([] : List UInt8), (7 : UInt8), 0, 9, ⟨none, 0, 0, []⟩, hmac (((1 : UInt8) :: List.replicate 31 (0 : UInt8))) (framed [headB ((1 : UInt64)) (([] : List UInt8)) ((7 : UInt8)) (0) (9)])⟩ : Tok) n (by rfl) (by rfl)
  have c2 : ∀ n, (checkT (((1 : UInt8) :: List.replicate 31 (0 : UInt8))) (⟨(1 : UInt64), ([] : List UInt8), (7 : UInt8), 0, 9, ⟨hd a3, 0 + 1, c4, ([] : List Cav) ++ [((1 : UInt8), 5)]⟩, onF (hmac (((1 : UInt8) :: List.replicate 31 (0 : UInt8))) (framed [headB ((1 : UInt64)) (([] : List UInt8)) ((7 : UInt8)) (0) (9)])) [((1 : UInt8), 5)]⟩ : Tok) n = 0 ∨ checkT (((1 : UInt8) :: List.replicate 31 (0 : UInt8))) (⟨(1 : UInt64), ([] : List UInt8), (7 : UInt8), 0, 9, ⟨hd a3, 0 + 1, c4, ([] : List Cav) ++ [((1 : UInt8), 5)]⟩, onF (hmac (((1 : UInt8) :: List.replicate 31 (0 : UInt8))) (framed [headB ((1 : UInt64)) (([] : List UInt8)) ((7 : UInt8)) (0) (9)])) [((1 : UInt8), 5)]⟩ : Tok) n = 14) ∧ (checkT (((1 : UInt8) :: List.replicate 31 (0 : UInt8))) (⟨(1 : UInt64), ([] : List UInt8), (7 : UInt8), 0, 9, ⟨hd a3, 0 + 1, c4, ([] : List Cav) ++ [((1 : UInt8), 5)]⟩, onF (hmac (((1 : UInt8) :: List.replicate 31 (0 : UInt8))) (framed [headB ((1 : UInt64)) (([] : List UInt8)) ((7 : UInt8)) (0) (9)])) [((1 : UInt8), 5)]⟩ : Tok) n = 0 ↔ 0 ≤ n ∧ n < 5) := fun n => checkT_iff (((1 : UInt8) :: List.replicate 31 (0 : UInt8))) (⟨(1 : UInt64), ([] : List UInt8), (7 : UInt8), 0, 9, ⟨hd a3, 0 + 1, c4, ([] : List Cav) ++ [((1 : UInt8), 5)]⟩, onF (hmac (((1 : UInt8) :: List.replicate 31 (0 : UInt8))) (framed [headB ((1 : UInt64)) (([] : List UInt8)) ((7 : UInt8)) (0) (9)])) [((1 : UInt8), 5)]⟩ : Tok) n (by first | rfl | (simp [mayT]; decide)) (by rfl)
  repeat refine c_seq ?_
  refine c_region ?_
  refine l_op (o_val (r_mv) ?_)
  refine l_op (o_val (r_bin (a := 0) (b := 0) rfl rfl (fun _ => b_eqlB true (decide_eq_true (by decide)))) ?_)
  refine l_op (o_val (r_mv) ?_)
  refine l_yes rfl rfl rfl (o_val (r_mv) ?_)
  refine l_yes rfl rfl rfl (o_val (r_bin (a := 0) (b := 0) rfl rfl (fun _ => b_eqlB true (decide_eq_true (by decide)))) ?_)
  refine l_op (o_val (r_pick rfl) ?_)
  refine l_op (o_val (r_mv) ?_)
  refine l_yes rfl rfl rfl (o_val (r_ldAA (l := ((1 : UInt8) :: List.replicate 31 (0 : UInt8))) H (i := 0) rfl rfl rt31 (show (((1 : UInt8) :: List.replicate 31 (0 : UInt8))).length = 32 from rfl)) ?_)
  refine l_yes rfl rfl rfl (o_val (r_ldA (C := [V64 (1 : UInt64), .string ⟨(([] : List UInt8)).toArray⟩, V8 (7 : UInt8), VI 0, VI 9, .slice none 0 0] ++ (hmac (((1 : UInt8) :: List.replicate 31 (0 : UInt8))) (framed [headB ((1 : UInt64)) (([] : List UInt8)) ((7 : UInt8)) (0) (9)])).map V8) H (i := 1) rfl rfl rt76 (by rw [List.length_append, List.length_map, (show (hmac (((1 : UInt8) :: List.replicate 31 (0 : UInt8))) (framed [headB ((1 : UInt64)) (([] : List UInt8)) ((7 : UInt8)) (0) (9)])).length = 32 from hmac_len _ _)]; rfl)) ?_)
  refine l_yes rfl rfl rfl (o_callR Try.func77 rfl rfl rfl (check14_ret _ (((1 : UInt8) :: List.replicate 31 (0 : UInt8))) (show (((1 : UInt8) :: List.replicate 31 (0 : UInt8))).length = 32 from rfl) (⟨(1 : UInt64), ([] : List UInt8), (7 : UInt8), 0, 9, ⟨none, 0, 0, []⟩, hmac (((1 : UInt8) :: List.replicate 31 (0 : UInt8))) (framed [headB ((1 : UInt64)) (([] : List UInt8)) ((7 : UInt8)) (0) (9)])⟩ : Tok) (Gl.ok_nil _) (show (hmac (((1 : UInt8) :: List.replicate 31 (0 : UInt8))) (framed [headB ((1 : UInt64)) (([] : List UInt8)) ((7 : UInt8)) (0) (9)])).length = 32 from hmac_len _ _) (by first | omega | (dsimp only; omega) | simp) (8)) ?_)
  rintro _ w ⟨rfl, Hc⟩
  replace H : Hp w0 w [] ([.blk b1 ((((1 : UInt8) :: List.replicate 31 (0 : UInt8))).map V8) 31, .blk b2 ([V64 (1 : UInt64), .string ⟨(([] : List UInt8)).toArray⟩, V8 (7 : UInt8), VI 0, VI 9, .slice none 0 0] ++ (hmac (((1 : UInt8) :: List.replicate 31 (0 : UInt8))) (framed [headB ((1 : UInt64)) (([] : List UInt8)) ((7 : UInt8)) (0) (9)])).map V8) 76, .own a3 (0 + 1) c4 ((([] : List Cav) ++ [((1 : UInt8), 5)]).flatMap cavE) 78 2, .blk b5 ([V64 (1 : UInt64), .string ⟨(([] : List UInt8)).toArray⟩, V8 (7 : UInt8), VI 0, VI 9, .slice (hd a3) (0 + 1) c4] ++ (onF (hmac (((1 : UInt8) :: List.replicate 31 (0 : UInt8))) (framed [headB ((1 : UInt64)) (([] : List UInt8)) ((7 : UInt8)) (0) (9)])) [((1 : UInt8), 5)]).map V8) 76]) := H.call Hc
  clear Hc
  refine l_yes rfl rfl rfl (o_val (r_bin (a := checkT (((1 : UInt8) :: List.replicate 31 (0 : UInt8))) (⟨(1 : UInt64), ([] : List UInt8), (7 : UInt8), 0, 9, ⟨none, 0, 0, []⟩, hmac (((1 : UInt8) :: List.replicate 31 (0 : UInt8))) (framed [headB ((1 : UInt64)) (([] : List UInt8)) ((7 : UInt8)) (0) (9)])⟩ : Tok) (8)) (b := 0) rfl rfl (fun _ => b_eqlB true (decide_eq_true (by have := c1 8; omega)))) ?_)
  refine l_op (o_val (r_pick rfl) ?_)
  refine l_op (o_val (r_mv) ?_)
  refine l_yes rfl rfl rfl (o_val (r_ldAA (l := ((1 : UInt8) :: List.replicate 31 (0 : UInt8))) H (i := 0) rfl rfl rt31 (show (((1 : UInt8) :: List.replicate 31 (0 : UInt8))).length = 32 from rfl)) ?_)
  refine l_yes rfl rfl rfl (o_val (r_ldA (C := [V64 (1 : UInt64), .string ⟨(([] : List UInt8)).toArray⟩, V8 (7 : UInt8), VI 0, VI 9, .slice none 0 0] ++ (hmac (((1 : UInt8) :: List.replicate 31 (0 : UInt8))) (framed [headB ((1 : UInt64)) (([] : List UInt8)) ((7 : UInt8)) (0) (9)])).map V8) H (i := 1) rfl rfl rt76 (by rw [List.length_append, List.length_map, (show (hmac (((1 : UInt8) :: List.replicate 31 (0 : UInt8))) (framed [headB ((1 : UInt64)) (([] : List UInt8)) ((7 : UInt8)) (0) (9)])).length = 32 from hmac_len _ _)]; rfl)) ?_)
  refine l_yes rfl rfl rfl (o_callR Try.func77 rfl rfl rfl (check14_ret _ (((1 : UInt8) :: List.replicate 31 (0 : UInt8))) (show (((1 : UInt8) :: List.replicate 31 (0 : UInt8))).length = 32 from rfl) (⟨(1 : UInt64), ([] : List UInt8), (7 : UInt8), 0, 9, ⟨none, 0, 0, []⟩, hmac (((1 : UInt8) :: List.replicate 31 (0 : UInt8))) (framed [headB ((1 : UInt64)) (([] : List UInt8)) ((7 : UInt8)) (0) (9)])⟩ : Tok) (Gl.ok_nil _) (show (hmac (((1 : UInt8) :: List.replicate 31 (0 : UInt8))) (framed [headB ((1 : UInt64)) (([] : List UInt8)) ((7 : UInt8)) (0) (9)])).length = 32 from hmac_len _ _) (by first | omega | (dsimp only; omega) | simp) (9)) ?_)
  rintro _ w ⟨rfl, Hc⟩
  replace H : Hp w0 w [] ([.blk b1 ((((1 : UInt8) :: List.replicate 31 (0 : UInt8))).map V8) 31, .blk b2 ([V64 (1 : UInt64), .string ⟨(([] : List UInt8)).toArray⟩, V8 (7 : UInt8), VI 0, VI 9, .slice none 0 0] ++ (hmac (((1 : UInt8) :: List.replicate 31 (0 : UInt8))) (framed [headB ((1 : UInt64)) (([] : List UInt8)) ((7 : UInt8)) (0) (9)])).map V8) 76, .own a3 (0 + 1) c4 ((([] : List Cav) ++ [((1 : UInt8), 5)]).flatMap cavE) 78 2, .blk b5 ([V64 (1 : UInt64), .string ⟨(([] : List UInt8)).toArray⟩, V8 (7 : UInt8), VI 0, VI 9, .slice (hd a3) (0 + 1) c4] ++ (onF (hmac (((1 : UInt8) :: List.replicate 31 (0 : UInt8))) (framed [headB ((1 : UInt64)) (([] : List UInt8)) ((7 : UInt8)) (0) (9)])) [((1 : UInt8), 5)]).map V8) 76]) := H.call Hc
  clear Hc
  refine l_yes rfl rfl rfl (o_val (r_bin (a := checkT (((1 : UInt8) :: List.replicate 31 (0 : UInt8))) (⟨(1 : UInt64), ([] : List UInt8), (7 : UInt8), 0, 9, ⟨none, 0, 0, []⟩, hmac (((1 : UInt8) :: List.replicate 31 (0 : UInt8))) (framed [headB ((1 : UInt64)) (([] : List UInt8)) ((7 : UInt8)) (0) (9)])⟩ : Tok) (9)) (b := 14) rfl rfl (fun _ => b_eqlB true (decide_eq_true (by have := c1 9; omega)))) ?_)
  refine l_op (o_val (r_pick rfl) ?_)
  refine l_op (o_val (r_mv) ?_)
  refine l_yes rfl rfl rfl (o_val (r_ldAA (l := ((1 : UInt8) :: List.replicate 31 (0 : UInt8))) H (i := 0) rfl rfl rt31 (show (((1 : UInt8) :: List.replicate 31 (0 : UInt8))).length = 32 from rfl)) ?_)
  refine l_yes rfl rfl rfl (o_val (r_ldA (C := [V64 (1 : UInt64), .string ⟨(([] : List UInt8)).toArray⟩, V8 (7 : UInt8), VI 0, VI 9, .slice (hd a3) (0 + 1) c4] ++ (onF (hmac (((1 : UInt8) :: List.replicate 31 (0 : UInt8))) (framed [headB ((1 : UInt64)) (([] : List UInt8)) ((7 : UInt8)) (0) (9)])) [((1 : UInt8), 5)]).map V8) H (i := 3) rfl rfl rt76 (by rw [List.length_append, List.length_map, (show (onF (hmac (((1 : UInt8) :: List.replicate 31 (0 : UInt8))) (framed [headB ((1 : UInt64)) (([] : List UInt8)) ((7 : UInt8)) (0) (9)])) [((1 : UInt8), 5)]).length = 32 from onF_len _ (show (hmac (((1 : UInt8) :: List.replicate 31 (0 : UInt8))) (framed [headB ((1 : UInt64)) (([] : List UInt8)) ((7 : UInt8)) (0) (9)])).length = 32 from hmac_len _ _) _)]; rfl)) ?_)
  refine l_yes rfl rfl rfl (o_callR Try.func77 rfl rfl rfl (check14_ret _ (((1 : UInt8) :: List.replicate 31 (0 : UInt8))) (show (((1 : UInt8) :: List.replicate 31 (0 : UInt8))).length = 32 from rfl) (⟨(1 : UInt64), ([] : List UInt8), (7 : UInt8), 0, 9, ⟨hd a3, 0 + 1, c4, ([] : List Cav) ++ [((1 : UInt8), 5)]⟩, onF (hmac (((1 : UInt8) :: List.replicate 31 (0 : UInt8))) (framed [headB ((1 : UInt64)) (([] : List UInt8)) ((7 : UInt8)) (0) (9)])) [((1 : UInt8), 5)]⟩ : Tok) (H.glOwn (i := 2) rfl (by decide) (fun _ _ => rfl)) (show (onF (hmac (((1 : UInt8) :: List.replicate 31 (0 : UInt8))) (framed [headB ((1 : UInt64)) (([] : List UInt8)) ((7 : UInt8)) (0) (9)])) [((1 : UInt8), 5)]).length = 32 from onF_len _ (show (hmac (((1 : UInt8) :: List.replicate 31 (0 : UInt8))) (framed [headB ((1 : UInt64)) (([] : List UInt8)) ((7 : UInt8)) (0) (9)])).length = 32 from hmac_len _ _) _) (by first | omega | (dsimp only; omega) | simp) (6)) ?_)
  rintro _ w ⟨rfl, Hc⟩
  replace H : Hp w0 w [] ([.blk b1 ((((1 : UInt8) :: List.replicate 31 (0 : UInt8))).map V8) 31, .blk b2 ([V64 (1 : UInt64), .string ⟨(([] : List UInt8)).toArray⟩, V8 (7 : UInt8), VI 0, VI 9, .slice none 0 0] ++ (hmac (((1 : UInt8) :: List.replicate 31 (0 : UInt8))) (framed [headB ((1 : UInt64)) (([] : List UInt8)) ((7 : UInt8)) (0) (9)])).map V8) 76, .own a3 (0 + 1) c4 ((([] : List Cav) ++ [((1 : UInt8), 5)]).flatMap cavE) 78 2, .blk b5 ([V64 (1 : UInt64), .string ⟨(([] : List UInt8)).toArray⟩, V8 (7 : UInt8), VI 0, VI 9, .slice (hd a3) (0 + 1) c4] ++ (onF (hmac (((1 : UInt8) :: List.replicate 31 (0 : UInt8))) (framed [headB ((1 : UInt64)) (([] : List UInt8)) ((7 : UInt8)) (0) (9)])) [((1 : UInt8), 5)]).map V8) 76]) := H.call Hc
  clear Hc
  refine l_yes rfl rfl rfl (o_val (r_bin (a := checkT (((1 : UInt8) :: List.replicate 31 (0 : UInt8))) (⟨(1 : UInt64), ([] : List UInt8), (7 : UInt8), 0, 9, ⟨hd a3, 0 + 1, c4, ([] : List Cav) ++ [((1 : UInt8), 5)]⟩, onF (hmac (((1 : UInt8) :: List.replicate 31 (0 : UInt8))) (framed [headB ((1 : UInt64)) (([] : List UInt8)) ((7 : UInt8)) (0) (9)])) [((1 : UInt8), 5)]⟩ : Tok) (6)) (b := 14) rfl rfl (fun _ => b_eqlB true (decide_eq_true (by have := c2 6; omega)))) ?_)
  refine l_op (o_val (r_pick rfl) ?_)
  refine l_op (o_val (r_mv) ?_)
  refine l_yes rfl rfl rfl (o_val (r_mv) ?_)
  refine l_yes rfl rfl rfl (o_val (r_bin (a := (((effF ((7 : UInt8)) (9) (([] : List Cav) ++ [((1 : UInt8), 5)])).1).toNat : Int)) (b := 1) rfl rfl (fun _ => b_eqlB true (decide_eq_true (by rfl)))) ?_)
  refine l_op (o_val (r_pick rfl) ?_)
  refine l_op (o_val (r_mv) ?_)
  refine l_yes rfl rfl rfl (o_val (r_mv) ?_)
  refine l_yes rfl rfl rfl (o_val (r_bin (a := (effF ((7 : UInt8)) (9) (([] : List Cav) ++ [((1 : UInt8), 5)])).2) (b := 5) rfl rfl (fun _ => b_eqlB true (decide_eq_true (by rfl)))) ?_)
  refine l_op (o_val (r_pick rfl) ?_)
  refine l_op (o_val (r_as) ?_)
  first | refine l_end ?_ | refine l_nil ?_
  refine c_ret ?_
  try dsimp only [Exit.then, Exit.inBlock]
  refine e_ret1 (v := .bool true) Try.results65 rfl ?_
  refine ⟨_, rfl, ?_⟩
  exact ⟨rfl, H.sub (List.nil_sublist _)⟩
end Go.Proofs.Ytjmbbhnpfmblpaa
