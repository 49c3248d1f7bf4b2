import Derived.Test.YtjmbbhnpfmblpaaSha2
/- sha: a new hash; a block mixed in. -/
namespace Go.Proofs.Ytjmbbhnpfmblpaa
open Go
set_option maxRecDepth 100000
/-- the cells of a hash. -/
def hashC (s : S8) (wt : List UInt8) (m : UInt64) : List Value := .bool true :: (s.l.map V32 ++ (wt.map V8 ++ [V64 m]))
theorem all_V32 (l : List UInt32) : (l.map V32).toArray.all (·.oneCell') = true := by
  rw [List.all_toArray]; simp [Value.oneCell']
/-- the cells of a hash whose words are l. -/
def hashL (l : List UInt32) (wt : List UInt8) (m : UInt64) : List Value := .bool true :: (l.map V32 ++ (wt.map V8 ++ [V64 m]))
theorem hashL_get (l : List UInt32) (wt : List UInt8) (m : UInt64) (i : Nat) (h : i < l.length) : (hashL l wt m)[1 + i]? = some (V32 (l.getD i 0)) := by
  rw [hashL, Nat.add_comm, List.getElem?_cons_succ, List.getElem?_append_left (by simpa using h)]
  simp [h]
theorem hashL_set (l : List UInt32) (wt : List UInt8) (m : UInt64) (i : Nat) (v : UInt32) (h : i < l.length) : (hashL l wt m).set (1 + i) (V32 v) = hashL (l.set i v) wt m := by
  rw [hashL, Nat.add_comm, List.set_cons_succ, List.set_append_left _ _ (by simpa using h)]
  simp [hashL, List.map_set]
def parts (A B : List UInt32) (i : Nat) : List UInt32 := A.take i ++ B.drop i
theorem parts_length (A B : List UInt32) (i : Nat) (h : A.length = B.length) (hi : i ≤ A.length) : (parts A B i).length = B.length := by simp only [parts, List.length_append, List.length_take, List.length_drop]; omega
theorem parts_get (A B : List UInt32) (i : Nat) (h : A.length = B.length) (hi : i < A.length) : (parts A B i).getD i 0 = B.getD i 0 := by
  have : (A.take i).length = i := by rw [List.length_take]; omega
  simp only [parts, List.getD_eq_getElem?_getD]
  rw [List.getElem?_append_right (by omega), this]; simp
theorem parts_set (A B : List UInt32) (i : Nat) (h : A.length = B.length) (hi : i < A.length) : (parts A B i).set i (A.getD i 0) = parts A B (i + 1) := by
  have h1 : (A.take i).length = i := by rw [List.length_take]; omega
  apply List.ext_getElem?
  intro j
  rw [List.getElem?_set]
  have hl : (parts A B i).length = B.length := parts_length A B i h (by omega)
  by_cases h2 : i = j
  · subst h2
    rw [if_pos rfl, if_pos (by omega)]
    rw [parts, List.getElem?_append_left (by rw [List.length_take]; omega), List.getElem?_take_of_lt (by omega)]
    simp [hi]
  · rw [if_neg h2]
    have h4 : (A.take (i + 1)).length = i + 1 := by rw [List.length_take]; omega
    by_cases h3 : j < i
    · rw [parts, parts, List.getElem?_append_left (by omega), List.getElem?_append_left (by omega), List.getElem?_take_of_lt h3, List.getElem?_take_of_lt (by omega)]
    · rw [parts, parts, List.getElem?_append_right (by omega), List.getElem?_append_right (by omega), h1, h4, List.getElem?_drop, List.getElem?_drop]
      congr 1; omega
theorem add_get (s t : S8) (i : Nat) (hi : i < 8) : s.l.getD i 0 + t.l.getD i 0 = (addS s t).l.getD i 0 := by
  have e : (addS s t).l = List.zipWith (· + ·) s.l t.l := rfl
  have h1 : s.l.length = 8 := rfl
  have h2 : t.l.length = 8 := rfl
  rw [e]
  simp only [List.getD_eq_getElem?_getD, List.getElem?_zipWith]
  rw [List.getElem?_eq_getElem (by omega : i < s.l.length), List.getElem?_eq_getElem (by omega : i < t.l.length)]
  rfl
theorem primes_ret (w0 : World) : Ret Try.prog 135 [] w0 fun v w' => v = .agg (pad64 primeWords).toArray ∧ Hp w0 w' [] [] := by
  refine ret_mk Try.func135 rfl Try.ntmps135 (by simp) ?_
  have H := Hp.refl w0 []
  repeat refine c_seq ?_
  refine c_region ?_
  refine l_op (o_alloc H zc149 (fun b0 w H hb0 => ?_))
  first | refine l_end ?_ | refine l_nil ?_
  repeat refine c_seq ?_
  refine c_region ?_
  refine l_op (o_bld' (cells := (pad64 primeWords).toArray) bd149 rfl (by kernel_rfl) ?_)
  refine l_op (o_stw H (i := 0) rfl rfl rfl (by rw [cs149]; rfl) (by kernel_rfl) (by rfl) (fun w H => ?_))
  first | refine l_end ?_ | refine l_nil ?_
  refine c_ret (e_retc Try.results135 H (i := 0) rfl rfl rt149 (by rfl) ⟨_, rfl, rfl, ?_⟩)
  exact H.sub (List.nil_sublist _)
theorem new_ret (w0 : World) : Ret Try.prog 34 [] w0 fun v w' => ∃ b, v = .pointer (some ⟨b, 0, none⟩) ∧ Hp w0 w' [] [.blk b (hashC initS (List.replicate 64 0) 0) 52] := by
  refine ret_mk Try.func34 rfl Try.ntmps34 (by simp) ?_
  have H := Hp.refl w0 []
  repeat refine c_seq ?_
  refine c_region ?_
  refine l_op (o_as ?_)
  first | refine l_end ?_ | refine l_nil ?_
  repeat refine c_seq ?_
  refine c_region ?_
  refine l_op (o_bld' (cells := (initS.l.map V32).toArray) bd49 rfl (by kernel_rfl) ?_)
  refine l_op (o_bld' (cells := (hashC initS (List.replicate 64 0) 0).toArray) bd52 rfl (by kernel_rfl) ?_)
  refine l_op (o_box H rfl (fun b w H hb => ?_))
  refine l_op (o_as ?_)
  first | refine l_end ?_ | refine l_nil ?_
  exact c_ret (e_ret1 Try.results34 rfl ⟨_, rfl, b, rfl, H⟩)
theorem hashC_length (s : S8) (wt : List UInt8) (m : UInt64) (h : wt.length = 64) : (hashC s wt m).length = 74 := by simp [hashC, S8.l, h]
theorem hashC_wait (s : S8) (wt : List UInt8) (m : UInt64) (h : wt.length = 64) : ((hashC s wt m).drop 9).take 64 = wt.map V8 := by
  simp [hashC, S8.l, List.drop_append, h]
theorem hashC_num (s : S8) (wt : List UInt8) (m : UInt64) (h : wt.length = 64) : (hashC s wt m)[73]? = some (V64 m) := by
  simp [hashC, S8.l, h]
theorem hashC_setn (s : S8) (wt : List UInt8) (m m' : UInt64) (h : wt.length = 64) : (hashC s wt m).set 73 (V64 m') = hashC s wt m' := by
  simp [hashC, S8.l, h]
attribute [local irreducible] sched rnds
set_option maxHeartbeats 8000000 in
theorem mix_ret (w0 : World) (hb : Nat) (st : S8) (wt : List UInt8) (m : UInt64) (hwt : wt.length = 64) (hH : w0.heap[hb]? = some (.cells (hashC st wt m).toArray 52 (0, 0))) :
    Ret Try.prog 105 [.pointer (some ⟨hb, 0, none⟩)] w0 fun v w' => v = .tuple #[] ∧ Hp w0 w' [hb] [.blk hb (hashC (comp st wt) wt m) 52] := by
  refine ret_mk Try.func105 rfl Try.ntmps105 (by simp) ?_
  have H := Hp.start w0 (.blk hb (hashC st wt m) 52) hb hH rfl
  have hl48 : (pad64 (sched wt 48)).length = 64 := pad64_length _ (by rw [sched_length]; omega)
  have h1c : (pad64 (sched wt 48)).toArray.all (·.oneCell') = true := by
    rw [List.all_toArray]; simp [pad64, Value.oneCell']
  refine c_seq ?_
  refine c_piece (ι := Nat × Nat × Nat) (fun i => [(2, .pointer (some ⟨i.1, 0, none⟩)), (3, .pointer (some ⟨i.2.1, 0, none⟩)), (4, .pointer (some ⟨i.2.2, 0, none⟩)), (0, .pointer (some ⟨hb, 0, none⟩))])
    (fun i w => Hp w0 w [hb] [.blk hb (hashC st wt m) 52, .blk i.1 (pad64 primeWords) 149, .blk i.2.1 (pad64 (sched wt 48)) 149, .blk i.2.2 (st.l.map V32) 49]) ?_ ?_
  · as_aux_lemma =>
    repeat refine c_seq ?_
    refine wp_held (fun w => Hp w0 w [hb] [.blk hb (hashC st wt m) 52]) mixed ?_
    replace H := H.drew
    have HS : (fun w => Hp w0 w [hb] [.blk hb (hashC st wt m) 52]) _ := H.sub (List.Sublist.cons_cons _ (List.nil_sublist _))
    refine t_take 1 rfl (by kernel_rfl) (by kernel_rfl) (by kernel_rfl) (fun _ _ _ h => h) (fun w HS => r_mv) HS ?_
    refine t_take 2 rfl (by kernel_rfl) (by kernel_rfl) (by kernel_rfl) (fun _ _ _ h => h) (fun w HS => r_nilc rfl) HS ?_
    refine t_take 3 rfl (by kernel_rfl) (by kernel_rfl) (by kernel_rfl) (fun _ _ _ h => h) (fun w HS => r_fa rfl fo52_2) HS ?_
    refine t_take 5 rfl (by kernel_rfl) (by kernel_rfl) (by kernel_rfl) (fun _ _ _ h => h) (fun w HS => r_mv) HS ?_
    refine t_take 6 rfl (by kernel_rfl) (by kernel_rfl) (by kernel_rfl) (fun _ _ _ h => h) (fun w HS => r_nilc rfl) HS ?_
    refine t_take 7 rfl (by kernel_rfl) (by kernel_rfl) (by kernel_rfl) (fun _ _ _ h => h) (fun w HS => r_fa rfl fo52_1) HS ?_
    refine t_take 8 rfl (by kernel_rfl) (by kernel_rfl) (by kernel_rfl) (fun _ _ _ h => h)  (fun w HS => r_ldr HS (i := 0) rfl rfl rt49 (by rw [hashC_length _ _ _ hwt]; decide)) HS ?_
    refine lat_start fun G hG => ?_
    have s_11111 : ∀ (b9 : Nat) (b10 : Nat) (b11 : Nat) (w : World), Hp w0 w [hb] [.blk hb (hashC st wt m) 52, .blk b9 (List.replicate 64 (Value.int .u32 0)) 149, .blk b10 (List.replicate 64 (Value.int .u32 0)) 149, .blk b11 (List.replicate 8 (Value.int .u32 0)) 49] → ∀ τ, G 3 #[true, true, true, true, true, true, true, true, true, true, true, true, false, false, false] (ups τ [(0, .pointer (some ⟨hb, 0, none⟩)), (14, .pointer (some ⟨hb, 0 + 9, none⟩)), (19, .agg (st.l.map V32).toArray), (11, .agg (pad64 primeWords).toArray), (15, .agg (pad64 (sched wt 48)).toArray), (2, .pointer (some ⟨b9, 0, none⟩)), (3, .pointer (some ⟨b10, 0, none⟩)), (4, .pointer (some ⟨b11, 0, none⟩))]) w := by
      intro   b9 b10 b11 w H  τ
      rw [hG]
      have HS : (fun w => Hp w0 w [hb] [.blk hb (hashC st wt m) 52]) _ := H.sub (List.Sublist.cons_cons _ (List.nil_sublist _))
      refine t_step 12 rfl (by kernel_rfl) (o_stw H (i := 1) rfl rfl rfl (by rw [cs149]; rfl) (by kernel_rfl) (by rfl) (fun w H => ?_))
      refine ⟨H.sub (List.Sublist.cons_cons _ (List.nil_sublist _)), ?_⟩
      refine t_step 13 rfl (by kernel_rfl) (o_stw H (i := 2) rfl rfl rfl (by rw [cs149]; simp [hl48]) h1c (by simp [hl48]) (fun w H => ?_))
      refine ⟨H.sub (List.Sublist.cons_cons _ (List.nil_sublist _)), ?_⟩
      refine t_step 14 rfl (by kernel_rfl) (o_stw H (i := 3) rfl rfl rfl (by rw [cs49]; rfl) (all_V32 _) (by rfl) (fun w H => ?_))
      refine ⟨H.sub (List.Sublist.cons_cons _ (List.nil_sublist _)), ?_⟩
      refine t_done (by kernel_rfl) ?_
      exact fit_end (b9, b10, b11) ⟨rfl, rfl, rfl, rfl, trivial⟩ H
    have s_11110 : ∀ (b9 : Nat) (b10 : Nat) (w : World), Hp w0 w [hb] [.blk hb (hashC st wt m) 52, .blk b9 (List.replicate 64 (Value.int .u32 0)) 149, .blk b10 (List.replicate 64 (Value.int .u32 0)) 149] → ∀ τ, G 4 #[true, true, true, true, true, true, true, true, true, true, true, false, false, false, false] (ups τ [(0, .pointer (some ⟨hb, 0, none⟩)), (14, .pointer (some ⟨hb, 0 + 9, none⟩)), (19, .agg (st.l.map V32).toArray), (11, .agg (pad64 primeWords).toArray), (15, .agg (pad64 (sched wt 48)).toArray), (2, .pointer (some ⟨b9, 0, none⟩)), (3, .pointer (some ⟨b10, 0, none⟩))]) w := by
      intro   b9 b10 w H  τ
      rw [hG]
      refine t_all [11] (by kernel_rfl) (by simp) ?_
      refine all_cons (w_op 11 rfl ?_) ?_
      · refine (o_alloc H zc49 (fun b11 w H _ => ?_))
        exact ⟨H.sub (List.Sublist.cons_cons _ (List.nil_sublist _)), lat_use hG (s_11111   b9 b10 b11 _ (H.perm (perm_ins [.blk hb (hashC st wt m) 52, .blk b9 (List.replicate 64 (Value.int .u32 0)) 149, .blk b10 (List.replicate 64 (Value.int .u32 0)) 149] [] (.blk b11 (List.replicate 8 (Value.int .u32 0)) 49))) ) ⟨rfl, rfl, rfl, rfl, rfl, rfl, rfl, rfl, trivial⟩⟩
      exact all_nil
    have s_11101 : ∀ (b9 : Nat) (b11 : Nat) (w : World), Hp w0 w [hb] [.blk hb (hashC st wt m) 52, .blk b9 (List.replicate 64 (Value.int .u32 0)) 149, .blk b11 (List.replicate 8 (Value.int .u32 0)) 49] → ∀ τ, G 4 #[true, true, true, true, true, true, true, true, true, true, false, true, false, false, false] (ups τ [(0, .pointer (some ⟨hb, 0, none⟩)), (14, .pointer (some ⟨hb, 0 + 9, none⟩)), (19, .agg (st.l.map V32).toArray), (11, .agg (pad64 primeWords).toArray), (15, .agg (pad64 (sched wt 48)).toArray), (2, .pointer (some ⟨b9, 0, none⟩)), (4, .pointer (some ⟨b11, 0, none⟩))]) w := by
      intro   b9 b11 w H  τ
      rw [hG]
      refine t_all [10] (by kernel_rfl) (by simp) ?_
      refine all_cons (w_op 10 rfl ?_) ?_
      · refine (o_alloc H zc149 (fun b10 w H _ => ?_))
        exact ⟨H.sub (List.Sublist.cons_cons _ (List.nil_sublist _)), lat_use hG (s_11111   b9 b10 b11 _ (H.perm (perm_ins [.blk hb (hashC st wt m) 52, .blk b9 (List.replicate 64 (Value.int .u32 0)) 149] [.blk b11 (List.replicate 8 (Value.int .u32 0)) 49] (.blk b10 (List.replicate 64 (Value.int .u32 0)) 149))) ) ⟨rfl, rfl, rfl, rfl, rfl, rfl, rfl, rfl, trivial⟩⟩
      exact all_nil
    have s_11100 : ∀ (b9 : Nat) (w : World), Hp w0 w [hb] [.blk hb (hashC st wt m) 52, .blk b9 (List.replicate 64 (Value.int .u32 0)) 149] → ∀ τ, G 5 #[true, true, true, true, true, true, true, true, true, true, false, false, false, false, false] (ups τ [(0, .pointer (some ⟨hb, 0, none⟩)), (14, .pointer (some ⟨hb, 0 + 9, none⟩)), (19, .agg (st.l.map V32).toArray), (11, .agg (pad64 primeWords).toArray), (15, .agg (pad64 (sched wt 48)).toArray), (2, .pointer (some ⟨b9, 0, none⟩))]) w := by
      intro   b9 w H  τ
      rw [hG]
      refine t_all [10, 11] (by kernel_rfl) (by simp) ?_
      refine all_cons (w_op 10 rfl ?_) ?_
      · refine (o_alloc H zc149 (fun b10 w H _ => ?_))
        exact ⟨H.sub (List.Sublist.cons_cons _ (List.nil_sublist _)), lat_use hG (s_11110   b9 b10 _ (H.perm (perm_ins [.blk hb (hashC st wt m) 52, .blk b9 (List.replicate 64 (Value.int .u32 0)) 149] [] (.blk b10 (List.replicate 64 (Value.int .u32 0)) 149))) ) ⟨rfl, rfl, rfl, rfl, rfl, rfl, rfl, trivial⟩⟩
      refine all_cons (w_op 11 rfl ?_) ?_
      · refine (o_alloc H zc49 (fun b11 w H _ => ?_))
        exact ⟨H.sub (List.Sublist.cons_cons _ (List.nil_sublist _)), lat_use hG (s_11101   b9 b11 _ (H.perm (perm_ins [.blk hb (hashC st wt m) 52, .blk b9 (List.replicate 64 (Value.int .u32 0)) 149] [] (.blk b11 (List.replicate 8 (Value.int .u32 0)) 49))) ) ⟨rfl, rfl, rfl, rfl, rfl, rfl, rfl, trivial⟩⟩
      exact all_nil
    have s_11011 : ∀ (b10 : Nat) (b11 : Nat) (w : World), Hp w0 w [hb] [.blk hb (hashC st wt m) 52, .blk b10 (List.replicate 64 (Value.int .u32 0)) 149, .blk b11 (List.replicate 8 (Value.int .u32 0)) 49] → ∀ τ, G 4 #[true, true, true, true, true, true, true, true, true, false, true, true, false, false, false] (ups τ [(0, .pointer (some ⟨hb, 0, none⟩)), (14, .pointer (some ⟨hb, 0 + 9, none⟩)), (19, .agg (st.l.map V32).toArray), (11, .agg (pad64 primeWords).toArray), (15, .agg (pad64 (sched wt 48)).toArray), (3, .pointer (some ⟨b10, 0, none⟩)), (4, .pointer (some ⟨b11, 0, none⟩))]) w := by
      intro   b10 b11 w H  τ
      rw [hG]
      refine t_all [9] (by kernel_rfl) (by simp) ?_
      refine all_cons (w_op 9 rfl ?_) ?_
      · refine (o_alloc H zc149 (fun b9 w H _ => ?_))
        exact ⟨H.sub (List.Sublist.cons_cons _ (List.nil_sublist _)), lat_use hG (s_11111   b9 b10 b11 _ (H.perm (perm_ins [.blk hb (hashC st wt m) 52] [.blk b10 (List.replicate 64 (Value.int .u32 0)) 149, .blk b11 (List.replicate 8 (Value.int .u32 0)) 49] (.blk b9 (List.replicate 64 (Value.int .u32 0)) 149))) ) ⟨rfl, rfl, rfl, rfl, rfl, rfl, rfl, rfl, trivial⟩⟩
      exact all_nil
    have s_11010 : ∀ (b10 : Nat) (w : World), Hp w0 w [hb] [.blk hb (hashC st wt m) 52, .blk b10 (List.replicate 64 (Value.int .u32 0)) 149] → ∀ τ, G 5 #[true, true, true, true, true, true, true, true, true, false, true, false, false, false, false] (ups τ [(0, .pointer (some ⟨hb, 0, none⟩)), (14, .pointer (some ⟨hb, 0 + 9, none⟩)), (19, .agg (st.l.map V32).toArray), (11, .agg (pad64 primeWords).toArray), (15, .agg (pad64 (sched wt 48)).toArray), (3, .pointer (some ⟨b10, 0, none⟩))]) w := by
      intro   b10 w H  τ
      rw [hG]
      refine t_all [9, 11] (by kernel_rfl) (by simp) ?_
      refine all_cons (w_op 9 rfl ?_) ?_
      · refine (o_alloc H zc149 (fun b9 w H _ => ?_))
        exact ⟨H.sub (List.Sublist.cons_cons _ (List.nil_sublist _)), lat_use hG (s_11110   b9 b10 _ (H.perm (perm_ins [.blk hb (hashC st wt m) 52] [.blk b10 (List.replicate 64 (Value.int .u32 0)) 149] (.blk b9 (List.replicate 64 (Value.int .u32 0)) 149))) ) ⟨rfl, rfl, rfl, rfl, rfl, rfl, rfl, trivial⟩⟩
      refine all_cons (w_op 11 rfl ?_) ?_
      · refine (o_alloc H zc49 (fun b11 w H _ => ?_))
        exact ⟨H.sub (List.Sublist.cons_cons _ (List.nil_sublist _)), lat_use hG (s_11011   b10 b11 _ (H.perm (perm_ins [.blk hb (hashC st wt m) 52, .blk b10 (List.replicate 64 (Value.int .u32 0)) 149] [] (.blk b11 (List.replicate 8 (Value.int .u32 0)) 49))) ) ⟨rfl, rfl, rfl, rfl, rfl, rfl, rfl, trivial⟩⟩
      exact all_nil
    have s_11001 : ∀ (b11 : Nat) (w : World), Hp w0 w [hb] [.blk hb (hashC st wt m) 52, .blk b11 (List.replicate 8 (Value.int .u32 0)) 49] → ∀ τ, G 5 #[true, true, true, true, true, true, true, true, true, false, false, true, false, false, false] (ups τ [(0, .pointer (some ⟨hb, 0, none⟩)), (14, .pointer (some ⟨hb, 0 + 9, none⟩)), (19, .agg (st.l.map V32).toArray), (11, .agg (pad64 primeWords).toArray), (15, .agg (pad64 (sched wt 48)).toArray), (4, .pointer (some ⟨b11, 0, none⟩))]) w := by
      intro   b11 w H  τ
      rw [hG]
      refine t_all [9, 10] (by kernel_rfl) (by simp) ?_
      refine all_cons (w_op 9 rfl ?_) ?_
      · refine (o_alloc H zc149 (fun b9 w H _ => ?_))
        exact ⟨H.sub (List.Sublist.cons_cons _ (List.nil_sublist _)), lat_use hG (s_11101   b9 b11 _ (H.perm (perm_ins [.blk hb (hashC st wt m) 52] [.blk b11 (List.replicate 8 (Value.int .u32 0)) 49] (.blk b9 (List.replicate 64 (Value.int .u32 0)) 149))) ) ⟨rfl, rfl, rfl, rfl, rfl, rfl, rfl, trivial⟩⟩
      refine all_cons (w_op 10 rfl ?_) ?_
      · refine (o_alloc H zc149 (fun b10 w H _ => ?_))
        exact ⟨H.sub (List.Sublist.cons_cons _ (List.nil_sublist _)), lat_use hG (s_11011   b10 b11 _ (H.perm (perm_ins [.blk hb (hashC st wt m) 52] [.blk b11 (List.replicate 8 (Value.int .u32 0)) 49] (.blk b10 (List.replicate 64 (Value.int .u32 0)) 149))) ) ⟨rfl, rfl, rfl, rfl, rfl, rfl, rfl, trivial⟩⟩
      exact all_nil
    have s_11000 : ∀  (w : World), Hp w0 w [hb] [.blk hb (hashC st wt m) 52] → ∀ τ, G 6 #[true, true, true, true, true, true, true, true, true, false, false, false, false, false, false] (ups τ [(0, .pointer (some ⟨hb, 0, none⟩)), (14, .pointer (some ⟨hb, 0 + 9, none⟩)), (19, .agg (st.l.map V32).toArray), (11, .agg (pad64 primeWords).toArray), (15, .agg (pad64 (sched wt 48)).toArray)]) w := by
      intro   w H  τ
      rw [hG]
      refine t_all [9, 10, 11] (by kernel_rfl) (by simp) ?_
      refine all_cons (w_op 9 rfl ?_) ?_
      · refine (o_alloc H zc149 (fun b9 w H _ => ?_))
        exact ⟨H.sub (List.Sublist.cons_cons _ (List.nil_sublist _)), lat_use hG (s_11100   b9 _ (H.perm (perm_ins [.blk hb (hashC st wt m) 52] [] (.blk b9 (List.replicate 64 (Value.int .u32 0)) 149))) ) ⟨rfl, rfl, rfl, rfl, rfl, rfl, trivial⟩⟩
      refine all_cons (w_op 10 rfl ?_) ?_
      · refine (o_alloc H zc149 (fun b10 w H _ => ?_))
        exact ⟨H.sub (List.Sublist.cons_cons _ (List.nil_sublist _)), lat_use hG (s_11010   b10 _ (H.perm (perm_ins [.blk hb (hashC st wt m) 52] [] (.blk b10 (List.replicate 64 (Value.int .u32 0)) 149))) ) ⟨rfl, rfl, rfl, rfl, rfl, rfl, trivial⟩⟩
      refine all_cons (w_op 11 rfl ?_) ?_
      · refine (o_alloc H zc49 (fun b11 w H _ => ?_))
        exact ⟨H.sub (List.Sublist.cons_cons _ (List.nil_sublist _)), lat_use hG (s_11001   b11 _ (H.perm (perm_ins [.blk hb (hashC st wt m) 52] [] (.blk b11 (List.replicate 8 (Value.int .u32 0)) 49))) ) ⟨rfl, rfl, rfl, rfl, rfl, rfl, trivial⟩⟩
      exact all_nil
    have s_10111 : ∀ (b9 : Nat) (b10 : Nat) (b11 : Nat) (w : World), Hp w0 w [hb] [.blk hb (hashC st wt m) 52, .blk b9 (List.replicate 64 (Value.int .u32 0)) 149, .blk b10 (List.replicate 64 (Value.int .u32 0)) 149, .blk b11 (List.replicate 8 (Value.int .u32 0)) 49] → ∀ τ, G 4 #[true, true, true, true, false, true, true, true, true, true, true, true, false, false, false] (ups τ [(0, .pointer (some ⟨hb, 0, none⟩)), (14, .pointer (some ⟨hb, 0 + 9, none⟩)), (19, .agg (st.l.map V32).toArray), (11, .agg (pad64 primeWords).toArray), (2, .pointer (some ⟨b9, 0, none⟩)), (3, .pointer (some ⟨b10, 0, none⟩)), (4, .pointer (some ⟨b11, 0, none⟩))]) w := by
      intro  b9 b10 b11 w H  τ
      rw [hG]
      refine t_all [4] (by kernel_rfl) (by simp) ?_
      refine all_cons (w_op 4 rfl ?_) ?_
      · refine (o_callR Try.func136 rfl rfl rfl (spread_ret _ hb (0 + 9) wt hwt (by rw [← hashC_wait st wt m hwt]; exact (Ch.rd_blk (H.has _ List.mem_cons_self) (0 + 9)).take 64)) ?_)
        rintro _ w ⟨rfl, Hc⟩
        replace H := H.call Hc
        rw [List.append_nil] at H
        exact ⟨H.sub (List.Sublist.cons_cons _ (List.nil_sublist _)), lat_use hG (s_11111   b9 b10 b11 _ H ) ⟨rfl, rfl, rfl, rfl, rfl, rfl, rfl, rfl, trivial⟩⟩
      exact all_nil
    have s_10110 : ∀ (b9 : Nat) (b10 : Nat) (w : World), Hp w0 w [hb] [.blk hb (hashC st wt m) 52, .blk b9 (List.replicate 64 (Value.int .u32 0)) 149, .blk b10 (List.replicate 64 (Value.int .u32 0)) 149] → ∀ τ, G 5 #[true, true, true, true, false, true, true, true, true, true, true, false, false, false, false] (ups τ [(0, .pointer (some ⟨hb, 0, none⟩)), (14, .pointer (some ⟨hb, 0 + 9, none⟩)), (19, .agg (st.l.map V32).toArray), (11, .agg (pad64 primeWords).toArray), (2, .pointer (some ⟨b9, 0, none⟩)), (3, .pointer (some ⟨b10, 0, none⟩))]) w := by
      intro  b9 b10 w H  τ
      rw [hG]
      refine t_all [4, 11] (by kernel_rfl) (by simp) ?_
      refine all_cons (w_op 4 rfl ?_) ?_
      · refine (o_callR Try.func136 rfl rfl rfl (spread_ret _ hb (0 + 9) wt hwt (by rw [← hashC_wait st wt m hwt]; exact (Ch.rd_blk (H.has _ List.mem_cons_self) (0 + 9)).take 64)) ?_)
        rintro _ w ⟨rfl, Hc⟩
        replace H := H.call Hc
        rw [List.append_nil] at H
        exact ⟨H.sub (List.Sublist.cons_cons _ (List.nil_sublist _)), lat_use hG (s_11110   b9 b10 _ H ) ⟨rfl, rfl, rfl, rfl, rfl, rfl, rfl, trivial⟩⟩
      refine all_cons (w_op 11 rfl ?_) ?_
      · refine (o_alloc H zc49 (fun b11 w H _ => ?_))
        exact ⟨H.sub (List.Sublist.cons_cons _ (List.nil_sublist _)), lat_use hG (s_10111  b9 b10 b11 _ (H.perm (perm_ins [.blk hb (hashC st wt m) 52, .blk b9 (List.replicate 64 (Value.int .u32 0)) 149, .blk b10 (List.replicate 64 (Value.int .u32 0)) 149] [] (.blk b11 (List.replicate 8 (Value.int .u32 0)) 49))) ) ⟨rfl, rfl, rfl, rfl, rfl, rfl, rfl, trivial⟩⟩
      exact all_nil
    have s_10101 : ∀ (b9 : Nat) (b11 : Nat) (w : World), Hp w0 w [hb] [.blk hb (hashC st wt m) 52, .blk b9 (List.replicate 64 (Value.int .u32 0)) 149, .blk b11 (List.replicate 8 (Value.int .u32 0)) 49] → ∀ τ, G 5 #[true, true, true, true, false, true, true, true, true, true, false, true, false, false, false] (ups τ [(0, .pointer (some ⟨hb, 0, none⟩)), (14, .pointer (some ⟨hb, 0 + 9, none⟩)), (19, .agg (st.l.map V32).toArray), (11, .agg (pad64 primeWords).toArray), (2, .pointer (some ⟨b9, 0, none⟩)), (4, .pointer (some ⟨b11, 0, none⟩))]) w := by
      intro  b9 b11 w H  τ
      rw [hG]
      refine t_all [4, 10] (by kernel_rfl) (by simp) ?_
      refine all_cons (w_op 4 rfl ?_) ?_
      · refine (o_callR Try.func136 rfl rfl rfl (spread_ret _ hb (0 + 9) wt hwt (by rw [← hashC_wait st wt m hwt]; exact (Ch.rd_blk (H.has _ List.mem_cons_self) (0 + 9)).take 64)) ?_)
        rintro _ w ⟨rfl, Hc⟩
        replace H := H.call Hc
        rw [List.append_nil] at H
        exact ⟨H.sub (List.Sublist.cons_cons _ (List.nil_sublist _)), lat_use hG (s_11101   b9 b11 _ H ) ⟨rfl, rfl, rfl, rfl, rfl, rfl, rfl, trivial⟩⟩
      refine all_cons (w_op 10 rfl ?_) ?_
      · refine (o_alloc H zc149 (fun b10 w H _ => ?_))
        exact ⟨H.sub (List.Sublist.cons_cons _ (List.nil_sublist _)), lat_use hG (s_10111  b9 b10 b11 _ (H.perm (perm_ins [.blk hb (hashC st wt m) 52, .blk b9 (List.replicate 64 (Value.int .u32 0)) 149] [.blk b11 (List.replicate 8 (Value.int .u32 0)) 49] (.blk b10 (List.replicate 64 (Value.int .u32 0)) 149))) ) ⟨rfl, rfl, rfl, rfl, rfl, rfl, rfl, trivial⟩⟩
      exact all_nil
    have s_10100 : ∀ (b9 : Nat) (w : World), Hp w0 w [hb] [.blk hb (hashC st wt m) 52, .blk b9 (List.replicate 64 (Value.int .u32 0)) 149] → ∀ τ, G 6 #[true, true, true, true, false, true, true, true, true, true, false, false, false, false, false] (ups τ [(0, .pointer (some ⟨hb, 0, none⟩)), (14, .pointer (some ⟨hb, 0 + 9, none⟩)), (19, .agg (st.l.map V32).toArray), (11, .agg (pad64 primeWords).toArray), (2, .pointer (some ⟨b9, 0, none⟩))]) w := by
      intro  b9 w H  τ
      rw [hG]
      refine t_all [4, 10, 11] (by kernel_rfl) (by simp) ?_
      refine all_cons (w_op 4 rfl ?_) ?_
      · refine (o_callR Try.func136 rfl rfl rfl (spread_ret _ hb (0 + 9) wt hwt (by rw [← hashC_wait st wt m hwt]; exact (Ch.rd_blk (H.has _ List.mem_cons_self) (0 + 9)).take 64)) ?_)
        rintro _ w ⟨rfl, Hc⟩
        replace H := H.call Hc
        rw [List.append_nil] at H
        exact ⟨H.sub (List.Sublist.cons_cons _ (List.nil_sublist _)), lat_use hG (s_11100   b9 _ H ) ⟨rfl, rfl, rfl, rfl, rfl, rfl, trivial⟩⟩
      refine all_cons (w_op 10 rfl ?_) ?_
      · refine (o_alloc H zc149 (fun b10 w H _ => ?_))
        exact ⟨H.sub (List.Sublist.cons_cons _ (List.nil_sublist _)), lat_use hG (s_10110  b9 b10 _ (H.perm (perm_ins [.blk hb (hashC st wt m) 52, .blk b9 (List.replicate 64 (Value.int .u32 0)) 149] [] (.blk b10 (List.replicate 64 (Value.int .u32 0)) 149))) ) ⟨rfl, rfl, rfl, rfl, rfl, rfl, trivial⟩⟩
      refine all_cons (w_op 11 rfl ?_) ?_
      · refine (o_alloc H zc49 (fun b11 w H _ => ?_))
        exact ⟨H.sub (List.Sublist.cons_cons _ (List.nil_sublist _)), lat_use hG (s_10101  b9 b11 _ (H.perm (perm_ins [.blk hb (hashC st wt m) 52, .blk b9 (List.replicate 64 (Value.int .u32 0)) 149] [] (.blk b11 (List.replicate 8 (Value.int .u32 0)) 49))) ) ⟨rfl, rfl, rfl, rfl, rfl, rfl, trivial⟩⟩
      exact all_nil
    have s_10011 : ∀ (b10 : Nat) (b11 : Nat) (w : World), Hp w0 w [hb] [.blk hb (hashC st wt m) 52, .blk b10 (List.replicate 64 (Value.int .u32 0)) 149, .blk b11 (List.replicate 8 (Value.int .u32 0)) 49] → ∀ τ, G 5 #[true, true, true, true, false, true, true, true, true, false, true, true, false, false, false] (ups τ [(0, .pointer (some ⟨hb, 0, none⟩)), (14, .pointer (some ⟨hb, 0 + 9, none⟩)), (19, .agg (st.l.map V32).toArray), (11, .agg (pad64 primeWords).toArray), (3, .pointer (some ⟨b10, 0, none⟩)), (4, .pointer (some ⟨b11, 0, none⟩))]) w := by
      intro  b10 b11 w H  τ
      rw [hG]
      refine t_all [4, 9] (by kernel_rfl) (by simp) ?_
      refine all_cons (w_op 4 rfl ?_) ?_
      · refine (o_callR Try.func136 rfl rfl rfl (spread_ret _ hb (0 + 9) wt hwt (by rw [← hashC_wait st wt m hwt]; exact (Ch.rd_blk (H.has _ List.mem_cons_self) (0 + 9)).take 64)) ?_)
        rintro _ w ⟨rfl, Hc⟩
        replace H := H.call Hc
        rw [List.append_nil] at H
        exact ⟨H.sub (List.Sublist.cons_cons _ (List.nil_sublist _)), lat_use hG (s_11011   b10 b11 _ H ) ⟨rfl, rfl, rfl, rfl, rfl, rfl, rfl, trivial⟩⟩
      refine all_cons (w_op 9 rfl ?_) ?_
      · refine (o_alloc H zc149 (fun b9 w H _ => ?_))
        exact ⟨H.sub (List.Sublist.cons_cons _ (List.nil_sublist _)), lat_use hG (s_10111  b9 b10 b11 _ (H.perm (perm_ins [.blk hb (hashC st wt m) 52] [.blk b10 (List.replicate 64 (Value.int .u32 0)) 149, .blk b11 (List.replicate 8 (Value.int .u32 0)) 49] (.blk b9 (List.replicate 64 (Value.int .u32 0)) 149))) ) ⟨rfl, rfl, rfl, rfl, rfl, rfl, rfl, trivial⟩⟩
      exact all_nil
    have s_10010 : ∀ (b10 : Nat) (w : World), Hp w0 w [hb] [.blk hb (hashC st wt m) 52, .blk b10 (List.replicate 64 (Value.int .u32 0)) 149] → ∀ τ, G 6 #[true, true, true, true, false, true, true, true, true, false, true, false, false, false, false] (ups τ [(0, .pointer (some ⟨hb, 0, none⟩)), (14, .pointer (some ⟨hb, 0 + 9, none⟩)), (19, .agg (st.l.map V32).toArray), (11, .agg (pad64 primeWords).toArray), (3, .pointer (some ⟨b10, 0, none⟩))]) w := by
      intro  b10 w H  τ
      rw [hG]
      refine t_all [4, 9, 11] (by kernel_rfl) (by simp) ?_
      refine all_cons (w_op 4 rfl ?_) ?_
      · refine (o_callR Try.func136 rfl rfl rfl (spread_ret _ hb (0 + 9) wt hwt (by rw [← hashC_wait st wt m hwt]; exact (Ch.rd_blk (H.has _ List.mem_cons_self) (0 + 9)).take 64)) ?_)
        rintro _ w ⟨rfl, Hc⟩
        replace H := H.call Hc
        rw [List.append_nil] at H
        exact ⟨H.sub (List.Sublist.cons_cons _ (List.nil_sublist _)), lat_use hG (s_11010   b10 _ H ) ⟨rfl, rfl, rfl, rfl, rfl, rfl, trivial⟩⟩
      refine all_cons (w_op 9 rfl ?_) ?_
      · refine (o_alloc H zc149 (fun b9 w H _ => ?_))
        exact ⟨H.sub (List.Sublist.cons_cons _ (List.nil_sublist _)), lat_use hG (s_10110  b9 b10 _ (H.perm (perm_ins [.blk hb (hashC st wt m) 52] [.blk b10 (List.replicate 64 (Value.int .u32 0)) 149] (.blk b9 (List.replicate 64 (Value.int .u32 0)) 149))) ) ⟨rfl, rfl, rfl, rfl, rfl, rfl, trivial⟩⟩
      refine all_cons (w_op 11 rfl ?_) ?_
      · refine (o_alloc H zc49 (fun b11 w H _ => ?_))
        exact ⟨H.sub (List.Sublist.cons_cons _ (List.nil_sublist _)), lat_use hG (s_10011  b10 b11 _ (H.perm (perm_ins [.blk hb (hashC st wt m) 52, .blk b10 (List.replicate 64 (Value.int .u32 0)) 149] [] (.blk b11 (List.replicate 8 (Value.int .u32 0)) 49))) ) ⟨rfl, rfl, rfl, rfl, rfl, rfl, trivial⟩⟩
      exact all_nil
    have s_10001 : ∀ (b11 : Nat) (w : World), Hp w0 w [hb] [.blk hb (hashC st wt m) 52, .blk b11 (List.replicate 8 (Value.int .u32 0)) 49] → ∀ τ, G 6 #[true, true, true, true, false, true, true, true, true, false, false, true, false, false, false] (ups τ [(0, .pointer (some ⟨hb, 0, none⟩)), (14, .pointer (some ⟨hb, 0 + 9, none⟩)), (19, .agg (st.l.map V32).toArray), (11, .agg (pad64 primeWords).toArray), (4, .pointer (some ⟨b11, 0, none⟩))]) w := by
      intro  b11 w H  τ
      rw [hG]
      refine t_all [4, 9, 10] (by kernel_rfl) (by simp) ?_
      refine all_cons (w_op 4 rfl ?_) ?_
      · refine (o_callR Try.func136 rfl rfl rfl (spread_ret _ hb (0 + 9) wt hwt (by rw [← hashC_wait st wt m hwt]; exact (Ch.rd_blk (H.has _ List.mem_cons_self) (0 + 9)).take 64)) ?_)
        rintro _ w ⟨rfl, Hc⟩
        replace H := H.call Hc
        rw [List.append_nil] at H
        exact ⟨H.sub (List.Sublist.cons_cons _ (List.nil_sublist _)), lat_use hG (s_11001   b11 _ H ) ⟨rfl, rfl, rfl, rfl, rfl, rfl, trivial⟩⟩
      refine all_cons (w_op 9 rfl ?_) ?_
      · refine (o_alloc H zc149 (fun b9 w H _ => ?_))
        exact ⟨H.sub (List.Sublist.cons_cons _ (List.nil_sublist _)), lat_use hG (s_10101  b9 b11 _ (H.perm (perm_ins [.blk hb (hashC st wt m) 52] [.blk b11 (List.replicate 8 (Value.int .u32 0)) 49] (.blk b9 (List.replicate 64 (Value.int .u32 0)) 149))) ) ⟨rfl, rfl, rfl, rfl, rfl, rfl, trivial⟩⟩
      refine all_cons (w_op 10 rfl ?_) ?_
      · refine (o_alloc H zc149 (fun b10 w H _ => ?_))
        exact ⟨H.sub (List.Sublist.cons_cons _ (List.nil_sublist _)), lat_use hG (s_10011  b10 b11 _ (H.perm (perm_ins [.blk hb (hashC st wt m) 52] [.blk b11 (List.replicate 8 (Value.int .u32 0)) 49] (.blk b10 (List.replicate 64 (Value.int .u32 0)) 149))) ) ⟨rfl, rfl, rfl, rfl, rfl, rfl, trivial⟩⟩
      exact all_nil
    have s_10000 : ∀  (w : World), Hp w0 w [hb] [.blk hb (hashC st wt m) 52] → ∀ τ, G 7 #[true, true, true, true, false, true, true, true, true, false, false, false, false, false, false] (ups τ [(0, .pointer (some ⟨hb, 0, none⟩)), (14, .pointer (some ⟨hb, 0 + 9, none⟩)), (19, .agg (st.l.map V32).toArray), (11, .agg (pad64 primeWords).toArray)]) w := by
      intro  w H  τ
      rw [hG]
      refine t_all [4, 9, 10, 11] (by kernel_rfl) (by simp) ?_
      refine all_cons (w_op 4 rfl ?_) ?_
      · refine (o_callR Try.func136 rfl rfl rfl (spread_ret _ hb (0 + 9) wt hwt (by rw [← hashC_wait st wt m hwt]; exact (Ch.rd_blk (H.has _ List.mem_cons_self) (0 + 9)).take 64)) ?_)
        rintro _ w ⟨rfl, Hc⟩
        replace H := H.call Hc
        rw [List.append_nil] at H
        exact ⟨H.sub (List.Sublist.cons_cons _ (List.nil_sublist _)), lat_use hG (s_11000   _ H ) ⟨rfl, rfl, rfl, rfl, rfl, trivial⟩⟩
      refine all_cons (w_op 9 rfl ?_) ?_
      · refine (o_alloc H zc149 (fun b9 w H _ => ?_))
        exact ⟨H.sub (List.Sublist.cons_cons _ (List.nil_sublist _)), lat_use hG (s_10100  b9 _ (H.perm (perm_ins [.blk hb (hashC st wt m) 52] [] (.blk b9 (List.replicate 64 (Value.int .u32 0)) 149))) ) ⟨rfl, rfl, rfl, rfl, rfl, trivial⟩⟩
      refine all_cons (w_op 10 rfl ?_) ?_
      · refine (o_alloc H zc149 (fun b10 w H _ => ?_))
        exact ⟨H.sub (List.Sublist.cons_cons _ (List.nil_sublist _)), lat_use hG (s_10010  b10 _ (H.perm (perm_ins [.blk hb (hashC st wt m) 52] [] (.blk b10 (List.replicate 64 (Value.int .u32 0)) 149))) ) ⟨rfl, rfl, rfl, rfl, rfl, trivial⟩⟩
      refine all_cons (w_op 11 rfl ?_) ?_
      · refine (o_alloc H zc49 (fun b11 w H _ => ?_))
        exact ⟨H.sub (List.Sublist.cons_cons _ (List.nil_sublist _)), lat_use hG (s_10001  b11 _ (H.perm (perm_ins [.blk hb (hashC st wt m) 52] [] (.blk b11 (List.replicate 8 (Value.int .u32 0)) 49))) ) ⟨rfl, rfl, rfl, rfl, rfl, trivial⟩⟩
      exact all_nil
    have s_00111 : ∀ (b9 : Nat) (b10 : Nat) (b11 : Nat) (w : World), Hp w0 w [hb] [.blk hb (hashC st wt m) 52, .blk b9 (List.replicate 64 (Value.int .u32 0)) 149, .blk b10 (List.replicate 64 (Value.int .u32 0)) 149, .blk b11 (List.replicate 8 (Value.int .u32 0)) 49] → ∀ τ, G 5 #[false, true, true, true, false, true, true, true, true, true, true, true, false, false, false] (ups τ [(0, .pointer (some ⟨hb, 0, none⟩)), (14, .pointer (some ⟨hb, 0 + 9, none⟩)), (19, .agg (st.l.map V32).toArray), (2, .pointer (some ⟨b9, 0, none⟩)), (3, .pointer (some ⟨b10, 0, none⟩)), (4, .pointer (some ⟨b11, 0, none⟩))]) w := by
      intro b9 b10 b11 w H  τ
      rw [hG]
      refine t_all [0] (by kernel_rfl) (by simp) ?_
      refine all_cons (w_op 0 rfl ?_) ?_
      · refine (o_callR Try.func135 rfl rfl rfl (primes_ret _) ?_)
        rintro _ w ⟨rfl, Hc⟩
        replace H := H.call Hc
        rw [List.append_nil] at H
        exact ⟨H.sub (List.Sublist.cons_cons _ (List.nil_sublist _)), lat_use hG (s_10111  b9 b10 b11 _ H ) ⟨rfl, rfl, rfl, rfl, rfl, rfl, rfl, trivial⟩⟩
      exact all_nil
    have s_00110 : ∀ (b9 : Nat) (b10 : Nat) (w : World), Hp w0 w [hb] [.blk hb (hashC st wt m) 52, .blk b9 (List.replicate 64 (Value.int .u32 0)) 149, .blk b10 (List.replicate 64 (Value.int .u32 0)) 149] → ∀ τ, G 6 #[false, true, true, true, false, true, true, true, true, true, true, false, false, false, false] (ups τ [(0, .pointer (some ⟨hb, 0, none⟩)), (14, .pointer (some ⟨hb, 0 + 9, none⟩)), (19, .agg (st.l.map V32).toArray), (2, .pointer (some ⟨b9, 0, none⟩)), (3, .pointer (some ⟨b10, 0, none⟩))]) w := by
      intro b9 b10 w H  τ
      rw [hG]
      refine t_all [0, 11] (by kernel_rfl) (by simp) ?_
      refine all_cons (w_op 0 rfl ?_) ?_
      · refine (o_callR Try.func135 rfl rfl rfl (primes_ret _) ?_)
        rintro _ w ⟨rfl, Hc⟩
        replace H := H.call Hc
        rw [List.append_nil] at H
        exact ⟨H.sub (List.Sublist.cons_cons _ (List.nil_sublist _)), lat_use hG (s_10110  b9 b10 _ H ) ⟨rfl, rfl, rfl, rfl, rfl, rfl, trivial⟩⟩
      refine all_cons (w_op 11 rfl ?_) ?_
      · refine (o_alloc H zc49 (fun b11 w H _ => ?_))
        exact ⟨H.sub (List.Sublist.cons_cons _ (List.nil_sublist _)), lat_use hG (s_00111 b9 b10 b11 _ (H.perm (perm_ins [.blk hb (hashC st wt m) 52, .blk b9 (List.replicate 64 (Value.int .u32 0)) 149, .blk b10 (List.replicate 64 (Value.int .u32 0)) 149] [] (.blk b11 (List.replicate 8 (Value.int .u32 0)) 49))) ) ⟨rfl, rfl, rfl, rfl, rfl, rfl, trivial⟩⟩
      exact all_nil
    have s_00101 : ∀ (b9 : Nat) (b11 : Nat) (w : World), Hp w0 w [hb] [.blk hb (hashC st wt m) 52, .blk b9 (List.replicate 64 (Value.int .u32 0)) 149, .blk b11 (List.replicate 8 (Value.int .u32 0)) 49] → ∀ τ, G 6 #[false, true, true, true, false, true, true, true, true, true, false, true, false, false, false] (ups τ [(0, .pointer (some ⟨hb, 0, none⟩)), (14, .pointer (some ⟨hb, 0 + 9, none⟩)), (19, .agg (st.l.map V32).toArray), (2, .pointer (some ⟨b9, 0, none⟩)), (4, .pointer (some ⟨b11, 0, none⟩))]) w := by
      intro b9 b11 w H  τ
      rw [hG]
      refine t_all [0, 10] (by kernel_rfl) (by simp) ?_
      refine all_cons (w_op 0 rfl ?_) ?_
      · refine (o_callR Try.func135 rfl rfl rfl (primes_ret _) ?_)
        rintro _ w ⟨rfl, Hc⟩
        replace H := H.call Hc
        rw [List.append_nil] at H
        exact ⟨H.sub (List.Sublist.cons_cons _ (List.nil_sublist _)), lat_use hG (s_10101  b9 b11 _ H ) ⟨rfl, rfl, rfl, rfl, rfl, rfl, trivial⟩⟩
      refine all_cons (w_op 10 rfl ?_) ?_
      · refine (o_alloc H zc149 (fun b10 w H _ => ?_))
        exact ⟨H.sub (List.Sublist.cons_cons _ (List.nil_sublist _)), lat_use hG (s_00111 b9 b10 b11 _ (H.perm (perm_ins [.blk hb (hashC st wt m) 52, .blk b9 (List.replicate 64 (Value.int .u32 0)) 149] [.blk b11 (List.replicate 8 (Value.int .u32 0)) 49] (.blk b10 (List.replicate 64 (Value.int .u32 0)) 149))) ) ⟨rfl, rfl, rfl, rfl, rfl, rfl, trivial⟩⟩
      exact all_nil
    have s_00100 : ∀ (b9 : Nat) (w : World), Hp w0 w [hb] [.blk hb (hashC st wt m) 52, .blk b9 (List.replicate 64 (Value.int .u32 0)) 149] → ∀ τ, G 7 #[false, true, true, true, false, true, true, true, true, true, false, false, false, false, false] (ups τ [(0, .pointer (some ⟨hb, 0, none⟩)), (14, .pointer (some ⟨hb, 0 + 9, none⟩)), (19, .agg (st.l.map V32).toArray), (2, .pointer (some ⟨b9, 0, none⟩))]) w := by
      intro b9 w H  τ
      rw [hG]
      refine t_all [0, 10, 11] (by kernel_rfl) (by simp) ?_
      refine all_cons (w_op 0 rfl ?_) ?_
      · refine (o_callR Try.func135 rfl rfl rfl (primes_ret _) ?_)
        rintro _ w ⟨rfl, Hc⟩
        replace H := H.call Hc
        rw [List.append_nil] at H
        exact ⟨H.sub (List.Sublist.cons_cons _ (List.nil_sublist _)), lat_use hG (s_10100  b9 _ H ) ⟨rfl, rfl, rfl, rfl, rfl, trivial⟩⟩
      refine all_cons (w_op 10 rfl ?_) ?_
      · refine (o_alloc H zc149 (fun b10 w H _ => ?_))
        exact ⟨H.sub (List.Sublist.cons_cons _ (List.nil_sublist _)), lat_use hG (s_00110 b9 b10 _ (H.perm (perm_ins [.blk hb (hashC st wt m) 52, .blk b9 (List.replicate 64 (Value.int .u32 0)) 149] [] (.blk b10 (List.replicate 64 (Value.int .u32 0)) 149))) ) ⟨rfl, rfl, rfl, rfl, rfl, trivial⟩⟩
      refine all_cons (w_op 11 rfl ?_) ?_
      · refine (o_alloc H zc49 (fun b11 w H _ => ?_))
        exact ⟨H.sub (List.Sublist.cons_cons _ (List.nil_sublist _)), lat_use hG (s_00101 b9 b11 _ (H.perm (perm_ins [.blk hb (hashC st wt m) 52, .blk b9 (List.replicate 64 (Value.int .u32 0)) 149] [] (.blk b11 (List.replicate 8 (Value.int .u32 0)) 49))) ) ⟨rfl, rfl, rfl, rfl, rfl, trivial⟩⟩
      exact all_nil
    have s_00011 : ∀ (b10 : Nat) (b11 : Nat) (w : World), Hp w0 w [hb] [.blk hb (hashC st wt m) 52, .blk b10 (List.replicate 64 (Value.int .u32 0)) 149, .blk b11 (List.replicate 8 (Value.int .u32 0)) 49] → ∀ τ, G 6 #[false, true, true, true, false, true, true, true, true, false, true, true, false, false, false] (ups τ [(0, .pointer (some ⟨hb, 0, none⟩)), (14, .pointer (some ⟨hb, 0 + 9, none⟩)), (19, .agg (st.l.map V32).toArray), (3, .pointer (some ⟨b10, 0, none⟩)), (4, .pointer (some ⟨b11, 0, none⟩))]) w := by
      intro b10 b11 w H  τ
      rw [hG]
      refine t_all [0, 9] (by kernel_rfl) (by simp) ?_
      refine all_cons (w_op 0 rfl ?_) ?_
      · refine (o_callR Try.func135 rfl rfl rfl (primes_ret _) ?_)
        rintro _ w ⟨rfl, Hc⟩
        replace H := H.call Hc
        rw [List.append_nil] at H
        exact ⟨H.sub (List.Sublist.cons_cons _ (List.nil_sublist _)), lat_use hG (s_10011  b10 b11 _ H ) ⟨rfl, rfl, rfl, rfl, rfl, rfl, trivial⟩⟩
      refine all_cons (w_op 9 rfl ?_) ?_
      · refine (o_alloc H zc149 (fun b9 w H _ => ?_))
        exact ⟨H.sub (List.Sublist.cons_cons _ (List.nil_sublist _)), lat_use hG (s_00111 b9 b10 b11 _ (H.perm (perm_ins [.blk hb (hashC st wt m) 52] [.blk b10 (List.replicate 64 (Value.int .u32 0)) 149, .blk b11 (List.replicate 8 (Value.int .u32 0)) 49] (.blk b9 (List.replicate 64 (Value.int .u32 0)) 149))) ) ⟨rfl, rfl, rfl, rfl, rfl, rfl, trivial⟩⟩
      exact all_nil
    have s_00010 : ∀ (b10 : Nat) (w : World), Hp w0 w [hb] [.blk hb (hashC st wt m) 52, .blk b10 (List.replicate 64 (Value.int .u32 0)) 149] → ∀ τ, G 7 #[false, true, true, true, false, true, true, true, true, false, true, false, false, false, false] (ups τ [(0, .pointer (some ⟨hb, 0, none⟩)), (14, .pointer (some ⟨hb, 0 + 9, none⟩)), (19, .agg (st.l.map V32).toArray), (3, .pointer (some ⟨b10, 0, none⟩))]) w := by
      intro b10 w H  τ
      rw [hG]
      refine t_all [0, 9, 11] (by kernel_rfl) (by simp) ?_
      refine all_cons (w_op 0 rfl ?_) ?_
      · refine (o_callR Try.func135 rfl rfl rfl (primes_ret _) ?_)
        rintro _ w ⟨rfl, Hc⟩
        replace H := H.call Hc
        rw [List.append_nil] at H
        exact ⟨H.sub (List.Sublist.cons_cons _ (List.nil_sublist _)), lat_use hG (s_10010  b10 _ H ) ⟨rfl, rfl, rfl, rfl, rfl, trivial⟩⟩
      refine all_cons (w_op 9 rfl ?_) ?_
      · refine (o_alloc H zc149 (fun b9 w H _ => ?_))
        exact ⟨H.sub (List.Sublist.cons_cons _ (List.nil_sublist _)), lat_use hG (s_00110 b9 b10 _ (H.perm (perm_ins [.blk hb (hashC st wt m) 52] [.blk b10 (List.replicate 64 (Value.int .u32 0)) 149] (.blk b9 (List.replicate 64 (Value.int .u32 0)) 149))) ) ⟨rfl, rfl, rfl, rfl, rfl, trivial⟩⟩
      refine all_cons (w_op 11 rfl ?_) ?_
      · refine (o_alloc H zc49 (fun b11 w H _ => ?_))
        exact ⟨H.sub (List.Sublist.cons_cons _ (List.nil_sublist _)), lat_use hG (s_00011 b10 b11 _ (H.perm (perm_ins [.blk hb (hashC st wt m) 52, .blk b10 (List.replicate 64 (Value.int .u32 0)) 149] [] (.blk b11 (List.replicate 8 (Value.int .u32 0)) 49))) ) ⟨rfl, rfl, rfl, rfl, rfl, trivial⟩⟩
      exact all_nil
    have s_00001 : ∀ (b11 : Nat) (w : World), Hp w0 w [hb] [.blk hb (hashC st wt m) 52, .blk b11 (List.replicate 8 (Value.int .u32 0)) 49] → ∀ τ, G 7 #[false, true, true, true, false, true, true, true, true, false, false, true, false, false, false] (ups τ [(0, .pointer (some ⟨hb, 0, none⟩)), (14, .pointer (some ⟨hb, 0 + 9, none⟩)), (19, .agg (st.l.map V32).toArray), (4, .pointer (some ⟨b11, 0, none⟩))]) w := by
      intro b11 w H  τ
      rw [hG]
      refine t_all [0, 9, 10] (by kernel_rfl) (by simp) ?_
      refine all_cons (w_op 0 rfl ?_) ?_
      · refine (o_callR Try.func135 rfl rfl rfl (primes_ret _) ?_)
        rintro _ w ⟨rfl, Hc⟩
        replace H := H.call Hc
        rw [List.append_nil] at H
        exact ⟨H.sub (List.Sublist.cons_cons _ (List.nil_sublist _)), lat_use hG (s_10001  b11 _ H ) ⟨rfl, rfl, rfl, rfl, rfl, trivial⟩⟩
      refine all_cons (w_op 9 rfl ?_) ?_
      · refine (o_alloc H zc149 (fun b9 w H _ => ?_))
        exact ⟨H.sub (List.Sublist.cons_cons _ (List.nil_sublist _)), lat_use hG (s_00101 b9 b11 _ (H.perm (perm_ins [.blk hb (hashC st wt m) 52] [.blk b11 (List.replicate 8 (Value.int .u32 0)) 49] (.blk b9 (List.replicate 64 (Value.int .u32 0)) 149))) ) ⟨rfl, rfl, rfl, rfl, rfl, trivial⟩⟩
      refine all_cons (w_op 10 rfl ?_) ?_
      · refine (o_alloc H zc149 (fun b10 w H _ => ?_))
        exact ⟨H.sub (List.Sublist.cons_cons _ (List.nil_sublist _)), lat_use hG (s_00011 b10 b11 _ (H.perm (perm_ins [.blk hb (hashC st wt m) 52] [.blk b11 (List.replicate 8 (Value.int .u32 0)) 49] (.blk b10 (List.replicate 64 (Value.int .u32 0)) 149))) ) ⟨rfl, rfl, rfl, rfl, rfl, trivial⟩⟩
      exact all_nil
    have s_00000 : ∀  (w : World), Hp w0 w [hb] [.blk hb (hashC st wt m) 52] → ∀ τ, G 8 #[false, true, true, true, false, true, true, true, true, false, false, false, false, false, false] (ups τ [(0, .pointer (some ⟨hb, 0, none⟩)), (14, .pointer (some ⟨hb, 0 + 9, none⟩)), (19, .agg (st.l.map V32).toArray)]) w := by
      intro  w H  τ
      rw [hG]
      refine t_all [0, 9, 10, 11] (by kernel_rfl) (by simp) ?_
      refine all_cons (w_op 0 rfl ?_) ?_
      · refine (o_callR Try.func135 rfl rfl rfl (primes_ret _) ?_)
        rintro _ w ⟨rfl, Hc⟩
        replace H := H.call Hc
        rw [List.append_nil] at H
        exact ⟨H.sub (List.Sublist.cons_cons _ (List.nil_sublist _)), lat_use hG (s_10000  _ H ) ⟨rfl, rfl, rfl, rfl, trivial⟩⟩
      refine all_cons (w_op 9 rfl ?_) ?_
      · refine (o_alloc H zc149 (fun b9 w H _ => ?_))
        exact ⟨H.sub (List.Sublist.cons_cons _ (List.nil_sublist _)), lat_use hG (s_00100 b9 _ (H.perm (perm_ins [.blk hb (hashC st wt m) 52] [] (.blk b9 (List.replicate 64 (Value.int .u32 0)) 149))) ) ⟨rfl, rfl, rfl, rfl, trivial⟩⟩
      refine all_cons (w_op 10 rfl ?_) ?_
      · refine (o_alloc H zc149 (fun b10 w H _ => ?_))
        exact ⟨H.sub (List.Sublist.cons_cons _ (List.nil_sublist _)), lat_use hG (s_00010 b10 _ (H.perm (perm_ins [.blk hb (hashC st wt m) 52] [] (.blk b10 (List.replicate 64 (Value.int .u32 0)) 149))) ) ⟨rfl, rfl, rfl, rfl, trivial⟩⟩
      refine all_cons (w_op 11 rfl ?_) ?_
      · refine (o_alloc H zc49 (fun b11 w H _ => ?_))
        exact ⟨H.sub (List.Sublist.cons_cons _ (List.nil_sublist _)), lat_use hG (s_00001 b11 _ (H.perm (perm_ins [.blk hb (hashC st wt m) 52] [] (.blk b11 (List.replicate 8 (Value.int .u32 0)) 49))) ) ⟨rfl, rfl, rfl, rfl, trivial⟩⟩
      exact all_nil
    exact lat_fit (s_00000 _ H) ⟨rfl, rfl, rfl, trivial⟩
  · as_aux_lemma =>
    rintro ⟨b2, b3, b4⟩ τ w H
    have hsl := sched_length wt 48
    have hcomp : comp st wt = addS st (rnds (sched wt 48) st 64) := rfl
    simp only [hcomp]
    clear hcomp hl48 h1c hH
    obtain ⟨sc, hsc⟩ : ∃ sc, sched wt 48 = sc := ⟨_, rfl⟩
    simp only [hsc] at H hsl ⊢
    clear hsc
    repeat refine c_seq ?_
    refine c_region ?_
    refine l_op (o_mv ?_)
    first | refine l_end ?_ | refine l_nil ?_
    repeat refine c_seq ?_
    refine c_block ?_
    refine c_loop (ι := Nat) (fun i => [(20, VI i), (2, .pointer (some ⟨b2, 0, none⟩)), (3, .pointer (some ⟨b3, 0, none⟩)), (4, .pointer (some ⟨b4, 0, none⟩)), (0, .pointer (some ⟨hb, 0, none⟩))])
      (fun i w => i ≤ 64 ∧ Hp w0 w [hb] [.blk hb (hashC st wt m) 52, .blk b2 (pad64 primeWords) 149, .blk b3 (pad64 sc) 149, .blk b4 ((rnds sc st i).l.map V32) 49])
      (fun i => 64 - i) 0 ⟨rfl, rfl, rfl, rfl, rfl, trivial⟩ ⟨by omega, by rw [rnds]; exact H⟩ ?_
    clear H
    rintro i τ w ⟨hi, H⟩
    have hpw : primeWords.length = 64 := rfl
    repeat refine c_seq ?_
    refine c_region ?_
    refine l_op (o_bin rfl rfl (fun _ => b_lss) ?_)
    first | refine l_end ?_ | refine l_nil ?_
    repeat refine c_seq ?_
    refine c_ifD rfl (fun hlt => ?_) (fun hlt => ?_)
    · have hlt' : i < 64 := by omega
      have g1 : ∀ j, j < 64 → (pad64 primeWords)[j]? = some (V32 (primeWords.getD j 0)) := fun j hj => pad64_get _ _ (by omega)
      have g2 : ∀ j, j < 64 → (pad64 sc)[j]? = some (V32 (sc.getD j 0)) := fun j hj => pad64_get _ _ (by omega)
      have x1 : 0 + (i : Int).toNat * 1 = i := by omega
      refine c_skip ?_
      repeat refine c_seq ?_
      refine c_block ?_
      repeat refine c_seq ?_
      refine c_region ?_
      refine l_op (o_mv ?_)
      refine l_op (o_as ?_)
      first | refine l_end ?_ | refine l_nil ?_
      repeat refine c_seq ?_
      refine c_still mixed (by kernel_rfl) ?_
      replace H := H.drew
      refine s_op (r_ia rfl rfl ar49 (by omega) (by omega)) ?_
      refine s_op (r_ld H (i := 3) rfl rfl ct48 rfl) ?_
      refine s_call Try.func137 rfl rfl rfl (rot_ret _ 26 _ (by omega) (by omega) _ rfl) ?_
      refine s_op (r_ia rfl rfl ar49 (by omega) (by omega)) ?_
      refine s_op (r_ld H (i := 3) rfl rfl ct48 rfl) ?_
      refine s_call Try.func137 rfl rfl rfl (rot_ret _ 21 _ (by omega) (by omega) _ rfl) ?_
      refine s_op (r_bin rfl rfl (fun _ => b_xor_u32)) ?_
      refine s_op (r_ia rfl rfl ar49 (by omega) (by omega)) ?_
      refine s_op (r_ld H (i := 3) rfl rfl ct48 rfl) ?_
      refine s_call Try.func137 rfl rfl rfl (rot_ret _ 7 _ (by omega) (by omega) _ rfl) ?_
      refine s_op (r_bin rfl rfl (fun _ => b_xor_u32)) ?_
      refine s_op (r_as) ?_
      refine s_nil ?_
      repeat refine c_seq ?_
      refine c_still mixed (by kernel_rfl) ?_
      replace H := H.drew
      refine s_op (r_ia rfl rfl ar49 (by omega) (by omega)) ?_
      refine s_op (r_ld H (i := 3) rfl rfl ct48 rfl) ?_
      refine s_op (r_mv) ?_
      refine s_op (r_bin rfl rfl (fun _ => b_add_u32)) ?_
      refine s_op (r_ia rfl rfl ar49 (by omega) (by omega)) ?_
      refine s_op (r_ld H (i := 3) rfl rfl ct48 rfl) ?_
      refine s_op (r_ia rfl rfl ar49 (by omega) (by omega)) ?_
      refine s_op (r_ld H (i := 3) rfl rfl ct48 rfl) ?_
      refine s_op (r_bin rfl rfl (fun _ => b_and_u32)) ?_
      refine s_op (r_ia rfl rfl ar49 (by omega) (by omega)) ?_
      refine s_op (r_ld H (i := 3) rfl rfl ct48 rfl) ?_
      refine s_op (r_un rfl (fun _ => b_not_u32)) ?_
      refine s_op (r_ia rfl rfl ar49 (by omega) (by omega)) ?_
      refine s_op (r_ld H (i := 3) rfl rfl ct48 rfl) ?_
      refine s_op (r_bin rfl rfl (fun _ => b_and_u32)) ?_
      refine s_op (r_bin rfl rfl (fun _ => b_xor_u32)) ?_
      refine s_op (r_bin rfl rfl (fun _ => b_add_u32)) ?_
      refine s_op (r_mv) ?_
      refine s_op (r_ia rfl rfl ar149 (by omega) (by omega)) ?_
      refine s_op (r_ld H (i := 1) rfl rfl ct48 (by rw [x1]; exact g1 i hlt')) ?_
      refine s_op (r_bin rfl rfl (fun _ => b_add_u32)) ?_
      refine s_op (r_mv) ?_
      refine s_op (r_ia rfl rfl ar149 (by omega) (by omega)) ?_
      refine s_op (r_ld H (i := 2) rfl rfl ct48 (by rw [x1]; exact g2 i hlt')) ?_
      refine s_op (r_bin rfl rfl (fun _ => b_add_u32)) ?_
      refine s_op (r_as) ?_
      refine s_nil ?_
      repeat refine c_seq ?_
      refine c_still mixed (by kernel_rfl) ?_
      replace H := H.drew
      refine s_op (r_ia rfl rfl ar49 (by omega) (by omega)) ?_
      refine s_op (r_ld H (i := 3) rfl rfl ct48 rfl) ?_
      refine s_call Try.func137 rfl rfl rfl (rot_ret _ 30 _ (by omega) (by omega) _ rfl) ?_
      refine s_op (r_ia rfl rfl ar49 (by omega) (by omega)) ?_
      refine s_op (r_ld H (i := 3) rfl rfl ct48 rfl) ?_
      refine s_call Try.func137 rfl rfl rfl (rot_ret _ 19 _ (by omega) (by omega) _ rfl) ?_
      refine s_op (r_bin rfl rfl (fun _ => b_xor_u32)) ?_
      refine s_op (r_ia rfl rfl ar49 (by omega) (by omega)) ?_
      refine s_op (r_ld H (i := 3) rfl rfl ct48 rfl) ?_
      refine s_call Try.func137 rfl rfl rfl (rot_ret _ 10 _ (by omega) (by omega) _ rfl) ?_
      refine s_op (r_bin rfl rfl (fun _ => b_xor_u32)) ?_
      refine s_op (r_as) ?_
      refine s_nil ?_
      repeat refine c_seq ?_
      refine c_region ?_
      refine l_op (o_mv ?_)
      refine l_op (o_ia rfl rfl ar49 (by omega) (by omega) ?_)
      refine l_op (o_ld H (i := 3) rfl rfl ct48 rfl ?_)
      refine l_op (o_ia rfl rfl ar49 (by omega) (by omega) ?_)
      refine l_op (o_ld H (i := 3) rfl rfl ct48 rfl ?_)
      refine l_op (o_bin rfl rfl (fun _ => b_and_u32) ?_)
      refine l_op (o_ia rfl rfl ar49 (by omega) (by omega) ?_)
      refine l_op (o_ld H (i := 3) rfl rfl ct48 rfl ?_)
      refine l_op (o_ia rfl rfl ar49 (by omega) (by omega) ?_)
      refine l_op (o_ld H (i := 3) rfl rfl ct48 rfl ?_)
      refine l_op (o_bin rfl rfl (fun _ => b_and_u32) ?_)
      refine l_op (o_bin rfl rfl (fun _ => b_xor_u32) ?_)
      refine l_op (o_ia rfl rfl ar49 (by omega) (by omega) ?_)
      refine l_op (o_ld H (i := 3) rfl rfl ct48 rfl ?_)
      refine l_op (o_ia rfl rfl ar49 (by omega) (by omega) ?_)
      refine l_op (o_ld H (i := 3) rfl rfl ct48 rfl ?_)
      refine l_op (o_bin rfl rfl (fun _ => b_and_u32) ?_)
      refine l_op (o_bin rfl rfl (fun _ => b_xor_u32) ?_)
      refine l_op (o_bin rfl rfl (fun _ => b_add_u32) ?_)
      refine l_op (o_as ?_)
      first | refine l_end ?_ | refine l_nil ?_
      repeat refine c_seq ?_
      refine c_region ?_
      refine l_op (o_mv ?_)
      refine l_op (o_mv ?_)
      refine l_op (o_bin rfl rfl (fun _ => b_add_u32) ?_)
      refine l_op (o_ia rfl rfl ar49 (by omega) (by omega) ?_)
      refine l_op (o_ld H (i := 3) rfl rfl ct48 rfl ?_)
      refine l_op (o_ia rfl rfl ar49 (by omega) (by omega) ?_)
      refine l_op (o_ld H (i := 3) rfl rfl ct48 rfl ?_)
      refine l_op (o_ia rfl rfl ar49 (by omega) (by omega) ?_)
      refine l_op (o_ld H (i := 3) rfl rfl ct48 rfl ?_)
      refine l_op (o_ia rfl rfl ar49 (by omega) (by omega) ?_)
      refine l_op (o_ld H (i := 3) rfl rfl ct48 rfl ?_)
      refine l_op (o_mv ?_)
      refine l_op (o_bin rfl rfl (fun _ => b_add_u32) ?_)
      refine l_op (o_ia rfl rfl ar49 (by omega) (by omega) ?_)
      refine l_op (o_ld H (i := 3) rfl rfl ct48 rfl ?_)
      refine l_op (o_ia rfl rfl ar49 (by omega) (by omega) ?_)
      refine l_op (o_ld H (i := 3) rfl rfl ct48 rfl ?_)
      refine l_op (o_ia rfl rfl ar49 (by omega) (by omega) ?_)
      refine l_op (o_ld H (i := 3) rfl rfl ct48 rfl ?_)
      refine l_op (o_bld' (pv := en 0 ((rnd (rnds sc st i) (primeWords.getD i 0) (sc.getD i 0)).l.map V32)) bd49 rfl (fill_en _ (all_V32 _) rfl) ?_)
      refine l_op (o_stw H (i := 3) rfl rfl rfl (by rw [cs49]; rfl) (all_V32 _) (by rfl) (fun w H => ?_))
      first | refine l_end ?_ | refine l_nil ?_
      have e9 := rnds.eq_2 sc st i
      repeat refine c_seq ?_
      refine c_region ?_
      refine l_op (o_bin rfl rfl (fun _ => b_add (by omega) (by omega)) ?_)
      refine l_op (o_mv ?_)
      first | refine l_end ?_ | refine l_nil ?_
      refine round_end (i + 1) ?_ ?_ ?_
      · exact ⟨rfl, rfl, rfl, rfl, rfl, trivial⟩
      · exact ⟨by omega, by rw [e9]; exact H⟩
      · show 64 - (i + 1) < 64 - i; omega
    · have hi64 : i = 64 := by omega
      subst hi64
      clear hlt hi
      obtain ⟨rr, hrr⟩ : ∃ rr, rnds sc st 64 = rr := ⟨_, rfl⟩
      simp only [hrr] at H ⊢
      clear hrr
      refine c_exit ?_
      repeat refine c_seq ?_
      refine c_region ?_
      refine l_op (o_mv ?_)
      first | refine l_end ?_ | refine l_nil ?_
      repeat refine c_seq ?_
      refine c_block ?_
      refine c_loop (ι := Nat) (fun i => [(110, VI i), (4, .pointer (some ⟨b4, 0, none⟩)), (0, .pointer (some ⟨hb, 0, none⟩))])
        (fun i w => i ≤ 8 ∧ Hp w0 w [hb] [.blk hb (hashL (parts (addS st rr).l st.l i) wt m) 52, .blk b2 (pad64 primeWords) 149, .blk b3 (pad64 sc) 149, .blk b4 (rr.l.map V32) 49])
        (fun i => 8 - i) 0 ⟨rfl, rfl, rfl, trivial⟩ ⟨by omega, H⟩ ?_
      clear H
      rintro i τ w ⟨hi, H⟩
      repeat refine c_seq ?_
      refine c_region ?_
      refine l_op (o_bin rfl rfl (fun _ => b_lss) ?_)
      first | refine l_end ?_ | refine l_nil ?_
      repeat refine c_seq ?_
      refine c_ifD rfl (fun hlt => ?_) (fun hlt => ?_)
      · have hlt' : i < 8 := by omega
        have h8 : (addS st rr).l.length = 8 := rfl
        have h8' : st.l.length = 8 := rfl
        have hpl8 : (parts (addS st rr).l st.l i).length = 8 := parts_length _ _ i rfl (by omega)
        have x1 : 0 + 1 + (i : Int).toNat * 1 = 1 + i := by omega
        have x2 : 0 + (i : Int).toNat * 1 = i := by omega
        have g1 : (rr.l.map V32)[i]? = some (V32 (rr.l.getD i 0)) := by
          have : i < rr.l.length := hlt'
          simp [this]
        refine c_skip ?_
        repeat refine c_seq ?_
        refine c_block ?_
        repeat refine c_seq ?_
        refine c_region ?_
        refine l_op (o_mv ?_)
        refine l_op (o_as ?_)
        first | refine l_end ?_ | refine l_nil ?_
        repeat refine c_seq ?_
        refine c_tail 13 mixed (by kernel_rfl) ?_
        replace H := H.drew
        refine s_op (r_mv) ?_
        refine s_op (r_mv) ?_
        refine s_op (r_nilc rfl) ?_
        refine s_op (r_fa rfl fo52_1) ?_
        refine s_op (r_ia rfl rfl ar49 (by omega) (by omega)) ?_
        refine s_op (r_ld H (i := 0) rfl rfl ct48 (by rw [x1]; exact hashL_get _ _ _ i (by omega))) ?_
        refine s_op (r_mv) ?_
        refine s_op (r_ia rfl rfl ar49 (by omega) (by omega)) ?_
        refine s_op (r_ld H (i := 3) rfl rfl ct48 (by rw [x2]; exact g1)) ?_
        refine s_op (r_bin rfl rfl (fun _ => b_add_u32)) ?_
        refine s_op (r_nilc rfl) ?_
        refine s_op (r_fa rfl fo52_1) ?_
        refine s_op (r_ia rfl rfl ar49 (by omega) (by omega)) ?_
        refine s_nil ?_
        refine l_op (o_st H (i := 0) (v := V32 ((addS st rr).l.getD i 0)) rfl rfl ?_ cs48 rfl (by rw [x1]; simp [hashL, hpl8]; omega) (fun w H => ?_))
        · show V32 ((parts (addS st rr).l st.l i).getD i 0 + rr.l.getD i 0) = _
          rw [parts_get _ _ i (h8.trans h8'.symm) (by omega), add_get _ _ i hlt']
        first | refine l_end ?_ | refine l_nil ?_
        have e : (hashL (parts (addS st rr).l st.l i) wt m).set (0 + 1 + (i : Int).toNat * 1) (V32 ((addS st rr).l.getD i 0)) = hashL (parts (addS st rr).l st.l (i + 1)) wt m := by
          rw [x1, hashL_set _ _ _ i _ (by omega), parts_set _ _ i (h8.trans h8'.symm) (by omega)]
        rw [e] at H
        repeat refine c_seq ?_
        refine c_region ?_
        refine l_op (o_bin rfl rfl (fun _ => b_add (by omega) (by omega)) ?_)
        refine l_op (o_mv ?_)
        first | refine l_end ?_ | refine l_nil ?_
        refine round_end (i + 1) ?_ ?_ ?_
        · exact ⟨rfl, rfl, rfl, trivial⟩
        · exact ⟨by omega, H⟩
        · show 8 - (i + 1) < 8 - i; omega
      · have hi8 : i = 8 := by omega
        subst hi8
        refine c_exit ?_
        simp only [Exit.then, Exit.inBlock, ↓reduceIte]
        refine e_norm (e_ret0 Try.results105 ?_)
        refine ⟨_, rfl, rfl, ?_⟩
        exact H.sub (List.Sublist.cons_cons _ (List.nil_sublist _))
end Go.Proofs.Ytjmbbhnpfmblpaa
