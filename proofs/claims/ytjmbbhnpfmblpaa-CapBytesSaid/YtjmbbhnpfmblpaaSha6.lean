import Derived.Test.YtjmbbhnpfmblpaaSha5
import Derived.Test.YtjmbbhnpfmblpaaShaDig
/- sha: Sum. -/
namespace Go.Proofs.Ytjmbbhnpfmblpaa
open Go
set_option maxRecDepth 100000
theorem w_u64_p {a : Int} (h0 : 0 ≤ a) (h1 : a < 18446744073709551616) : IntKind.u64.wrap a = a := by rw [wrap_u64]; omega
/-- a byte of one's own written into a hash of one's own. -/
theorem write1 {w0 w : World} {S : List Nat} {L : List Ch} {b hb i : Nat} {s : HS} {x : UInt8} {T : TypeId} (H : Hp w0 w S (L ++ [.blk b [V8 x] T])) (hi : L[i]? = some (.blk hb (hashH s) 52)) (hwt : s.wt.length = 64) :
    Ret Try.prog 35 [.pointer (some ⟨hb, 0, none⟩), .slice (some ⟨b, 0, none⟩) 1 1] w fun v w' => v = .tuple #[] ∧ Hp w0 w' S (L.set i (.blk hb (hashH (absorb s [x])) 52)) := by
  have hlt : i < L.length := (List.getElem?_eq_some_iff.1 hi).1
  have hi' : (L ++ [Ch.blk b [V8 x] T])[i]? = some (.blk hb (hashH s) 52) := by rw [List.getElem?_append_left hlt]; exact hi
  have hb' : (Ch.blk b [V8 x] T).ok w := H.has _ (by simp)
  have hne : b ≠ hb := by
    intro e
    have := pw_ne H.nd (i := i) (j := L.length) (e := .blk b [V8 x] T) hi' (by simp) (by omega) (b := hb) rfl
    exact this (by rw [e]; rfl)
  refine (write_ret w hb s (some ⟨b, 0, none⟩) 1 1 [x] hwt (H.has _ (List.mem_of_getElem? hi')) (Ch.rd_all hb') rfl (Nat.le_refl _) (fun _ y hy => ?_) (by decide)).mono fun v w' ⟨hv, Hc⟩ => ⟨hv, ?_⟩
  · cases hy; simpa using hne
  · have := H.callAt hi' rfl rfl Hc
    rw [List.append_nil, List.set_append_left _ _ hlt] at this
    exact this.sub (List.sublist_append_left _ _)
theorem fill1 (z v : Value) (hv : v.oneCell' = true) : Instr.fill (fun i => some (i * 1, 1)) ((Array.range (1 * 1)).map (([z].toArray)[· % ([z].toArray).size]!)) [(0, v)] = some #[v] := by
  have : v.cells = #[v] := by cases v <;> simp_all [Value.cells, Value.oneCell']
  have e : Array.range (1 * 1) = #[0] := by decide
  rw [e]
  simp [Instr.fill, this, Array.zipIdx]
theorem sum_none (w0 : World) (p : Value) (h : ∀ w, (∀ k, k < w0.heap.size → w.heap[k]? = w0.heap[k]?) → NoHash p w) : Ret Try.prog 38 [p] w0 fun v w' => v = .agg ((List.replicate 32 (0 : UInt8)).map V8).toArray ∧ Hp w0 w' [] [] := by
  refine ret_mk Try.func38 rfl Try.ntmps38 (by simp) ?_
  have H := Hp.refl w0 []
  repeat refine c_seq ?_
  refine c_region ?_
  refine l_op (o_alloc H zc31 (fun b2 w H hb2 => ?_))
  first | refine l_end ?_ | refine l_nil ?_
  repeat refine c_seq ?_
  refine c_region ?_
  refine l_op (o_alloc H zc31 (fun b3 w H hb3 => ?_))
  first | refine l_end ?_ | refine l_nil ?_
  repeat refine c_seq ?_
  refine c_region ?_
  refine l_op (o_mv ?_)
  refine l_op (o_callR Try.func104 rfl rfl rfl (h _ (fun k hk => H.frame k hk (by simp))) ?_)
  rintro _ w' ⟨rfl, hw⟩
  rw [hw]; clear hw w'
  first | refine l_end ?_ | refine l_nil ?_
  repeat refine c_seq ?_
  refine c_yes rfl ?_
  repeat refine c_seq ?_
  refine c_region ?_
  refine l_op (o_ldr H (i := 1) rfl rfl rt31 (by decide) ?_)
  refine l_op (o_stw H (i := 0) rfl rfl rfl cs31 (by kernel_rfl) rfl (fun w H => ?_))
  first | refine l_end ?_ | refine l_nil ?_
  refine c_ret ?_
  try simp only [Exit.then]
  exact e_retc Try.results38 H (i := 0) rfl rfl rt31 (by rfl) ⟨_, rfl, rfl, H.sub (List.nil_sublist _)⟩
set_option maxHeartbeats 4000000 in
theorem sum_ret (w0 : World) (hb0 : Nat) (s : HS) (hwt : s.wt.length = 64) (hH : w0.heap[hb0]? = some (.cells (hashH s).toArray 52 (0, 0))) :
    Ret Try.prog 38 [.pointer (some ⟨hb0, 0, none⟩)] w0 fun v w' => v = .agg ((digest s).map V8).toArray ∧ Hp w0 w' [] [] := by
  refine ret_mk Try.func38 rfl Try.ntmps38 (by simp) ?_
  have H := Hp.start w0 (.blk hb0 (hashH s) 52) hb0 hH rfl
  repeat refine c_seq ?_
  refine c_region ?_
  refine l_op (o_alloc H zc31 (fun b2 w H hb2 => ?_))
  first | refine l_end ?_ | refine l_nil ?_
  repeat refine c_seq ?_
  refine c_region ?_
  refine l_op (o_alloc H zc31 (fun b3 w H hb3 => ?_))
  first | refine l_end ?_ | refine l_nil ?_
  repeat refine c_seq ?_
  refine c_region ?_
  refine l_op (o_mv ?_)
  refine l_op (o_callR Try.func104 rfl rfl rfl (none_at _ hb0 true _ _ (H.blk (i := 0) rfl) rfl) ?_)
  rintro _ w' ⟨rfl, hw⟩
  rw [hw]; clear hw w'
  first | refine l_end ?_ | refine l_nil ?_
  repeat refine c_seq ?_
  refine c_no rfl ?_
  refine c_skip ?_
  repeat refine c_seq ?_
  refine c_region ?_
  refine l_op (o_mv ?_)
  refine l_op (o_nilc rfl ?_)
  refine l_op (o_ldr H (i := 0) rfl rfl rt52 (by rw [hashH_len s hwt]; decide) ?_)
  rw [hashH_all s hwt]
  refine l_op (o_alloc H zc52 (fun b4 w H hb4 => ?_))
  refine l_op (o_stw H (i := 3) rfl rfl rfl (by rw [cs52]; simp [hashH_len s hwt]) (hashH_1 s) (by simp [hashH_len s hwt]) (fun w H => ?_))
  first | refine l_end ?_ | refine l_nil ?_
  repeat refine c_seq ?_
  refine c_region ?_
  refine l_op (o_mv ?_)
  refine l_op (o_nilc rfl ?_)
  refine l_op (o_fa rfl fo52_3 ?_)
  refine l_op (o_ld H (i := 0) rfl rfl ct35 (hashC_num _ _ _ hwt) ?_)
  refine l_op (o_shift rfl rfl (.inl rfl) (fun _ => b_shl_u64 (by decide) (by decide)) ?_)
  refine l_op (o_as ?_)
  first | refine l_end ?_ | refine l_nil ?_
  repeat refine c_seq ?_
  refine c_region ?_
  refine l_op (o_bsl H sl29 zc5 (by decide) rfl (by decide) (fill1 _ (V8 128) rfl) (fun b w H hb => ?_))
  refine l_op (o_callR Try.func35 rfl rfl rfl (write1 (x := 128) H (i := 3) rfl hwt) ?_)
  rintro _ w ⟨rfl, Hc⟩
  clear H
  have H := Hc; clear Hc
  first | refine l_end ?_ | refine l_nil ?_
  have e1 : s.m.toNat < 18446744073709551616 := u64_lt s.m
  repeat refine c_seq ?_
  refine c_block ?_
  refine c_loop (ι := Nat) (fun _ => [(5, V64 (s.m <<< 3)), (4, .pointer (some ⟨b4, 0, none⟩)), (3, .pointer (some ⟨b3, 0, none⟩)), (2, .pointer (some ⟨b2, 0, none⟩))])
    (fun j w => j ≤ zerosOf s.m ∧ Hp w0 w [hb0] [.blk hb0 (hashH s) 52, .blk b2 (List.replicate 32 (V8 0)) 31, .blk b3 (List.replicate 32 (V8 0)) 31, .blk b4 (hashH (absorb s (128 :: List.replicate j 0))) 52])
    (fun j => zerosOf s.m - j) 0 ⟨rfl, rfl, rfl, rfl, trivial⟩ ⟨Nat.zero_le _, H⟩ ?_
  clear H
  rintro j τ w ⟨hj, H⟩
  have hcw : (absorb s (128 :: List.replicate j 0)).wt.length = 64 := by rw [absorb_wt, hwt]
  have hcm : (absorb s (128 :: List.replicate j 0)).m.toNat % 64 = (s.m.toNat + 1 + j) % 64 := by
    rw [absorb_m, UInt64.toNat_add, UInt64.toNat_ofNat', List.length_cons, List.length_replicate]; omega
  repeat refine c_seq ?_
  refine c_region ?_
  refine l_op (o_fa rfl fo52_3 ?_)
  refine l_op (o_ld H (i := 3) rfl rfl ct35 (hashC_num _ _ _ hcw) ?_)
  refine l_op (o_bin rfl rfl (fun _ => b_rem (by omega) (by omega)) ?_)
  refine l_op (o_bin rfl rfl (fun _ => b_neq) ?_)
  first | refine l_end ?_ | refine l_nil ?_
  repeat refine c_seq ?_
  refine c_ifD rfl (fun hne => ?_) (fun hne => ?_)
  · have hjz : j < zerosOf s.m := by
      simp only [zerosOf] at hj ⊢
      omega
    clear hcm hne
    generalize hc : absorb s (128 :: List.replicate j 0) = c at H hcw
    refine c_skip ?_
    repeat refine c_seq ?_
    refine c_block ?_
    repeat refine c_seq ?_
    refine c_region ?_
    refine l_op (o_bsl H sl29 zc5 (by decide) rfl (by decide) (fill1 _ (V8 0) rfl) (fun b w H hb => ?_))
    refine l_op (o_callR Try.func35 rfl rfl rfl (write1 (x := 0) H (i := 3) rfl hcw) ?_)
    rintro _ w ⟨rfl, Hc⟩
    clear H
    have H := Hc; clear Hc
    first | refine l_end ?_ | refine l_nil ?_
    refine round_end (j + 1) ?_ ?_ ?_
    · exact ⟨rfl, rfl, rfl, rfl, trivial⟩
    · refine ⟨hjz, ?_⟩
      have e : absorb s (128 :: List.replicate (j + 1) 0) = absorb c [0] := by
        rw [List.replicate_succ', ← hc, ← absorb_append]; rfl
      rw [e]; exact H
    · show zerosOf s.m - (j + 1) < zerosOf s.m - j; omega
  · have hjz : j = zerosOf s.m := by
      simp only [zerosOf] at hj ⊢
      omega
    subst hjz
    clear hcm hne hj hcw
    refine c_exit ?_
    repeat refine c_seq ?_
    refine c_region ?_
    refine l_op (o_mv ?_)
    first | refine l_end ?_ | refine l_nil ?_
    repeat refine c_seq ?_
    refine c_block ?_
    refine c_loop (ι := Nat) (fun i => [(29, VI i), (5, V64 (s.m <<< 3)), (4, .pointer (some ⟨b4, 0, none⟩)), (3, .pointer (some ⟨b3, 0, none⟩)), (2, .pointer (some ⟨b2, 0, none⟩))])
      (fun i w => i ≤ 8 ∧ Hp w0 w [hb0] [.blk hb0 (hashH s) 52, .blk b2 (List.replicate 32 (V8 0)) 31, .blk b3 (List.replicate 32 (V8 0)) 31, .blk b4 (hashH (absorb s (128 :: (List.replicate (zerosOf s.m) 0 ++ (lenBytes s.m).take i)))) 52])
      (fun i => 8 - i) 0 ⟨rfl, rfl, rfl, rfl, rfl, trivial⟩ ⟨by omega, by rw [List.take_zero, List.append_nil]; exact H⟩ ?_
    clear H
    rintro i τ w ⟨hi, H⟩
    have hcw : (absorb s (128 :: (List.replicate (zerosOf s.m) 0 ++ (lenBytes s.m).take i))).wt.length = 64 := by rw [absorb_wt, hwt]
    repeat refine c_seq ?_
    refine c_region ?_
    refine l_op (o_bin rfl rfl (fun _ => b_lss) ?_)
    first | refine l_end ?_ | refine l_nil ?_
    repeat refine c_seq ?_
    refine c_ifD rfl (fun hlt => ?_) (fun hlt => ?_)
    · have hlt' : i < 8 := by omega
      generalize hc : absorb s (128 :: (List.replicate (zerosOf s.m) 0 ++ (lenBytes s.m).take i)) = c at H hcw
      have e2 : (56 - 8 * (i : Int)).toNat = 56 - 8 * i := by omega
      refine c_skip ?_
      repeat refine c_seq ?_
      refine c_block ?_
      repeat refine c_seq ?_
      refine c_region ?_
      refine l_op (o_mv ?_)
      refine l_op (o_as ?_)
      first | refine l_end ?_ | refine l_nil ?_
      repeat refine c_seq ?_
      refine c_region ?_
      refine l_op (o_mv ?_)
      refine l_op (o_mv ?_)
      refine l_op (o_bin rfl rfl (fun _ => b_mul (by omega) (by omega)) ?_)
      refine l_op (o_bin rfl rfl (fun _ => b_sub (by omega) (by omega)) ?_)
      refine l_op (o_conv Try.underlying3 Try.underlying118 rfl (w_u64_p (a := 56 - 8 * (i : Int)) (by omega) (by omega)) ?_)
      refine l_op (o_shift rfl rfl (.inr rfl) (fun _ => b_shr_u64 (by omega) (by omega)) ?_)
      rw [e2]
      refine l_op (o_conv Try.underlying35 Try.underlying5 rfl (w_u8_64 _) ?_)
      refine l_op (o_bsl H sl29 zc5 (by decide) rfl (by decide) (fill1 _ (V8 (((s.m <<< 3) >>> UInt64.ofNat (56 - 8 * i)).toUInt8)) rfl) (fun b w H hb => ?_))
      refine l_op (o_callR Try.func35 rfl rfl rfl (write1 (x := ((s.m <<< 3) >>> UInt64.ofNat (56 - 8 * i)).toUInt8) H (i := 3) rfl hcw) ?_)
      rintro _ w ⟨rfl, Hc⟩
      clear H
      have H := Hc; clear Hc
      first | refine l_end ?_ | refine l_nil ?_
      repeat refine c_seq ?_
      refine c_region ?_
      refine l_op (o_bin rfl rfl (fun _ => b_add (by omega) (by omega)) ?_)
      refine l_op (o_mv ?_)
      first | refine l_end ?_ | refine l_nil ?_
      refine round_end (i + 1) ?_ ?_ ?_
      · exact ⟨rfl, rfl, rfl, rfl, rfl, trivial⟩
      · refine ⟨hlt', ?_⟩
        have e : absorb s (128 :: (List.replicate (zerosOf s.m) 0 ++ (lenBytes s.m).take (i + 1))) = absorb c [((s.m <<< 3) >>> UInt64.ofNat (56 - 8 * i)).toUInt8] := by
          rw [lenBytes_succ s.m i hlt', ← hc, ← absorb_append, ← List.append_assoc]; rfl
        rw [e]; exact H
      · show 8 - (i + 1) < 8 - i; omega
    · have hi8 : i = 8 := by omega
      subst hi8
      have hcl : absorb s (128 :: (List.replicate (zerosOf s.m) 0 ++ (lenBytes s.m).take 8)) = closed s := by
        rw [List.take_of_length_le (Nat.le_of_eq (lenBytes_length _)), closed, tailOf]
      rw [hcl] at H hcw
      have hdg : digest s = wordBytes (closed s).st.l := rfl
      rw [hdg]
      generalize closed s = c at H hcw
      have hl8 : c.st.l.length = 8 := rfl
      have hld : ((hashH c).drop (0 + 1)).take 8 = c.st.l.map V32 := rfl
      refine c_exit ?_
      repeat refine c_seq ?_
      refine c_region ?_
      refine l_op (o_fa rfl fo52_1 ?_)
      refine l_op (o_ldr H (i := 3) rfl rfl rt49 (by rw [hashH_len c hcw]; decide) ?_)
      rw [hld]
      refine l_op (o_mv ?_)
      first | refine l_end ?_ | refine l_nil ?_
      generalize c.st.l = l at hl8
      have hW := wordBytes_length l
      repeat refine c_seq ?_
      refine c_block ?_
      refine c_loop (ι := Nat) (fun i => [(44, VI i), (43, .agg (l.map V32).toArray), (3, .pointer (some ⟨b3, 0, none⟩)), (2, .pointer (some ⟨b2, 0, none⟩))])
        (fun i w => i ≤ 8 ∧ Hp w0 w [hb0] [.blk hb0 (hashH s) 52, .blk b2 (List.replicate 32 (V8 0)) 31, .blk b3 (pad8 (wordBytes l) (4 * i) 32) 31])
        (fun i => 8 - i) 0 ⟨rfl, rfl, rfl, rfl, trivial⟩ ⟨by omega, by rw [pad8_zero]; exact H.sub (List.sublist_append_left _ [_])⟩ ?_
      clear H
      rintro i τ w ⟨hi, H⟩
      repeat refine c_seq ?_
      refine c_region ?_
      refine l_op (o_bin rfl rfl (fun _ => b_lss) ?_)
      first | refine l_end ?_ | refine l_nil ?_
      repeat refine c_seq ?_
      refine c_ifD rfl (fun hlt => ?_) (fun hlt => ?_)
      · have hlt' : i < 8 := by omega
        have hgi : (l.map V32).toArray[(i : Int).toNat]? = some (V32 (l.getD i 0)) := by
          have : i < l.length := by omega
          simp [this]
        refine c_skip ?_
        repeat refine c_seq ?_
        refine c_block ?_
        repeat refine c_seq ?_
        refine c_region ?_
        refine l_op (o_mv ?_)
        refine l_op (o_idxa (sz := 1) Try.underlying49 ct48 cs48 rfl rfl (by omega) (by omega) hgi ?_)
        refine l_op (o_as ?_)
        refine l_op (o_as ?_)
        first | refine l_end ?_ | refine l_nil ?_
        repeat refine c_seq ?_
        refine c_region ?_
        refine l_op (o_mv ?_)
        first | refine l_end ?_ | refine l_nil ?_
        repeat refine c_seq ?_
        refine c_block ?_
        refine c_loop (ι := Nat) (fun k => [(48, VI k), (44, VI i), (7, VI i), (8, V32 (l.getD i 0)), (43, .agg (l.map V32).toArray), (3, .pointer (some ⟨b3, 0, none⟩)), (2, .pointer (some ⟨b2, 0, none⟩))])
          (fun k w => k ≤ 4 ∧ Hp w0 w [hb0] [.blk hb0 (hashH s) 52, .blk b2 (List.replicate 32 (V8 0)) 31, .blk b3 (pad8 (wordBytes l) (4 * i + k) 32) 31])
          (fun k => 4 - k) 0 ⟨rfl, rfl, rfl, rfl, rfl, rfl, rfl, trivial⟩ ⟨by omega, H⟩ ?_
        clear H
        rintro k τ w ⟨hk, H⟩
        repeat refine c_seq ?_
        refine c_region ?_
        refine l_op (o_bin rfl rfl (fun _ => b_lss) ?_)
        first | refine l_end ?_ | refine l_nil ?_
        repeat refine c_seq ?_
        refine c_ifD rfl (fun hlk => ?_) (fun hlk => ?_)
        · have hlk' : k < 4 := by omega
          have e2 : (24 - 8 * (k : Int)).toNat = 24 - 8 * k := by omega
          have e3 : 0 + (4 * (i : Int) + (k : Int)).toNat * 1 = 4 * i + k := by omega
          have e4 := pad8_set (wordBytes l) (4 * i + k) 32 hW (by omega) _ (wordBytes_get l i k hlt' hlk')
          refine c_skip ?_
          repeat refine c_seq ?_
          refine c_block ?_
          repeat refine c_seq ?_
          refine c_region ?_
          refine l_op (o_mv ?_)
          refine l_op (o_as ?_)
          first | refine l_end ?_ | refine l_nil ?_
          repeat refine c_seq ?_
          refine c_region ?_
          refine l_op (o_mv ?_)
          refine l_op (o_bin rfl rfl (fun _ => b_mul (by omega) (by omega)) ?_)
          refine l_op (o_mv ?_)
          refine l_op (o_bin rfl rfl (fun _ => b_add (by omega) (by omega)) ?_)
          refine l_op (o_mv ?_)
          refine l_op (o_mv ?_)
          refine l_op (o_bin rfl rfl (fun _ => b_mul (by omega) (by omega)) ?_)
          refine l_op (o_bin rfl rfl (fun _ => b_sub (by omega) (by omega)) ?_)
          refine l_op (o_conv Try.underlying3 Try.underlying118 rfl (w_u64_p (a := 24 - 8 * (k : Int)) (by omega) (by omega)) ?_)
          refine l_op (o_shift rfl rfl (.inr rfl) (fun _ => b_shr_u32 (by omega) (by omega)) ?_)
          rw [e2]
          refine l_op (o_conv Try.underlying48 Try.underlying5 rfl (w_u8_32 _) ?_)
          refine l_op (o_ia rfl rfl ar31 (by omega) (by omega) ?_)
          refine l_op (o_st H (i := 2) (v := V8 ((l.getD i 0) >>> UInt32.ofNat (24 - 8 * k)).toUInt8) rfl rfl rfl cs5 rfl (by rw [pad8_length _ _ _ hW (by omega)]; omega) (fun w H => ?_))
          first | refine l_end ?_ | refine l_nil ?_
          rw [e3, e4] at H
          repeat refine c_seq ?_
          refine c_region ?_
          refine l_op (o_bin rfl rfl (fun _ => b_add (by omega) (by omega)) ?_)
          refine l_op (o_mv ?_)
          first | refine l_end ?_ | refine l_nil ?_
          refine round_end (k + 1) ?_ ?_ ?_
          · exact ⟨rfl, rfl, rfl, rfl, rfl, rfl, rfl, trivial⟩
          · exact ⟨hlk', H⟩
          · show 4 - (k + 1) < 4 - k; omega
        · have hk4 : k = 4 := by omega
          subst hk4
          refine c_exit ?_
          repeat refine c_seq ?_
          refine c_region ?_
          refine l_op (o_bin rfl rfl (fun _ => b_add (by omega) (by omega)) ?_)
          refine l_op (o_mv ?_)
          first | refine l_end ?_ | refine l_nil ?_
          refine round_end (i + 1) ?_ ?_ ?_
          · exact ⟨rfl, rfl, rfl, rfl, trivial⟩
          · exact ⟨hlt', H⟩
          · show 8 - (i + 1) < 8 - i; omega
      · have hi8 : i = 8 := by omega
        subst hi8
        rw [pad8_all _ _ hW] at H
        have hWa : ((wordBytes l).map V8).toArray.all (·.oneCell') = true := by rw [List.all_toArray]; simp [Value.oneCell']
        have hWt : (((wordBytes l).map V8).drop 0).take 32 = (wordBytes l).map V8 := by rw [List.drop_zero, List.take_of_length_le (by simp [hW])]
        refine c_exit ?_
        repeat refine c_seq ?_
        refine c_region ?_
        refine l_op (o_ldr H (i := 2) rfl rfl rt31 (by simp [hW]) ?_)
        rw [hWt]
        refine l_op (o_stw H (i := 1) rfl rfl rfl (by rw [cs31]; simp [hW]) hWa (by simp [hW]) (fun w H => ?_))
        first | refine l_end ?_ | refine l_nil ?_
        refine c_ret (e_retc Try.results38 H (i := 1) rfl rfl rt31 (by simp [hW]) ⟨_, rfl, rfl, ?_⟩)
        exact (H.unS hH).sub (List.nil_sublist _)
end Go.Proofs.Ytjmbbhnpfmblpaa
