/- Lemmas for the statement StateUsed, part 2: rules of operations, walks through functions, plain laws. -/
import Derived.Test.YthigalfaanccnaaGreatStateUsedG1
import Derived.Deep.Slices
import Derived.Laws.IdiomRangeMap
import Derived.Laws.StructEq
import Derived.Maps.RangeRun
import Derived.OpenShut
import Derived.ProofKit
import Derived.Test.YthigalfaanccnaaGreatRows
import Derived.WideKeyRuns
namespace Go.Proofs.YthigalfaanccnaaGreat
open Go
set_option maxRecDepth 100000
theorem w_u64_p {a : Int} (h0 : 0 ≤ a) (h1 : a < 18446744073709551616) : IntKind.u64.wrap a = a := by rw [wrap_u64]; omega
/-- a byte of one's own written into a hash of one's own. -/
theorem write1 {w0 w : World} {S : List Nat} {L : List Ch} {b hb i : Nat} {s : HS} {x : UInt8} {T : TypeId} (H : Hp w0 w S (L ++ [.blk b [V8 x] T])) (hi : L[i]? = some (.blk hb (hashH s) 158)) (hwt : s.wt.length = 64) :
    Ret Tryz.prog 72 [.pointer (some ⟨hb, 0, none⟩), .slice (some ⟨b, 0, none⟩) 1 1] w fun v w' => v = .tuple #[] ∧ Hp w0 w' S (L.set i (.blk hb (hashH (absorb s [x])) 158)) := by
  have hlt : i < L.length := (List.getElem?_eq_some_iff.1 hi).1
  have hi' : (L ++ [Ch.blk b [V8 x] T])[i]? = some (.blk hb (hashH s) 158) := by rw [List.getElem?_append_left hlt]; exact hi
  have hb' : (Ch.blk b [V8 x] T).ok w := H.has _ (by simp)
  have hne : b ≠ hb := by
    intro e
    have := pw_ne H.nd (i := i) (j := L.length) (e := .blk b [V8 x] T) hi' (by simp) (by omega) (b := hb) rfl
    exact this (by rw [e]; rfl)
  refine (write_ret w hb s (some ⟨b, 0, none⟩) 1 1 [x] hwt (H.has _ (List.mem_of_getElem? hi')) (Ch.rd_all hb') rfl (Nat.le_refl _) (fun _ y hy => ?_) (by decide)).mono fun v w' ⟨hv, Hc⟩ => ⟨hv, ?_⟩
  · cases hy; simpa using hne
  · have := H.callAt hi' rfl rfl Hc
    rw [List.append_nil, List.set_append_left _ _ hlt] at this
    exact this.sub (List.sublist_append_left _ _)
theorem fill1 (z v : Value) (hv : v.oneCell' = true) : Instr.fill (fun i => some (i * 1, 1)) ((Array.range (1 * 1)).map (([z].toArray)[· % ([z].toArray).size]!)) [(0, v)] = some #[v] := by
  have : v.cells = #[v] := by cases v <;> simp_all [Value.cells, Value.oneCell']
  have e : Array.range (1 * 1) = #[0] := by decide
  rw [e]
  simp [Instr.fill, this, Array.zipIdx]
set_option maxHeartbeats 4000000 in
theorem sum_ret (w0 : World) (hb0 : Nat) (s : HS) (hwt : s.wt.length = 64) (hH : w0.heap[hb0]? = some (.cells (hashH s).toArray 158 (0, 0))) :
    Ret Tryz.prog 73 [.pointer (some ⟨hb0, 0, none⟩)] w0 fun v w' => v = .agg ((digest s).map V8).toArray ∧ Hp w0 w' [] [] := by
  refine ret_mk Tryz.func73 rfl Tryz.ntmps73 (by simp) ?_
  have H := Hp.start w0 (.blk hb0 (hashH s) 158) hb0 hH rfl
  repeat refine c_seq ?_
  refine c_region ?_; refine l_op (o_alloc H zc23 (fun b2 w H hb2 => ?_)); first | refine l_end ?_ | refine l_nil ?_
  repeat refine c_seq ?_
  refine c_region ?_; refine l_op (o_alloc H zc23 (fun b3 w H hb3 => ?_)); first | refine l_end ?_ | refine l_nil ?_
  repeat refine c_seq ?_
  refine c_region ?_; refine l_op (o_mv ?_); refine l_op (o_callR Tryz.func98 rfl rfl rfl (none_at _ hb0 true _ _ (H.blk (i := 0) rfl) rfl) ?_); rintro _ w' ⟨rfl, hw⟩
  rw [hw]; clear hw w'
  first | refine l_end ?_ | refine l_nil ?_
  repeat refine c_seq ?_
  refine c_no rfl ?_; refine c_skip ?_; repeat refine c_seq ?_
  refine c_region ?_; refine l_op (o_mv ?_); refine l_op (o_nilc rfl ?_); refine l_op (o_ldr H (i := 0) rfl rfl rt158 (by rw [hashH_len s hwt]; decide) ?_)
  rw [hashH_all s hwt]
  refine l_op (o_alloc H zc158 (fun b4 w H hb4 => ?_)); refine l_op (o_stw H (i := 3) rfl rfl rfl (by rw [cs158]; simp [hashH_len s hwt]) (hashH_1 s) (by simp [hashH_len s hwt]) (fun w H => ?_)); first | refine l_end ?_ | refine l_nil ?_
  repeat refine c_seq ?_
  refine c_region ?_; refine l_op (o_mv ?_); refine l_op (o_nilc rfl ?_); refine l_op (o_fa rfl fo158_3 ?_); refine l_op (o_ld H (i := 0) rfl rfl ct36 (hashC_num _ _ _ hwt) ?_); refine l_op (o_shift rfl rfl (.inl rfl) (fun _ => b_shl_u64 (by decide) (by decide)) ?_); refine l_op (o_as ?_); first | refine l_end ?_ | refine l_nil ?_
  repeat refine c_seq ?_
  refine c_region ?_; refine l_op (o_bsl H sl50 zc5 (by decide) rfl (by decide) (fill1 _ (V8 128) rfl) (fun b w H hb => ?_)); refine l_op (o_callR Tryz.func72 rfl rfl rfl (write1 (x := 128) H (i := 3) rfl hwt) ?_); rintro _ w ⟨rfl, Hc⟩
  clear H
  have H := Hc; clear Hc
  first | refine l_end ?_ | refine l_nil ?_
  have e1 : s.m.toNat < 18446744073709551616 := u64_lt s.m
  repeat refine c_seq ?_
  refine c_block ?_; refine c_loop (ι := Nat) (fun _ => [(5, V64 (s.m <<< 3)), (4, .pointer (some ⟨b4, 0, none⟩)), (3, .pointer (some ⟨b3, 0, none⟩)), (2, .pointer (some ⟨b2, 0, none⟩))])
    (fun j w => j ≤ zerosOf s.m ∧ Hp w0 w [hb0] [.blk hb0 (hashH s) 158, .blk b2 (List.replicate 32 (V8 0)) 23, .blk b3 (List.replicate 32 (V8 0)) 23, .blk b4 (hashH (absorb s (128 :: List.replicate j 0))) 158])
    (fun j => zerosOf s.m - j) 0 ⟨rfl, rfl, rfl, rfl, trivial⟩ ⟨Nat.zero_le _, H⟩ ?_
  clear H
  rintro j τ w ⟨hj, H⟩
  have hcw : (absorb s (128 :: List.replicate j 0)).wt.length = 64 := by rw [absorb_wt, hwt]
  have hcm : (absorb s (128 :: List.replicate j 0)).m.toNat % 64 = (s.m.toNat + 1 + j) % 64 := by
    rw [absorb_m, UInt64.toNat_add, UInt64.toNat_ofNat', List.length_cons, List.length_replicate]; omega
  repeat refine c_seq ?_
  refine c_region ?_; refine l_op (o_fa rfl fo158_3 ?_); refine l_op (o_ld H (i := 3) rfl rfl ct36 (hashC_num _ _ _ hcw) ?_); refine l_op (o_bin rfl rfl (fun _ => b_rem (by omega) (by omega)) ?_); refine l_op (o_bin rfl rfl (fun _ => b_neq) ?_); first | refine l_end ?_ | refine l_nil ?_
  repeat refine c_seq ?_
  refine c_ifD rfl (fun hne => ?_) (fun hne => ?_)
  · have hjz : j < zerosOf s.m := by
      simp only [zerosOf] at hj ⊢
      omega
    clear hcm hne
    generalize hc : absorb s (128 :: List.replicate j 0) = c at H hcw
    refine c_skip ?_; repeat refine c_seq ?_
    refine c_block ?_; repeat refine c_seq ?_
    refine c_region ?_; refine l_op (o_bsl H sl50 zc5 (by decide) rfl (by decide) (fill1 _ (V8 0) rfl) (fun b w H hb => ?_)); refine l_op (o_callR Tryz.func72 rfl rfl rfl (write1 (x := 0) H (i := 3) rfl hcw) ?_); rintro _ w ⟨rfl, Hc⟩
    clear H
    have H := Hc; clear Hc
    first | refine l_end ?_ | refine l_nil ?_
    refine round_end (j + 1) ?_ ?_ ?_
    · exact ⟨rfl, rfl, rfl, rfl, trivial⟩
    · refine ⟨hjz, ?_⟩
      have e : absorb s (128 :: List.replicate (j + 1) 0) = absorb c [0] := by
        rw [List.replicate_succ', ← hc, ← absorb_append]; rfl
      rw [e]; exact H
    · show zerosOf s.m - (j + 1) < zerosOf s.m - j; omega
  · have hjz : j = zerosOf s.m := by
      simp only [zerosOf] at hj ⊢
      omega
    subst hjz
    clear hcm hne hj hcw
    refine c_exit ?_; repeat refine c_seq ?_
    refine c_region ?_; refine l_op (o_mv ?_); first | refine l_end ?_ | refine l_nil ?_
    repeat refine c_seq ?_
    refine c_block ?_; refine c_loop (ι := Nat) (fun i => [(29, VI i), (5, V64 (s.m <<< 3)), (4, .pointer (some ⟨b4, 0, none⟩)), (3, .pointer (some ⟨b3, 0, none⟩)), (2, .pointer (some ⟨b2, 0, none⟩))])
      (fun i w => i ≤ 8 ∧ Hp w0 w [hb0] [.blk hb0 (hashH s) 158, .blk b2 (List.replicate 32 (V8 0)) 23, .blk b3 (List.replicate 32 (V8 0)) 23, .blk b4 (hashH (absorb s (128 :: (List.replicate (zerosOf s.m) 0 ++ (lenBytes s.m).take i)))) 158])
      (fun i => 8 - i) 0 ⟨rfl, rfl, rfl, rfl, rfl, trivial⟩ ⟨by omega, by rw [List.take_zero, List.append_nil]; exact H⟩ ?_
    clear H
    rintro i τ w ⟨hi, H⟩
    have hcw : (absorb s (128 :: (List.replicate (zerosOf s.m) 0 ++ (lenBytes s.m).take i))).wt.length = 64 := by rw [absorb_wt, hwt]
    repeat refine c_seq ?_
    refine c_region ?_; refine l_op (o_bin rfl rfl (fun _ => b_lss) ?_); first | refine l_end ?_ | refine l_nil ?_
    repeat refine c_seq ?_
    refine c_ifD rfl (fun hlt => ?_) (fun hlt => ?_)
    · have hlt' : i < 8 := by omega
      generalize hc : absorb s (128 :: (List.replicate (zerosOf s.m) 0 ++ (lenBytes s.m).take i)) = c at H hcw
      have e2 : (56 - 8 * (i : Int)).toNat = 56 - 8 * i := by omega
      refine c_skip ?_; repeat refine c_seq ?_
      refine c_block ?_; repeat refine c_seq ?_
      refine c_region ?_; refine l_op (o_mv ?_); refine l_op (o_as ?_); first | refine l_end ?_ | refine l_nil ?_
      repeat refine c_seq ?_
      refine c_region ?_; refine l_op (o_mv ?_); refine l_op (o_mv ?_); refine l_op (o_bin rfl rfl (fun _ => b_mul (by omega) (by omega)) ?_); refine l_op (o_bin rfl rfl (fun _ => b_sub (by omega) (by omega)) ?_); refine l_op (o_conv Tryz.underlying3 Tryz.underlying91 rfl (w_u64_p (a := 56 - 8 * (i : Int)) (by omega) (by omega)) ?_); refine l_op (o_shift rfl rfl (.inr rfl) (fun _ => b_shr_u64 (by omega) (by omega)) ?_)
      rw [e2]
      refine l_op (o_conv Tryz.underlying36 Tryz.underlying5 rfl (w_u8_64 _) ?_); refine l_op (o_bsl H sl50 zc5 (by decide) rfl (by decide) (fill1 _ (V8 (((s.m <<< 3) >>> UInt64.ofNat (56 - 8 * i)).toUInt8)) rfl) (fun b w H hb => ?_)); refine l_op (o_callR Tryz.func72 rfl rfl rfl (write1 (x := ((s.m <<< 3) >>> UInt64.ofNat (56 - 8 * i)).toUInt8) H (i := 3) rfl hcw) ?_); rintro _ w ⟨rfl, Hc⟩
      clear H
      have H := Hc; clear Hc
      first | refine l_end ?_ | refine l_nil ?_
      repeat refine c_seq ?_
      refine c_region ?_; refine l_op (o_bin rfl rfl (fun _ => b_add (by omega) (by omega)) ?_); refine l_op (o_mv ?_); first | refine l_end ?_ | refine l_nil ?_
      refine round_end (i + 1) ?_ ?_ ?_
      · exact ⟨rfl, rfl, rfl, rfl, rfl, trivial⟩
      · refine ⟨hlt', ?_⟩
        have e : absorb s (128 :: (List.replicate (zerosOf s.m) 0 ++ (lenBytes s.m).take (i + 1))) = absorb c [((s.m <<< 3) >>> UInt64.ofNat (56 - 8 * i)).toUInt8] := by
          rw [lenBytes_succ s.m i hlt', ← hc, ← absorb_append, ← List.append_assoc]; rfl
        rw [e]; exact H
      · show 8 - (i + 1) < 8 - i; omega
    · have hi8 : i = 8 := by omega
      subst hi8
      have hcl : absorb s (128 :: (List.replicate (zerosOf s.m) 0 ++ (lenBytes s.m).take 8)) = closed s := by
        rw [List.take_of_length_le (Nat.le_of_eq (lenBytes_length _)), closed, tailOf]
      rw [hcl] at H hcw
      have hdg : digest s = wordBytes (closed s).st.l := rfl
      rw [hdg]
      generalize closed s = c at H hcw
      have hl8 : c.st.l.length = 8 := rfl
      have hld : ((hashH c).drop (0 + 1)).take 8 = c.st.l.map V32 := rfl
      refine c_exit ?_; repeat refine c_seq ?_
      refine c_region ?_; refine l_op (o_fa rfl fo158_1 ?_); refine l_op (o_ldr H (i := 3) rfl rfl rt155 (by rw [hashH_len c hcw]; decide) ?_)
      rw [hld]
      refine l_op (o_mv ?_); first | refine l_end ?_ | refine l_nil ?_
      generalize c.st.l = l at hl8
      have hW := wordBytes_length l
      repeat refine c_seq ?_
      refine c_block ?_; refine c_loop (ι := Nat) (fun i => [(44, VI i), (43, .agg (l.map V32).toArray), (3, .pointer (some ⟨b3, 0, none⟩)), (2, .pointer (some ⟨b2, 0, none⟩))])
        (fun i w => i ≤ 8 ∧ Hp w0 w [hb0] [.blk hb0 (hashH s) 158, .blk b2 (List.replicate 32 (V8 0)) 23, .blk b3 (pad8 (wordBytes l) (4 * i) 32) 23])
        (fun i => 8 - i) 0 ⟨rfl, rfl, rfl, rfl, trivial⟩ ⟨by omega, by rw [pad8_zero]; exact H.sub (List.sublist_append_left _ [_])⟩ ?_
      clear H
      rintro i τ w ⟨hi, H⟩
      repeat refine c_seq ?_
      refine c_region ?_; refine l_op (o_bin rfl rfl (fun _ => b_lss) ?_); first | refine l_end ?_ | refine l_nil ?_
      repeat refine c_seq ?_
      refine c_ifD rfl (fun hlt => ?_) (fun hlt => ?_)
      · have hlt' : i < 8 := by omega
        have hgi : (l.map V32).toArray[(i : Int).toNat]? = some (V32 (l.getD i 0)) := by
          have : i < l.length := by omega
          simp [this]
        refine c_skip ?_; repeat refine c_seq ?_
        refine c_block ?_; repeat refine c_seq ?_
        refine c_region ?_; refine l_op (o_mv ?_); refine l_op (o_idxa (sz := 1) Tryz.underlying155 ct141 cs141 rfl rfl (by omega) (by omega) hgi ?_); refine l_op (o_as ?_); refine l_op (o_as ?_); first | refine l_end ?_ | refine l_nil ?_
        repeat refine c_seq ?_
        refine c_region ?_; refine l_op (o_mv ?_); first | refine l_end ?_ | refine l_nil ?_
        repeat refine c_seq ?_
        refine c_block ?_; refine c_loop (ι := Nat) (fun k => [(48, VI k), (44, VI i), (7, VI i), (8, V32 (l.getD i 0)), (43, .agg (l.map V32).toArray), (3, .pointer (some ⟨b3, 0, none⟩)), (2, .pointer (some ⟨b2, 0, none⟩))])
          (fun k w => k ≤ 4 ∧ Hp w0 w [hb0] [.blk hb0 (hashH s) 158, .blk b2 (List.replicate 32 (V8 0)) 23, .blk b3 (pad8 (wordBytes l) (4 * i + k) 32) 23])
          (fun k => 4 - k) 0 ⟨rfl, rfl, rfl, rfl, rfl, rfl, rfl, trivial⟩ ⟨by omega, H⟩ ?_
        clear H
        rintro k τ w ⟨hk, H⟩
        repeat refine c_seq ?_
        refine c_region ?_; refine l_op (o_bin rfl rfl (fun _ => b_lss) ?_); first | refine l_end ?_ | refine l_nil ?_
        repeat refine c_seq ?_
        refine c_ifD rfl (fun hlk => ?_) (fun hlk => ?_)
        · have hlk' : k < 4 := by omega
          have e2 : (24 - 8 * (k : Int)).toNat = 24 - 8 * k := by omega
          have e3 : 0 + (4 * (i : Int) + (k : Int)).toNat * 1 = 4 * i + k := by omega
          have e4 := pad8_set (wordBytes l) (4 * i + k) 32 hW (by omega) _ (wordBytes_get l i k hlt' hlk')
          refine c_skip ?_; repeat refine c_seq ?_
          refine c_block ?_; repeat refine c_seq ?_
          refine c_region ?_; refine l_op (o_mv ?_); refine l_op (o_as ?_); first | refine l_end ?_ | refine l_nil ?_
          repeat refine c_seq ?_
          refine c_region ?_; refine l_op (o_mv ?_); refine l_op (o_bin rfl rfl (fun _ => b_mul (by omega) (by omega)) ?_); refine l_op (o_mv ?_); refine l_op (o_bin rfl rfl (fun _ => b_add (by omega) (by omega)) ?_); refine l_op (o_mv ?_); refine l_op (o_mv ?_); refine l_op (o_bin rfl rfl (fun _ => b_mul (by omega) (by omega)) ?_); refine l_op (o_bin rfl rfl (fun _ => b_sub (by omega) (by omega)) ?_); refine l_op (o_conv Tryz.underlying3 Tryz.underlying91 rfl (w_u64_p (a := 24 - 8 * (k : Int)) (by omega) (by omega)) ?_); refine l_op (o_shift rfl rfl (.inr rfl) (fun _ => b_shr_u32 (by omega) (by omega)) ?_)
          rw [e2]
          refine l_op (o_conv Tryz.underlying141 Tryz.underlying5 rfl (w_u8_32 _) ?_); refine l_op (o_ia rfl rfl ar23 (by omega) (by omega) ?_); refine l_op (o_st H (i := 2) (v := V8 ((l.getD i 0) >>> UInt32.ofNat (24 - 8 * k)).toUInt8) rfl rfl rfl cs5 rfl (by rw [pad8_length _ _ _ hW (by omega)]; omega) (fun w H => ?_)); first | refine l_end ?_ | refine l_nil ?_
          rw [e3, e4] at H
          repeat refine c_seq ?_
          refine c_region ?_; refine l_op (o_bin rfl rfl (fun _ => b_add (by omega) (by omega)) ?_); refine l_op (o_mv ?_); first | refine l_end ?_ | refine l_nil ?_
          refine round_end (k + 1) ?_ ?_ ?_
          · exact ⟨rfl, rfl, rfl, rfl, rfl, rfl, rfl, trivial⟩
          · exact ⟨hlk', H⟩
          · show 4 - (k + 1) < 4 - k; omega
        · have hk4 : k = 4 := by omega
          subst hk4
          refine c_exit ?_; repeat refine c_seq ?_
          refine c_region ?_; refine l_op (o_bin rfl rfl (fun _ => b_add (by omega) (by omega)) ?_); refine l_op (o_mv ?_); first | refine l_end ?_ | refine l_nil ?_
          refine round_end (i + 1) ?_ ?_ ?_
          · exact ⟨rfl, rfl, rfl, rfl, trivial⟩
          · exact ⟨hlt', H⟩
          · show 8 - (i + 1) < 8 - i; omega
      · have hi8 : i = 8 := by omega
        subst hi8
        rw [pad8_all _ _ hW] at H
        have hWa : ((wordBytes l).map V8).toArray.all (·.oneCell') = true := by rw [List.all_toArray]; simp [Value.oneCell']
        have hWt : (((wordBytes l).map V8).drop 0).take 32 = (wordBytes l).map V8 := by rw [List.drop_zero, List.take_of_length_le (by simp [hW])]
        refine c_exit ?_; repeat refine c_seq ?_
        refine c_region ?_; refine l_op (o_ldr H (i := 2) rfl rfl rt23 (by simp [hW]) ?_)
        rw [hWt]
        refine l_op (o_stw H (i := 1) rfl rfl rfl (by rw [cs23]; simp [hW]) hWa (by simp [hW]) (fun w H => ?_)); first | refine l_end ?_ | refine l_nil ?_
        refine c_ret (e_retc Tryz.results73 H (i := 1) rfl rfl rt23 (by simp [hW]) ⟨_, rfl, rfl, ?_⟩); exact (H.unS hH).sub (List.nil_sublist _)
end Go.Proofs.YthigalfaanccnaaGreat
namespace Go.Proofs.YthigalfaanccnaaGreat
open Go
set_option maxRecDepth 100000
section
variable {P : Program} {Q : Exit → Act → World → Prop} {n : Nat} {σ : Nat → Value} {w w0 : World} {K : Act → World → Prop}
  {ty : TypeId} {pos : String} {aft : Array Edge} {g : Option (Nat × Bool)} {d : Nat} {t : TypeId} {x : Operand} {S : List Nat} {L : List Ch}
/-- a row that was written out as a constant text: marked. -/
def litO (C : List Value) (e : TypeId) : Obj := .cells C.toArray e (C.length, C.length + 1)
theorem o_lit {b i len cap : Nat} {C : List Value} {e : TypeId} (H : Hp w0 w S L) (hi : L[i]? = some (.blk b C e)) (hu : P.underlying t = some (.slice e)) (he : P.underlying e = some (.int .u8)) (hx : ev n σ x = .slice (some ⟨b, 0, none⟩) len cap)
    (h : ∀ w', Hp w0 w' S (L.set i (.obj b (litO C e))) → K (mk n (up σ d (.slice (some ⟨b, 0, none⟩) len cap))) w') :
    Oper.wp P ⟨some d, .convert t t x, ty, pos, aft, g⟩ (mk n σ) w K Q := by
  have hb := H.blk hi
  have hlt : b < w.heap.size := (Array.getElem?_eq_some_iff.1 hb).1
  have hsh : w.shape? b = some (e, C.length) := by simp [World.shape?, hb]
  refine o_val (v := .slice (some ⟨b, 0, none⟩) len cap) (w' := w.freeze ⟨b, C.length, none⟩ 1) ?_ (h _ ?_)
  · simp only [execOp, hx, Sem.run_bind, convert, run_underlying hu, Result.andThen_ok]
    simp [run_underlying he, markStringish, hsh]
  · have hf : ∀ k, (w.freeze ⟨b, C.length, none⟩ 1).heap[k]? = if b = k then some (litO C e) else w.heap[k]? := by
      intro k
      unfold World.freeze
      rw [if_neg (by decide)]
      simp only [Array.getElem?_modify]
      split
      · rename_i hk; subst hk
        rw [hb]; simp [litO]
      · rfl
    refine H.turn hi (c' := .obj b (litO C e)) ?_ (fun b' hb' => .inl hb') rfl rfl rfl ?_ (fun b' _ hne => ?_)
    · simp only [Ch.ok]; rw [hf, if_pos rfl]
    · unfold World.freeze; rw [if_neg (by decide)]; simp
    · rw [hf, if_neg]; intro e'; exact hne (by rw [e']; rfl)
theorem Ch.rd_lit {b : Nat} {C : List Value} {e : TypeId} {w : World} (h : (Ch.obj b (litO C e)).ok w) : RdS w (some ⟨b, 0, none⟩) C :=
  .inr ⟨b, 0, _, e, _, rfl, h, fun i v hv => by simpa using hv⟩
end
/-- a slice of bytes as a world has it. -/
structure Sl where
  a : Option Addr
  len : Nat
  cap : Nat
  l : List UInt8
def Sl.v (s : Sl) : Value := .slice s.a s.len s.cap
structure Sl.ok (s : Sl) (w : World) : Prop where
  rd : RdS w s.a (s.l.map V8)
  ln : s.l.length = s.len
  le : s.len ≤ s.cap
  mx : s.len ≤ 9223372036854775807
theorem Hp.rd' {w0 w : World} {S : List Nat} {L : List Ch} (h : Hp w0 w S L) {a : Option Addr} {vs : List Value} (hr : RdS w0 a vs) (hap : vs ≠ [] → Apart a S) : RdS w a vs := by
  by_cases hv : vs = []
  · exact .inl hv
  · exact h.rd hr (hap hv)
theorem Sl.ok.up {x : Sl} {w0 w : World} {S : List Nat} {L : List Ch} (hx : x.ok w0) (H : Hp w0 w S L) (hap : x.l ≠ [] → Apart x.a S) : x.ok w :=
  ⟨H.rd' hx.rd (fun h => hap (by simpa using h)), hx.ln, hx.le, hx.mx⟩
theorem Sl.ok.apart {x : Sl} {w0 : World} (hx : x.ok w0) {b : Nat} (hb : w0.heap.size ≤ b) : x.l ≠ [] → Apart x.a [b] := by
  intro hne y hy
  rcases hx.rd with h | ⟨b', o, C, T, fr, ha, hh, _⟩
  · exact absurd (by simpa using h) hne
  · rw [ha] at hy
    cases hy
    have := (Array.getElem?_eq_some_iff.1 hh).1
    simp only [List.mem_singleton]; omega
theorem Hp.newer {w0 w : World} {L : List Ch} (H : Hp w0 w [] L) {i b : Nat} {c : Ch} (hi : L[i]? = some c) (hk : c.key = some b) : w0.heap.size ≤ b := by
  rcases H.fresh c (List.mem_of_getElem? hi) b hk with h | h
  · simp at h
  · exact h
def cat (ps : List Sl) : List UInt8 := ps.flatMap (·.l)
theorem cat_succ (ps : List Sl) (i : Nat) (p : Sl) (h : ps[i]? = some p) : cat (ps.take (i + 1)) = cat (ps.take i) ++ p.l := by
  rw [List.take_add_one, h]; simp [cat]
/-- a write into a hash of one's own, of what was there ahead. -/
theorem writeS {w0 w : World} {S : List Nat} {L : List Ch} {hb i : Nat} {s : HS} {x : Sl} (H : Hp w0 w S L) (hi : L[i]? = some (.blk hb (hashH s) 158)) (hwt : s.wt.length = 64) (hx : x.ok w) (hap : x.l ≠ [] → Apart x.a [hb]) :
    Ret Tryz.prog 72 [.pointer (some ⟨hb, 0, none⟩), x.v] w fun v w' => v = .tuple #[] ∧ Hp w0 w' S (L.set i (.blk hb (hashH (absorb s x.l)) 158)) := by
  refine (write_ret w hb s x.a x.len x.cap x.l hwt (H.has _ (List.mem_of_getElem? hi)) hx.rd hx.ln hx.le hap hx.mx).mono fun v w' ⟨hv, Hc⟩ => ⟨hv, ?_⟩
  have := H.callAt hi rfl rfl Hc
  rw [List.append_nil] at this
  exact this
theorem initH : hashC initS (List.replicate 64 0) 0 = hashH HS.init := rfl
theorem absorb64 (l : List UInt8) : (absorb HS.init l).wt.length = 64 := by rw [absorb_wt]; rfl
theorem of_ret (w0 : World) (pa : Option Addr) (len cap : Nat) (ps : List Sl) (hr : RdS w0 pa (ps.map Sl.v)) (hl : ps.length = len) (hok : ∀ p ∈ ps, p.ok w0) (hmx : len < 9223372036854775807) :
    Ret Tryz.prog 31 [.slice pa len cap] w0 fun v w' => v = .agg ((digest (absorb HS.init (cat ps))).map V8).toArray ∧ Hp w0 w' [] [] := by
  refine ret_mk Tryz.func31 rfl Tryz.ntmps31 (by simp) ?_
  have H := Hp.refl w0 []
  repeat refine c_seq ?_
  refine c_region ?_; refine l_op (o_alloc H zc23 (fun b2 w H hb2 => ?_)); first | refine l_end ?_ | refine l_nil ?_
  repeat refine c_seq ?_
  refine c_region ?_; refine l_op (o_callR Tryz.func71 rfl rfl rfl (new_ret _) ?_); rintro _ w ⟨hb, rfl, Hc⟩
  replace H := H.call Hc
  rw [initH] at H
  clear Hc
  refine l_op (o_as ?_); first | refine l_end ?_ | refine l_nil ?_
  repeat refine c_seq ?_
  refine c_region ?_; refine l_op (o_mv ?_); refine l_op (o_lens el82 rfl ?_); refine l_op (o_mv ?_); first | refine l_end ?_ | refine l_nil ?_
  repeat refine c_seq ?_
  refine c_block ?_; refine c_loop (ι := Nat) (fun i => [(9, VI i), (8, VI len), (7, .slice pa len cap), (3, .pointer (some ⟨hb, 0, none⟩)), (2, .pointer (some ⟨b2, 0, none⟩))])
    (fun i w => i ≤ len ∧ Hp w0 w [] [.blk b2 (List.replicate 32 (V8 0)) 23, .blk hb (hashH (absorb HS.init (cat (ps.take i)))) 158])
    (fun i => len - i) 0 ⟨rfl, rfl, rfl, rfl, rfl, trivial⟩ ⟨by omega, H⟩ ?_
  clear H
  rintro i τ w ⟨hi, H⟩
  repeat refine c_seq ?_
  refine c_region ?_; refine l_op (o_bin rfl rfl (fun _ => b_lss) ?_); first | refine l_end ?_ | refine l_nil ?_
  repeat refine c_seq ?_
  refine c_ifD rfl (fun hlt => ?_) (fun hlt => ?_)
  · have hlt' : i < len := by omega
    have hgi : ps[i]? = some (ps[i]'(by omega)) := List.getElem?_eq_getElem _
    generalize (ps[i]'(by omega)) = p at hgi
    have hp := hok p (List.mem_of_getElem? hgi)
    have hv : (ps.map Sl.v)[(i : Int).toNat * 1]? = some p.v := by simp [hgi]
    refine c_skip ?_; repeat refine c_seq ?_
    refine c_block ?_; repeat refine c_seq ?_
    refine c_region ?_; refine l_op (o_is rfl rfl el82 (by omega) (by omega) (by decide) (H.rd hr (apart_nil _)) (by simp [hl]) (fun b o ha => ?_)); refine l_op (o_lds (H.rd hr (apart_nil _)) ha rfl ct50 hv ?_); refine l_op (o_as ?_); first | refine l_end ?_ | refine l_nil ?_
    repeat refine c_seq ?_
    refine c_region ?_; refine l_op (o_mv ?_); refine l_op (o_mv ?_); refine l_op (o_callR Tryz.func72 rfl rfl rfl (writeS H (i := 1) rfl (absorb64 _) (hp.up H (fun _ => apart_nil _)) (hp.apart (H.newer (i := 1) rfl rfl))) ?_); rintro _ w ⟨rfl, Hc⟩
    clear H
    have H := Hc; clear Hc
    rw [← absorb_append, ← cat_succ ps i p hgi] at H
    first | refine l_end ?_ | refine l_nil ?_
    repeat refine c_seq ?_
    refine c_region ?_; refine l_op (o_bin rfl rfl (fun _ => b_add (by omega) (by omega)) ?_); refine l_op (o_mv ?_); first | refine l_end ?_ | refine l_nil ?_
    refine round_end (i + 1) ?_ ?_ ?_
    · exact ⟨rfl, rfl, rfl, rfl, rfl, trivial⟩
    · exact ⟨hlt', H⟩
    · show len - (i + 1) < len - i; omega
  · have hi' : i = len := by omega
    subst hi'
    rw [List.take_of_length_le (Nat.le_of_eq hl)] at H
    have hd := digest_length (absorb HS.init (cat ps))
    refine c_exit ?_; repeat refine c_seq ?_
    refine c_region ?_; refine l_op (o_mv ?_); refine l_op (o_callR Tryz.func73 rfl rfl rfl (sum_ret _ hb _ (absorb64 _) (H.blk (i := 1) rfl)) ?_); rintro _ w ⟨rfl, Hc⟩
    replace H := H.call Hc
    rw [List.append_nil] at H
    refine l_op (o_stw H (i := 0) rfl rfl rfl (by rw [cs23]; simp [hd]) (by rw [List.all_toArray]; simp [Value.oneCell']) (by simp [hd]) (fun w H => ?_)); first | refine l_end ?_ | refine l_nil ?_
    refine c_ret (e_retc Tryz.results31 H (i := 0) rfl rfl rt23 (by simp [hd]) ⟨_, rfl, rfl, ?_⟩); exact H.sub (List.nil_sublist _)
end Go.Proofs.YthigalfaanccnaaGreat
namespace Go.Proofs.YthigalfaanccnaaGreat
open Go Go.ChangeShapes Go.WideShapes Go.ChangeAt Go.RowKit
theorem Tryz.own : ownKnob Tryz.prog.godebug = none := by kernel_rfl
theorem Tryz.laidOut : laidOutB Tryz.prog = true := by kernel_rfl
section
variable {H : Type} {enc : TypeId × Value → H} {P : Program}
theorem trodAll_stays (hl : laidOutB P = true) {W W' : World} (hb : Below W.heap.size W W') :
    ∀ {ts : List TypeId} {vs : List Value} {ds : List (DataW H)} {ps : List MemPlace}, (∀ t ∈ ts, P.readableRec t = true ∧ t < P.types.size) → DataW.TrodAll enc P W 0 (fun _ => true) true ts vs ds ps → (∀ x ∈ ps, x.block < W.heap.size) →
      DataW.TrodAll enc P W' 0 (fun b => decide (b < W.heap.size)) true ts vs ds ps
  | [], _, _, _, _, h, _ => by
    obtain ⟨rfl, rfl, rfl⟩ := trodAll_nil h
    exact trodAll_mk0
  | t :: ts, _, _, _, ht, h, hlt => by
    obtain ⟨v, vs, d, ds, p, q, rfl, rfl, rfl, h1, h2⟩ := trodAll_cons h
    exact ⟨p, q, Below.trod hl (ht t (by simp)).1 (ht t (by simp)).2 h1 hb (fun x hx => hlt x (by simp [hx])), trodAll_stays hl hb (fun u hu => ht u (by simp [hu])) h2 (fun x hx => hlt x (by simp [hx])), rfl⟩
theorem trod_bool (tb : TypeId) (hb : P.underlying tb = some .bool) (w : World) (b : Bool) (base : Nat) (sp : Nat → Bool) (held : Bool) : DataW.Trod enc P w base sp held tb (.bool b) (.lit (.bool b)) [] := ⟨1, by simp [DataW.trod, hb, Value.cells]⟩
/-- what a law leaves: true, and all as it was. -/
theorem post_law {f : Func} {s : ChangeSpec} {apart fresh handsOn : Bool} {W W' : World} {args : Array Value} {ds gs : List (DataW H)} {before : List MemPlace} {tb : TypeId} (hl : laidOutB P = true)
    (hts : ∀ t ∈ f.params.toList, P.readableRec t = true ∧ t < P.types.size) (hW : DataW.Whole enc P f.params.toList s.vars apart W args.toList ds gs before) (hH : Hp W W' [] []) (hv : s.vars = [])
    (hs : s.fn H ds = { results := [.lit (.bool true)], args := ds }) (hr : f.resultTypes = #[tb]) (hb : P.underlying tb = some .bool) : s.post enc P f apart fresh handsOn false W args (.bool true) W' := by
  have hlt := hW.lt
  have hW' := hW
  obtain ⟨p, q, hA, hV, rfl, _, _⟩ := hW
  rw [hv] at hV
  cases gs with
  | cons g gs => simp [DataW.TrodVars] at hV
  | nil =>
    have hq : q = [] := by simpa [DataW.TrodVars] using hV
    subst hq
    have hbel := hH.below
    have hs' : s.fn H (ds ++ []) = { results := [.lit (.bool true)], args := ds } := by rw [List.append_nil]; exact hs
    have hvl : (Value.bool true).resultList f.resultTypes.size = [.bool true] := by rw [hr]; rfl
    refine ⟨ds, [], p ++ [], [], p, [], hW', ?_, ?_, ?_, hbel.frame _, fun h => by cases h⟩
    · rw [hs', hvl, hr]
      exact trodAll_mk1 (trod_bool tb hb W' true _ _ _)
    · rw [hs']
      exact trodAll_stays hl hbel hts hA (fun x hx => hlt x (by simp [hx]))
    · rw [hs', hv]; rfl
theorem law_calls {f : FuncId} {fn : Func} {s : ChangeSpec} {apart fresh handsOn : Bool} {W : World} {args : Array Value} {ds gs : List (DataW H)} {before : List MemPlace} {tb : TypeId} (hl : laidOutB P = true)
    (hts : ∀ t ∈ fn.params.toList, P.readableRec t = true ∧ t < P.types.size) (hW : DataW.Whole enc P fn.params.toList s.vars apart W args.toList ds gs before) (hv : s.vars = [])
    (hs : s.fn H ds = { results := [.lit (.bool true)], args := ds }) (hr : fn.resultTypes = #[tb]) (hb : P.underlying tb = some .bool)
    (h : Ret P f args.toList W fun v w' => v = .bool true ∧ Hp W w' [] []) : Calls P f args W fun e W' => ∃ v, e = .returned v ∧ s.post enc P fn apart fresh handsOn false W args v W' := by
  have h' : Calls P f args W fun e w' => ∃ v, e = .returned v ∧ v = .bool true ∧ Hp W w' [] [] := by simpa [Ret] using h
  exact Calls.mono h' fun e w' ⟨v, he, hv', hH⟩ => ⟨v, he, by subst hv'; exact post_law hl hts hW hH hv hs hr hb⟩
end
/-- the facts on the types of a law's parameters. -/
def tyOk (P : Program) (ts : List TypeId) : Bool := ts.all fun t => P.readableRec t && decide (t < P.types.size)
theorem tyOk_all {ts : List TypeId} (h : tyOk Tryz.prog ts = true) : ∀ t ∈ ts, Tryz.prog.readableRec t = true ∧ t < Tryz.prog.types.size := by
  intro t ht
  have := List.all_eq_true.1 h t ht
  simpa using this
theorem cut_of (P : Program) (cs : List Char) (h : P.initOrder = String.ofList cs) (hb : ((behindMainWord (wordsSigns cs)).head? == some "cut".toList) = true) : ∃ rest, behindMainWord (wordsSigns P.initOrder.toList) = "cut".toList :: rest := by
  rw [h, String.toList_ofList]
  generalize behindMainWord (wordsSigns cs) = l at hb
  cases l with
  | nil => simp at hb
  | cons c r => exact ⟨r, by simpa using hb⟩
set_option maxRecDepth 100000 in
theorem Tryz.cut : ∃ rest, behindMainWord (wordsSigns Tryz.prog.initOrder.toList) = "cut".toList :: rest := by
  refine cut_of Tryz.prog _ rfl ?_
  kernel_rfl
theorem strip_cut (rest : List (List Char)) : stripLifts liftWords ("cut".toList :: rest) = ([], "cut".toList :: rest) := by
  kernel_rfl
theorem headLifts_cut {P : Program} {rest : List (List Char)} (h : behindMainWord (wordsSigns P.initOrder.toList) = "cut".toList :: rest) : P.headLifts = [] := by
  unfold Program.headLifts
  rw [h, strip_cut]
  simp
theorem lifts_cut {P : Program} {rest : List (List Char)} (h : behindMainWord (wordsSigns P.initOrder.toList) = "cut".toList :: rest) : P.liftsFinal = false := by
  unfold Program.liftsFinal
  rw [h, headLifts_cut h]
  simp
theorem make_cut {P : Program} {rest : List (List Char)} (h : behindMainWord (wordsSigns P.initOrder.toList) = "cut".toList :: rest) : P.make = some .cut := by
  unfold Program.make
  rw [h]
  simp
theorem enter_cut {P : Program} {rest : List (List Char)} (h : behindMainWord (wordsSigns P.initOrder.toList) = "cut".toList :: rest) (h1 : P.laysLater = false) (h2 : P.bearsReflect = false) (h3 : P.doorFits [] = true) : P.mayEnter = true := by
  unfold Program.mayEnter
  rw [h]
  simp only [strip_cut, h1, h2, h3]
  simp
theorem joined_of (P : Program) (f : FuncId) (fn : Func) (s : ChangeSpec) (c : OpenClaim) (h1 : laidOutB P = true) (h2 : mapsRowed P = true) (h3 : P.stops = []) (h4 : P.stopKnobs = []) (h5 : P.stopsHeard = true) (h6 : P.mayEnter = true) (h7: P.liftsFinal = false) (h8 : P.make = some .cut) (pk : Bool) (h9 : P.plainKeys = pk)
    (r : (c.wf (OpenSpec.ofChange s) && fn.params.all (P.readableRec ·) && namedTie P c.named s.vars &&
  (c.stops == []) && (c.knobs == []) && 
  (c.inPlace == P.inPlace f) && (c.unfollowed == P.unfollowed f) && (c.recurses == P.recurses f) && (c.named == P.varsNamed f)) = true)
    (r2 : ((c.maps == (fn.params.toList ++ s.plain.varTypes P).any (P.mapsRec ·)) && (c.ifaces == (fn.params.toList ++ s.plain.varTypes P).any (P.ifacesRec ·)) && (c.mapsOut == P.mapsAmong fn.resultTypes.toList) &&
  (c.loops == (fn.params.toList ++ s.plain.varTypes P).any (P.loopsFrom ·)) && (c.wideKeys == (fn.params.toList ++ s.plain.varTypes P ++ fn.resultTypes.toList).any (P.wideKeysFrom ·)) &&
  s.vars.all (P.varReadable ·) && fn.resultTypes.all (fun t => P.readableRec t && decide (t < P.types.size)) && (c.ifacesOut == fn.resultTypes.toList.any (P.ifacesRec ·)) && (c.loopsOut == fn.resultTypes.toList.any (P.loopsFrom ·)) && (c.plainKeys == pk) && c.shortTexts.isNone && (c.lifted == false) && (some Make.cut == some c.make) && (c.kinds == (if c.domain.isEmpty then [] else fn.params.toList.map fun t => match P.underlying t with | some (.int k) => some k | _ => none)) && (c.pinned == c.pinnedBy) &&
  (c.veiled == (fn.params.toList ++ s.plain.varTypes P ++ fn.resultTypes.toList).any (P.veiledRec ·)) && c.veiledFits P fn.params.toList (fn.params.toList ++ s.plain.varTypes P ++ fn.resultTypes.toList)) = true) : joinedFacts P f fn s c = true := by
  simp only [Bool.and_eq_true] at r r2
  obtain ⟨⟨⟨⟨⟨⟨⟨⟨k1, k4⟩, k5⟩, k6⟩, k8⟩, k10⟩, k11⟩, k12⟩, k13⟩ := r
  obtain ⟨⟨⟨⟨⟨⟨⟨⟨⟨⟨⟨⟨⟨⟨⟨⟨m1, m2⟩, m3⟩, m4⟩, m5⟩, m6⟩, m7⟩, m8⟩, m9⟩, m10⟩, m11⟩, m12⟩, m13⟩, m14⟩, m15⟩, m16⟩, m17⟩ := r2
  unfold joinedFacts
  rw [h3, h4, h7, h8, h9]
  simp only [Bool.and_eq_true]
  exact ⟨⟨⟨⟨⟨⟨⟨⟨⟨⟨⟨⟨⟨⟨⟨⟨⟨⟨⟨⟨⟨⟨⟨⟨⟨⟨⟨⟨⟨⟨⟨k1, h1⟩, h2⟩, k4⟩, k5⟩, k6⟩, rfl⟩, k8⟩, rfl⟩, k10⟩, k11⟩, k12⟩, k13⟩, m1⟩, m2⟩, m3⟩, m4⟩, m5⟩, m6⟩, m7⟩, m8⟩, m9⟩, m10⟩, m11⟩, h5⟩, h6⟩, m12⟩, m13⟩, m14⟩, m15⟩, m16⟩, m17⟩
theorem Tryz.mapsRowed : mapsRowed Tryz.prog = true := by kernel_rfl
theorem Tryz.stops : Tryz.prog.stops = [] := by kernel_rfl
theorem Tryz.stopKnobs : Tryz.prog.stopKnobs = [] := by kernel_rfl
theorem Tryz.stopsHeard : Tryz.prog.stopsHeard = true := by kernel_rfl
theorem Tryz.laysLater : Tryz.prog.laysLater = false := by kernel_rfl
theorem Tryz.bearsReflect : Tryz.prog.bearsReflect = false := by kernel_rfl
theorem Tryz.doorFits : Tryz.prog.doorFits [] = true := by kernel_rfl
theorem Tryz.mayEnter : Tryz.prog.mayEnter = true := Tryz.cut.elim fun _ h => enter_cut h Tryz.laysLater Tryz.bearsReflect Tryz.doorFits
theorem Tryz.liftsFinal : Tryz.prog.liftsFinal = false := Tryz.cut.elim fun _ h => lifts_cut h
theorem Tryz.make : Tryz.prog.make = some .cut := Tryz.cut.elim fun _ h => make_cut h
theorem Tryz.plainKeys : Tryz.prog.plainKeys = false := by kernel_rfl
end Go.Proofs.YthigalfaanccnaaGreat
namespace Go.Proofs.YthigalfaanccnaaGreat
open Go Go.ChangeShapes Go.WideShapes Go.ChangeAt Go.RowKit Go.Deep
set_option maxRecDepth 100000
section
variable {H : Type} {enc : TypeId × Value → H} {W : World}
theorem rd_of_cells {a : Addr} {vs : List Value} (h : ∀ i v, vs[i]? = some v → W.cell? (a.add i) = some v) : RdS W (some a) vs := by
  cases vs with
  | nil => exact .inl rfl
  | cons v0 vs =>
    obtain ⟨b, o, spot⟩ := a
    have h0 := h 0 v0 rfl
    have hspot : spot = none := by simpa [Addr.add] using World.cell?_spot h0
    subst hspot
    have ha : ∀ i, (⟨b, o, none⟩ : Addr).add i = ⟨b, o + i, none⟩ := fun i => Addr.add_mid ..
    rw [ha] at h0
    cases hb : W.heap[b]? with
    | none => simp [World.cell?, hb] at h0
    | some ob =>
      cases ob with
      | cells C T fr =>
        refine .inr ⟨b, o, C, T, fr, rfl, hb, fun i v hv => ?_⟩; have := h i v hv
        rw [ha] at this
        simpa [World.cell?, hb] using this
      | _ => simp [World.cell?, hb] at h0
theorem sl_of_ints {a : Addr} {len cap : Nat} {zs : List Int} (hl : len ≤ cap) (hm : cap ≤ maxLen) (hz : zs.length = cap) (hcell : ∀ i, i < zs.length → W.cell? (a.add i) = some (.int .u8 (zs.getD i 0))) (hwz : ∀ n ∈ zs, (Lit.int .u8 n).wf = true) :
    (⟨some a, len, cap, (zs.take len).map fun n => UInt8.ofNat n.toNat⟩ : Sl).ok W := by
  refine ⟨rd_of_cells fun i v hv => ?_, by simp; omega, hl, Nat.le_trans hl hm⟩
  simp only [List.getElem?_map, Option.map_map] at hv
  obtain ⟨n, hn, rfl⟩ := Option.map_eq_some_iff.1 hv
  have hi : i < zs.length := by
    have := (List.getElem?_eq_some_iff.1 hn).1
    simp at this; omega
  have hn' : zs[i]? = some n := by
    rw [List.getElem?_take] at hn
    split at hn
    · exact hn
    · cases hn
  have hmem : n ∈ zs := List.mem_of_getElem? hn'
  have hr := range_u8 hwz i
  rw [hn'] at hr
  simp only [Option.getD_some] at hr
  rw [hcell i hi]
  have e : zs.getD i 0 = n := by rw [List.getD_eq_getElem?_getD, hn']; rfl
  rw [e]
  simp only [Function.comp, V8, UInt8.toNat_ofNat']
  congr 2
  omega
theorem cells5 : Tryz.prog.cellsOf 5 = 1 := by kernel_rfl
theorem open_sl {base : Nat} {spare : Nat → Bool} {held : Bool} {fuel : Nat} {v : Value} {x : DataW H × List MemPlace} (hsp : spare = fun _ => true) (h : DataW.trod enc Tryz.prog W base spare held fuel 50 [v] = some x) : ∃ s : Sl, v = s.v ∧ s.ok W := by
  subst hsp
  rcases open_ints Tryz.underlying50 Tryz.underlying5 cells5 h with ⟨hcs, _⟩ | ⟨a, len, cap, zs, hcs, _, hl, hm, hz, _, hcell, hwz⟩
  · simp only [List.cons.injEq, and_true] at hcs
    exact ⟨⟨none, 0, 0, []⟩, hcs, .inl rfl, rfl, Nat.le_refl _, by decide⟩
  · simp only [List.cons.injEq, and_true] at hcs
    simp only [if_true] at hz
    exact ⟨⟨some a, len, cap, _⟩, hcs, sl_of_ints hl hm hz hcell hwz⟩
instance : Inhabited Sl := ⟨⟨none, 0, 0, []⟩⟩
end
end Go.Proofs.YthigalfaanccnaaGreat
namespace Go.Proofs.YthigalfaanccnaaGreat
open Go Go.ChangeShapes Go.WideShapes Go.ChangeAt Go.RowKit Go.Deep Go.ChangeMaps
set_option maxRecDepth 100000
section
variable {H : Type} {enc : TypeId × Value → H} {W : World} {base : Nat} {spare : Nat → Bool} {held : Bool}
theorem cellsId : Tryz.prog.cellsOf 23 = 32 := by kernel_rfl
def byteOf : Value → UInt8
  | .int _ n => UInt8.ofNat n.toNat
  | _ => 0
theorem byteOf_V8 {n : Int} (h : (Lit.int .u8 n).wf = true) : V8 (byteOf (.int .u8 n)) = .int .u8 n := by
  have := bounds_u8 h
  simp only [byteOf, V8, UInt8.toNat_ofNat']
  congr 1; omega
theorem trod_id {fuel : Nat} {cs : List Value} {x : DataW H × List MemPlace} (h : DataW.trod enc Tryz.prog W base spare held fuel 23 cs = some x) : ∃ l : List UInt8, cs = l.map V8 ∧ l.length = 32 := by
  obtain ⟨xs, m, _, _, hl, hx, hi⟩ := DataW.trod_array Tryz.underlying23 h
  rw [cellsId] at hl
  refine ⟨cs.map byteOf, ?_, by simp [hl]⟩
  apply List.ext_getElem?
  intro i
  by_cases hlt : i < 32
  · have h1 := hi i hlt
    rw [cells5, Nat.mul_one, List.getElem?_eq_getElem (by omega)] at h1
    obtain ⟨n, hn, _, hw⟩ := DataW.trod_int Tryz.underlying5 h1
    have h2 : cs[i]? = some (.int .u8 n) := by
      have := congrArg (·[0]?) hn
      simpa [List.getElem?_take, List.getElem?_drop] using this
    simp only [List.getElem?_map, h2, Option.map_some, byteOf_V8 hw]
  · rw [List.getElem?_eq_none (by omega), List.getElem?_eq_none (by simp; omega)]
end
end Go.Proofs.YthigalfaanccnaaGreat
namespace Go.Proofs.YthigalfaanccnaaGreat
open Go
set_option maxRecDepth 100000
theorem fills (z : Value) (vs : List Value) (len : Nat) (h1 : ∀ v ∈ vs, v.oneCell' = true) (hl : vs.length = len) : Instr.fill (fun i => some (i * 1, 1)) ((Array.range (len * 1)).map (([z].toArray)[· % ([z].toArray).size]!)) (en 0 vs) = some vs.toArray := by
  have := fill_en (zs := ((Array.range (len * 1)).map (([z].toArray)[· % ([z].toArray).size]!)).toList) vs (by rw [List.all_toArray, List.all_eq_true]; exact h1) (by simp [hl])
  rwa [Array.toArray_toList] at this
theorem ok_lit {w0 w : World} {S : List Nat} {L : List Ch} (H : Hp w0 w S L) {i b cap len : Nat} {l : List UInt8} {C : List Value} {e : TypeId} (hi : L[i]? = some (.obj b (litO C e))) (hC : C = l.map V8) (hl : l.length = len) (hc : len ≤ cap) (hm : len ≤ 9223372036854775807) : (⟨some ⟨b, 0, none⟩, len, cap, l⟩ : Sl).ok w :=
  ⟨by rw [← hC]; exact Ch.rd_lit (H.has _ (List.mem_of_getElem? hi)), hl, hc, hm⟩
def abc : HS := absorb HS.init [97, 98, 99]
def abcD : List UInt8 := digest abc
attribute [local irreducible] abc abcD digest absorb
end Go.Proofs.YthigalfaanccnaaGreat
namespace Go.Proofs.YthigalfaanccnaaGreat
open Go
section
variable {P : Program} {Q : Exit → Act → World → Prop} {n : Nat} {σ : Nat → Value} {w : World} {K : Act → World → Prop}
  {ty : TypeId} {pos : String} {aft : Array Edge} {g : Option (Nat × Bool)} {d : Nat} {t yt : TypeId} {x y : Operand}
theorem b_lssB {k : IntKind} {a b : Int} (v : Bool) (h : decide (a < b) = v) : (binOp .lss t (.int k a) (.int k b)).run P w = .ok (.bool v) w := by rw [← h]; exact b_lss
theorem b_leqB {k : IntKind} {a b : Int} (v : Bool) (h : decide (a ≤ b) = v) : (binOp .leq t (.int k a) (.int k b)).run P w = .ok (.bool v) w := by rw [← h]; exact b_leq
theorem b_gtrB {k : IntKind} {a b : Int} (v : Bool) (h : decide (b < a) = v) : (binOp .gtr t (.int k a) (.int k b)).run P w = .ok (.bool v) w := by rw [← h]; exact b_gtr
theorem b_geqB {k : IntKind} {a b : Int} (v : Bool) (h : decide (b ≤ a) = v) : (binOp .geq t (.int k a) (.int k b)).run P w = .ok (.bool v) w := by rw [← h]; exact b_geq
theorem b_eqlB {k : IntKind} {a b : Int} (v : Bool) (h : decide (a = b) = v) : (binOp .eql t (.int k a) (.int k b)).run P w = .ok (.bool v) w := by rw [← h]; exact b_eql
theorem b_neqB {k : IntKind} {a b : Int} (v : Bool) (h : decide (a ≠ b) = v) : (binOp .neq t (.int k a) (.int k b)).run P w = .ok (.bool v) w := by rw [← h]; exact b_neq
end
theorem all1 {α : Type} {p : α → Prop} {a : α} (ha : p a) : ∀ x ∈ [a], p x := by
  intro x hx
  rw [List.mem_singleton] at hx
  rw [hx]; exact ha
end Go.Proofs.YthigalfaanccnaaGreat
namespace Go.Proofs.YthigalfaanccnaaGreat
open Go
set_option maxRecDepth 100000
theorem Hp.nilOwn {w0 w : World} {S : List Nat} {L : List Ch} (H : Hp w0 w S L) (T : TypeId) (sz : Nat) : Hp w0 w S (.own none 0 0 [] T sz :: L) :=
  ⟨H.os, H.tape, H.output, H.size, H.frame, fun c hc => by
    rcases List.mem_cons.1 hc with rfl | h
    · exact ⟨rfl, rfl, rfl⟩
    · exact H.has c h, fun c hc b hk => by
    rcases List.mem_cons.1 hc with rfl | h
    · cases hk
    · exact H.fresh c h b hk, List.pairwise_cons.2 ⟨fun _ _ _ h => (by cases h), H.nd⟩⟩
end Go.Proofs.YthigalfaanccnaaGreat
namespace Go.Proofs.YthigalfaanccnaaGreat
open Go
section
variable {P : Program} {Q : Exit → Act → World → Prop} {n : Nat} {σ : Nat → Value} {w w0 : World} {K : Act → World → Prop}
  {ty : TypeId} {pos : String} {aft : Array Edge} {g : Option (Nat × Bool)} {d : Nat} {t yt : TypeId} {x y z : Operand} {S : List Nat} {L : List Ch}
theorem Sl.ok.addr {s : Sl} (h : s.ok w) (hp : 0 < s.len) : ∃ b o, s.a = some ⟨b, o, none⟩ := by
  rcases h.rd with h' | ⟨b, o, C, T, fr, ha, hb, hc⟩
  · have := h.ln
    rw [List.map_eq_nil_iff.1 h'] at this
    simp at this; omega
  · exact ⟨b, o, ha⟩
theorem Sl.get (s : List UInt8) (k : Nat) (h : k < s.length) : (s.map V8)[k]? = some (V8 (s.getD k 0)) := by
  simp [List.getD_eq_getElem?_getD, h]
theorem RdS.addr {a : Option Addr} {vs : List Value} (h : RdS w a vs) (hp : 0 < vs.length) : ∃ b o, a = some ⟨b, o, none⟩ := by
  rcases h with rfl | ⟨b, o, C, T, fr, ha, hb, hc⟩
  · simp at hp
  · exact ⟨b, o, ha⟩
/-- a slice out of a list of slices. -/
theorem r_ldP {a : Option Addr} {b o k : Nat} {ps : List Sl} {p : Sl} (hr : RdS w a (ps.map Sl.v)) (ha : a = some ⟨b, o, none⟩) (hx : ev n σ x = .pointer (some ⟨b, o + k * 1, none⟩)) (ht : cellTy P t = true) (hk : ps[k]? = some p) :
    (execOp (ev n σ) ⟨some d, .load t x, ty, pos, aft, g⟩).run P w = .ok (.value p.v) w :=
  r_lds (i := k * 1) hr ha hx ht (by simp [hk])
/-- an element's address. -/
theorem r_isN {a : Option Addr} {b o len cap sz : Nat} {kk : IntKind} {i : Int} (k : Nat) (hx : ev n σ x = .slice a len cap) (hy : ev n σ y = .int kk i) (ha : eltOf P t = some sz) (hb : a = some ⟨b, o, none⟩) (hi : i = (k : Int)) (h1 : k < len) :
    (execOp (ev n σ) ⟨some d, .indexAddr t x y, ty, pos, aft, g⟩).run P w = .ok (.value (.pointer (some ⟨b, o + k * sz, none⟩))) w := by
  subst hi
  exact r_is hx hy ha hb (by omega) (by omega)
/-- a byte of a slice. -/
theorem r_ldB {s : Sl} {b o k : Nat} (hs : s.ok w) (ha : s.a = some ⟨b, o, none⟩) (hx : ev n σ x = .pointer (some ⟨b, o + k * 1, none⟩)) (ht : cellTy P t = true) (hk : k < s.len) :
    (execOp (ev n σ) ⟨some d, .load t x, ty, pos, aft, g⟩).run P w = .ok (.value (V8 (s.l.getD k 0))) w :=
  r_lds (i := k * 1) hs.rd ha hx ht (by rw [Nat.mul_one]; exact Sl.get _ _ (by rw [hs.ln]; exact hk))
/-- a whole array. -/
theorem r_ldA {b i k : Nat} {C : List Value} {T : TypeId} (H : Hp w0 w S L) (hi : L[i]? = some (.blk b C T)) (hx : ev n σ x = .pointer (some ⟨b, 0, none⟩)) (ht : rowTy P t = some k) (hk : C.length = k) :
    (execOp (ev n σ) ⟨some d, .load t x, ty, pos, aft, g⟩).run P w = .ok (.value (.agg C.toArray)) w := by
  have h := r_ldr (P := P) (t := t) (d := d) (ty := ty) (pos := pos) (aft := aft) (g := g) H hi hx ht (by omega)
  rw [h, List.drop_zero, List.take_of_length_le (Nat.le_of_eq hk)]
theorem r_ldAA {b i k : Nat} {l : List UInt8} {T : TypeId} (H : Hp w0 w S L) (hi : L[i]? = some (.blk b (l.map V8) T)) (hx : ev n σ x = .pointer (some ⟨b, 0, none⟩)) (ht : rowTy P t = some k) (hk : l.length = k) :
    (execOp (ev n σ) ⟨some d, .load t x, ty, pos, aft, g⟩).run P w = .ok (.value (.agg (l.map V8).toArray)) w :=
  r_ldA H hi hx ht (by rw [List.length_map, hk])
theorem o_stA {b i k : Nat} {l l' : List UInt8} {T : TypeId} (H : Hp w0 w S L) (hi : L[i]? = some (.blk b (l.map V8) T)) (hx : ev n σ x = .pointer (some ⟨b, 0, none⟩)) (hy : ev n σ y = .agg (l'.map V8).toArray)
    (hs : cellSz P t = some k) (h1 : l.length = k) (h2 : l'.length = k)
    (h : ∀ w', Hp w0 w' S (L.set i (.blk b (l'.map V8) T)) → K (mk n σ) w') : Oper.wp P ⟨none, .store t x y, ty, pos, aft, g⟩ (mk n σ) w K Q :=
  o_stw H hi hx hy (by rw [hs, List.size_toArray, List.length_map, h2]) (by rw [List.all_toArray]; simp [Value.oneCell']) (by rw [List.size_toArray, List.length_map, h2, List.length_map, h1]) fun w' H' => h w' H'
theorem e_retA {fn : Func} {R : Ending → World → Prop} {tt : Tmp} {rt : TypeId} {b i k : Nat} {l : List UInt8} {T : TypeId} (hres : fn.results = #[.cell tt rt]) (H : Hp w0 w S L) (hi : L[i]? = some (.blk b (l.map V8) T)) (hv : ev n σ (.tmp tt) = .pointer (some ⟨b, 0, none⟩)) (hr : rowTy P rt = some k) (hk : l.length = k)
    (hR : R (.returned (.agg (l.map V8).toArray)) w) : bodyPost P fn R .ret (mk n σ) w :=
  e_retc hres H hi hv hr (by rw [List.length_map, hk]) hR
theorem r_asV {v : Value} (hx : ev n σ x = v) : (execOp (ev n σ) ⟨some d, .assign x, ty, pos, aft, g⟩).run P w = .ok (.value v) w := by rw [← hx]; exact r_as
/-- the array at a slice's head. -/
theorem r_ldSA {s : Sl} {b o k : Nat} (hs : s.ok w) (ha : s.a = some ⟨b, o, none⟩) (hx : ev n σ x = .pointer s.a) (ht : rowTy P t = some k) (hk0 : 0 < k) (hk : k ≤ s.len) :
    (execOp (ev n σ) ⟨some d, .load t x, ty, pos, aft, g⟩).run P w = .ok (.value (.agg ((s.l.take k).map V8).toArray)) w := by
  rw [ha] at hx
  have := r_ldsr (P := P) (w := w) (t := t) (d := d) (ty := ty) (pos := pos) (aft := aft) (g := g) (i := 0) hs.rd ha hx ht hk0 (by simp only [List.length_map]; have := hs.ln; omega)
  rwa [List.drop_zero, ← List.map_take] at this
/-- an array or struct literal. -/
theorem r_bld' {parts : Array (Nat × Operand)} {zs : Array Value} {places : Nat → Option (Nat × Nat)} {pv : List (Nat × Value)} {cells : Array Value} (hB : Bld P t zs places)
    (hp0 : pvs n σ parts.toList = pv) (hf : Instr.fill places zs pv = some cells) :
    (execOp (ev n σ) ⟨some d, .build t parts, ty, pos, aft, g⟩).run P w = .ok (.value (.agg cells)) w := by
  have hp : (parts.map fun (i, x) => (i, ev n σ x)).toList = pv := by rw [← hp0, pvs_eq, Array.toList_map]
  have := run_build (P := P) w t (parts.map fun (i, x) => (i, ev n σ x)) cells (by rw [hp, hB.eq]; exact hf)
  simp only [execOp, Sem.run_bind, this]
  simp
/-- a slice of a slice, from its head on. -/
theorem r_slH {lo hi mx : Option Operand} {a : Option Addr} {len cap sz h m : Nat} {lv hv mv : Option Value} (hx : ev n σ x = .slice a len cap) (ht : eltOf P t = some sz)
    (hl : lo.map (ev n σ) = lv) (hh : hi.map (ev n σ) = hv) (hm : mx.map (ev n σ) = mv) (hb : ∀ w, (Instr.sliceBounds true len cap lv hv mv).run P w = .ok (0, h, m) w) :
    (execOp (ev n σ) ⟨some d, .slice t x lo hi mx, ty, pos, aft, g⟩).run P w = .ok (.value (.slice a h m)) w := by
  have := r_sl (P := P) (w := w) (d := d) (ty := ty) (pos := pos) (aft := aft) (g := g) hx ht hl hh hm hb
  rwa [sa_zero, Nat.sub_zero, Nat.sub_zero] at this
def Sl.cut (s : Sl) (l h m : Nat) : Sl := ⟨sa s.a l m 1, h - l, m - l, (s.l.drop l).take (h - l)⟩
theorem Sl.ok.cut {s : Sl} (hs : s.ok w) {l h m : Nat} (h1 : l ≤ h) (h2 : h ≤ s.len) (h3 : h ≤ m) (_h4 : m ≤ s.cap) : (s.cut l h m).ok w := by
  refine ⟨?_, ?_, by simp only [Sl.cut]; omega, by have := hs.mx; simp only [Sl.cut]; omega⟩
  · unfold Sl.cut
    simp only
    by_cases hml : m = l
    · have : (s.l.drop l).take (h - l) = [] := by rw [show h - l = 0 by omega, List.take_zero]
      rw [this]; exact .inl rfl
    · have e : sa s.a l m 1 = s.a.map (·.add (l * 1)) := by unfold sa; rw [if_neg hml]
      rw [e, Nat.mul_one, List.map_take, List.map_drop]
      exact (hs.rd.drop l).take _
  · have := hs.ln
    simp only [Sl.cut, List.length_take, List.length_drop]; omega
theorem r_slS {lo hi mx : Option Operand} {s : Sl} (l h m : Nat) {lv hv mv : Option Value} (hx : ev n σ x = s.v) (ht : eltOf P t = some 1)
    (hl : lo.map (ev n σ) = lv) (hh : hi.map (ev n σ) = hv) (hm : mx.map (ev n σ) = mv) (hb : ∀ w, (Instr.sliceBounds true s.len s.cap lv hv mv).run P w = .ok (l, h, m) w) :
    (execOp (ev n σ) ⟨some d, .slice t x lo hi mx, ty, pos, aft, g⟩).run P w = .ok (.value (s.cut l h m).v) w :=
  r_sl (P := P) (w := w) (d := d) (ty := ty) (pos := pos) (aft := aft) (g := g) hx ht hl hh hm hb
/-- bounds, by numbers. -/
theorem sbn {s : Bool} {len cap : Nat} (w : World) : (Instr.sliceBounds s len cap none none none).run P w = .ok (0, len, cap) w := sb_n w
theorem sbl {s : Bool} {len cap : Nat} {k : IntKind} {i : Int} (l : Nat) (e : i = (l : Int)) (h1 : l ≤ len) (w : World) : (Instr.sliceBounds s len cap (some (.int k i)) none none).run P w = .ok (l, len, cap) w := by
  subst e; exact sb_l (by omega) (by omega) w
theorem sbh {s : Bool} {len cap : Nat} {k : IntKind} {i : Int} (h : Nat) (e : i = (h : Int)) (h1 : h ≤ cap) (w : World) : (Instr.sliceBounds s len cap none (some (.int k i)) none).run P w = .ok (0, h, cap) w := by
  subst e; exact sb_h (by omega) (by omega) w
theorem sblh {s : Bool} {len cap : Nat} {k k' : IntKind} {i j : Int} (l h : Nat) (e : i = (l : Int)) (e' : j = (h : Int)) (h1 : l ≤ h) (h2 : h ≤ cap) (w : World) : (Instr.sliceBounds s len cap (some (.int k i)) (some (.int k' j)) none).run P w = .ok (l, h, cap) w := by
  subst e e'; exact sb_lh (by omega) (by omega) (by omega) w
theorem Hp.slOwn (H : Hp w0 w S L) {i : Nat} {a : Option Nat} {len cap : Nat} {l : List UInt8} {T : TypeId} (hi : L[i]? = some (.own a len cap (l.map V8) T 1)) : (⟨hd a, len, cap, l⟩ : Sl).ok w := by
  have h := H.has _ (List.mem_of_getElem? hi)
  refine ⟨Ch.rd_own h, ?_, ?_, ?_⟩
  · cases a with
    | none => obtain ⟨h1, h2, h3⟩ := h; simp only [List.map_eq_nil_iff] at h3; rw [h3, h1]; rfl
    | some b => obtain ⟨h1, _⟩ := h; simpa using h1
  · cases a with
    | none => obtain ⟨h1, h2, h3⟩ := h; simp only; omega
    | some b => exact h.2.1
  · cases a with
    | none => obtain ⟨h1, h2, h3⟩ := h; simp only; omega
    | some b => have := h.2.1; have := h.2.2.1; simp only [maxLen] at *; omega
theorem Hp.ownLen (H : Hp w0 w S L) {i : Nat} {a : Option Nat} {len cap : Nat} {xs : List Value} {T : TypeId} {sz : Nat} (hi : L[i]? = some (.own a len cap xs T sz)) : xs.length = len * sz ∧ len ≤ cap ∧ cap ≤ maxLen := by
  have h := H.has _ (List.mem_of_getElem? hi)
  cases a with
  | none => obtain ⟨rfl, rfl, rfl⟩ := h; simp [maxLen]
  | some b => exact ⟨h.1, h.2.1, h.2.2.1⟩
theorem Hp.ownAddr (H : Hp w0 w S L) {i : Nat} {a : Option Nat} {len cap : Nat} {xs : List Value} {T : TypeId} {sz : Nat} (hi : L[i]? = some (.own a len cap xs T sz)) (h0 : 0 < len) : ∃ b, hd a = some ⟨b, 0, none⟩ := by
  have h := H.has _ (List.mem_of_getElem? hi)
  cases a with
  | none => obtain ⟨h1, _⟩ := h; omega
  | some b => exact ⟨b, rfl⟩
theorem Hp.rot {c : Ch} (H : Hp w0 w S (L ++ [c])) : Hp w0 w S (c :: L) := H.perm (List.perm_append_singleton _ _)
theorem Hp.nilEnd (H : Hp w0 w S L) (T : TypeId) (sz : Nat) : Hp w0 w S (L ++ [.own none 0 0 [] T sz]) :=
  (H.nilOwn T sz).perm (List.perm_append_singleton _ _).symm
/-- .. with room only. -/
theorem o_makeB0 {e : TypeId} {kx ky : IntKind} {li ci : Int} (c : Nat) (H : Hp w0 w S L) (hT : SlTy P t e 1 1) (hz : zeroCells P e = some [V8 0]) (hx : ev n σ x = .int kx li) (hy : ev n σ y = .int ky ci)
    (hl : li = 0) (hc : ci = (c : Int)) (hm : c ≤ 281474976710656)
    (h : ∀ b w', Hp w0 w' S (L ++ [.own (some b) 0 c (([] : List UInt8).map V8) e 1]) → w0.heap.size ≤ b → K (mk n (up σ d (.slice (hd (some b)) 0 c))) w') :
    Oper.wp P ⟨some d, .makeSlice t x y, ty, pos, aft, g⟩ (mk n σ) w K Q := by
  have hmx : c ≤ maxLen := Nat.le_trans hm (by decide)
  refine o_make (l := 0) (c := c) H hT hz hx hy hl hc (Nat.zero_le _) (by omega) hmx fun b w' H' hb => h b w' ?_ hb
  have := H'.toOwn (i := L.length) (len := 0) (cap := c) (sz := 1) (b := b) (C := List.replicate c (V8 0)) (T := e) (by simp) (Nat.zero_le _) hmx (by simp)
  rw [List.set_append_right _ _ (Nat.le_refl _), Nat.sub_self] at this
  simpa using this
/-- a literal of bytes. -/
theorem o_bslB {e : TypeId} {len : Nat} {parts : Array (Nat × Operand)} (l : List UInt8) (H : Hp w0 w S L) (hT : SlTy P t e 1 1) (hz : zeroCells P e = some [V8 0])
    (hp : pvs n σ parts.toList = en 0 (l.map V8)) (hlen : l.length = len) (hm : len ≤ 16777216)
    (h : ∀ b w', Hp w0 w' S (L ++ [.own (some b) len len (l.map V8) e 1]) → w0.heap.size ≤ b → K (mk n (up σ d (.slice (hd (some b)) len len))) w') :
    Oper.wp P ⟨some d, .buildSlice t len parts, ty, pos, aft, g⟩ (mk n σ) w K Q := by
  refine o_bsl H hT hz (by decide) hp (by omega) (fills _ (l.map V8) len (by simp [Value.oneCell']) (by simpa using hlen)) fun b w' H' hb => h b w' ?_ hb
  have := H'.toOwn (i := L.length) (len := len) (cap := len) (sz := 1) (b := b) (C := l.map V8) (T := e) (by simp) (Nat.le_refl _) (Nat.le_trans hm (by decide)) (by simpa using hlen)
  rw [List.set_append_right _ _ (Nat.le_refl _), Nat.sub_self, List.take_of_length_le (by simp; omega)] at this
  simpa using this
/-- a literal of values of one cell. -/
theorem o_bslV {e : TypeId} {len bytes : Nat} {parts : Array (Nat × Operand)} {zv : Value} (vs : List Value) (H : Hp w0 w S L) (hT : SlTy P t e 1 bytes) (hz : zeroCells P e = some [zv])
    (hp : pvs n σ parts.toList = en 0 vs) (h1 : vs.all (·.oneCell') = true) (hlen : vs.length = len) (hm : len ≤ 16777216)
    (h : ∀ b w', Hp w0 w' S (L ++ [.own (some b) len len vs e 1]) → w0.heap.size ≤ b → K (mk n (up σ d (.slice (hd (some b)) len len))) w') :
    Oper.wp P ⟨some d, .buildSlice t len parts, ty, pos, aft, g⟩ (mk n σ) w K Q := by
  refine o_bsl H hT hz (by decide) hp (by omega) (fills _ vs len (by simpa using h1) hlen) fun b w' H' hb => h b w' ?_ hb
  have := H'.toOwn (i := L.length) (len := len) (cap := len) (sz := 1) (b := b) (C := vs) (T := e) (by simp) (Nat.le_refl _) (Nat.le_trans hm (by decide)) (by simpa using hlen)
  rw [List.set_append_right _ _ (Nat.le_refl _), Nat.sub_self, List.take_of_length_le (by omega)] at this
  simpa using this
/-- bytes behind bytes of one's own. -/
theorem o_appB {i : Nat} {a : Option Nat} {len cap len' : Nat} {l l' : List UInt8} {e e' : TypeId} {tx : TypeId} {s : Sl} (el : l ++ s.l = l') (en : len + s.len = len') (H : Hp w0 w S L) (hi : L[i]? = some (.own a len cap (l.map V8) e 1)) (hT : SlTy P t e 1 1) (hu : P.underlying tx = some (.slice e'))
    (hx : ev n σ x = .slice (hd a) len cap) (hy : ev n σ y = s.v) (hs : s.ok w) (hm : len' ≤ 140737488355328)
    (h : ∀ a' cap' w', Hp w0 w' S (L.set i (.own a' len' cap' (l'.map V8) e 1)) → K (mk n (up σ d (.slice (hd a') len' cap'))) w') :
    Oper.wp P ⟨some d, .call ⟨.builtin .append, #[x, y], #[t, tx]⟩, ty, pos, aft, g⟩ (mk n σ) w K Q := by
  subst el en
  refine o_app (m := s.len) (news := s.l.map V8) H hi hT hx hy (RdS.src hu hs.rd (by simp [hs.ln]) (by decide) (by simp [Value.oneCell'])) (by decide) (by omega) (by omega) fun a' cap' w' H' => h a' cap' w' ?_
  rw [List.map_append]; exact H'
theorem Sl.ok_nil (w : World) : (⟨none, 0, 0, []⟩ : Sl).ok w := ⟨.inl rfl, rfl, Nat.le_refl _, by decide⟩
theorem Hp.toBlkB (H : Hp w0 w S L) {i b len : Nat} {l : List UInt8} {T : TypeId} (hi : L[i]? = some (.own (some b) len len (l.map V8) T 1)) : Hp w0 w S (L.set i (.blk b (l.map V8) T)) := by
  refine H.conv hi rfl fun hok => ?_
  obtain ⟨h1, h2, h3, rest, hw, h5⟩ := hok
  have : rest = [] := List.length_eq_zero_iff.1 (by simp only [List.length_append] at h5; omega)
  subst this
  rw [List.append_nil] at hw
  exact hw
theorem w_u64_N {a : Int} (k : Nat) (h : a = (k : Int)) : IntKind.u64.wrap a = ((UInt64.ofNat k).toNat : Int) := by
  subst h
  have := w_u64_i (a := (k : Int)) (by omega)
  rwa [Int.toNat_natCast] at this
theorem w_u8_N {a : Int} (k : Nat) (h : a = (k : Int)) : IntKind.u8.wrap a = ((UInt8.ofNat k).toNat : Int) := by
  subst h
  have := w_u8_i (a := (k : Int)) (by omega)
  rwa [Int.toNat_natCast] at this
theorem b_mul_u64N {t : TypeId} {a b : Nat} : (binOp .mul t (V64 (UInt64.ofNat a)) (V64 (UInt64.ofNat b))).run P w = .ok (V64 (UInt64.ofNat (a * b))) w := by
  rw [UInt64.ofNat_mul]; exact b_mul_u64
theorem sh_N (m : Nat) (h : m < 64) : (((UInt64.ofNat m).toNat : Nat) : Int).toNat = m := by
  rw [UInt64.toNat_ofNat']; omega
theorem b_shr_u64N {x : UInt64} (m : Nat) (h : m < 64) : (Op.shift .shr .u64 (x.toNat : Int) .u64 ((UInt64.ofNat m).toNat : Int)).run P w = .ok (V64 (x >>> UInt64.ofNat m)) w := by
  have := b_shr_u64 (P := P) (w := w) (x := x) (yk := .u64) (c := ((UInt64.ofNat m).toNat : Int)) (by omega) (by rw [UInt64.toNat_ofNat']; omega)
  rwa [sh_N m h] at this
theorem b_shl_u64N {x : UInt64} (m : Nat) (h : m < 64) : (Op.shift .shl .u64 (x.toNat : Int) .u64 ((UInt64.ofNat m).toNat : Int)).run P w = .ok (V64 (x <<< UInt64.ofNat m)) w := by
  have := b_shl_u64 (P := P) (w := w) (x := x) (yk := .u64) (c := ((UInt64.ofNat m).toNat : Int)) (by omega) (by rw [UInt64.toNat_ofNat']; omega)
  rwa [sh_N m h] at this
theorem ba_loop (b : ByteArray) : ∀ (k i : Nat) (r : List UInt8), b.size - i = k → ByteArray.toList.loop b i r = r.reverse ++ b.data.toList.drop i := by
  intro k
  induction k with
  | zero =>
    intro i r h
    have hd : b.data.toList.drop i = [] := List.drop_of_length_le (by have : b.data.toList.length = b.size := rfl; omega)
    rw [ByteArray.toList.loop, if_neg (by omega), hd, List.append_nil]
  | succ k ih =>
    intro i r h
    have hlt : i < b.size := by omega
    have hl : i < b.data.toList.length := hlt
    rw [ByteArray.toList.loop, if_pos hlt, ih (i + 1) _ (by omega), List.drop_eq_getElem_cons hl]
    have : b.get! i = b.data.toList[i] := by
      show b.data[i]! = _
      rw [getElem!_pos b.data i hlt]; rfl
    rw [this]; simp
theorem ba_toList (l : List UInt8) : (⟨l.toArray⟩ : ByteArray).toList = l := by
  rw [ByteArray.toList, ba_loop _ _ 0 [] rfl]; simp
theorem beq_dec (a b : List UInt8) : (a == b) = decide (a = b) := by
  rw [Bool.eq_iff_iff]; simp
theorem run_streq {a b : List UInt8} (w : World) : (Op.stringOp .eql ⟨a.toArray⟩ ⟨b.toArray⟩).run P w = .ok (.bool (decide (a = b))) w := by
  rw [b_seql, ba_toList, ba_toList, beq_dec]
theorem r_streq {a b : List UInt8} (hx : ev n σ x = .string ⟨a.toArray⟩) (hy : ev n σ y = .string ⟨b.toArray⟩) :
    (execOp (ev n σ) ⟨some d, .binOp .eql t x y yt, ty, pos, aft, g⟩).run P w = .ok (.value (.bool (decide (a = b)))) w :=
  r_str hx hy (fun w => run_streq w) (by decide)
theorem r_b2S {s : Sl} {e : TypeId} (hs : P.underlying t = some (.slice e)) (he : P.underlying e = some (.int .u8)) (hd : P.underlying yt = some .string) (hx : ev n σ x = s.v) (hok : s.ok w) :
    (execOp (ev n σ) ⟨some d, .convert t yt x, ty, pos, aft, g⟩).run P w = .ok (.value (.string ⟨s.l.toArray⟩)) w :=
  r_b2s hs he hd hx hok.rd hok.ln
/-- bytes of a text. -/
theorem o_s2B {e : TypeId} {l : List UInt8} (H : Hp w0 w S L) (hs : P.underlying t = some .string) (hd : P.underlying yt = some (.slice e)) (he : P.underlying e = some (.int .u8)) (hx : ev n σ x = .string ⟨l.toArray⟩) (hm : l.length ≤ 1099511627776)
    (h : ∀ b cap ob w', Hp w0 w' S (L ++ [.obj b ob]) → w0.heap.size ≤ b → (∀ w'' : World, Ch.ok w'' (.obj b ob) → (⟨some ⟨b, 0, none⟩, l.length, cap, l⟩ : Sl).ok w'') → K (mk n (up σ d (.slice (some ⟨b, 0, none⟩) l.length cap))) w') :
    Oper.wp P ⟨some d, .convert t yt x, ty, pos, aft, g⟩ (mk n σ) w K Q := by
  refine o_s2b H hs hd he hx fun b cap ob w' H' hb hr hc => h b cap ob w' H' hb fun w'' hw => ⟨hr w'' hw, rfl, ?_, ?_⟩
  · exact hc
  · simp only; omega
end
def resF (tmps : Array Value) : ResultVar → Sem Value
  | .tmp t => pure (tmps.getD t undef)
  | .cell a t => do loadVar t (← asAddr (tmps.getD a undef))
def resOk (P : Program) (n : Nat) (σ : Nat → Value) (w : World) : List ResultVar → List Value → Prop
  | [], [] => True
  | .tmp t :: rs, v :: vs => ev n σ (.tmp t) = v ∧ resOk P n σ w rs vs
  | .cell a t :: rs, v :: vs => (∃ b C T k, ev n σ (.tmp a) = .pointer (some ⟨b, 0, none⟩) ∧ w.heap[b]? = some (.cells (List.toArray C) T (0, 0)) ∧ ((rowTy P t = some k ∧ C.length = k ∧ v = .agg C.toArray) ∨ (cellTy P t = true ∧ C[0]? = some v))) ∧ resOk P n σ w rs vs
  | _, _ => False
theorem run_resF {P : Program} {n : Nat} {σ : Nat → Value} {w : World} : ∀ (rs : List ResultVar) (vs : List Value) (acc : Array Value), resOk P n σ w rs vs →
    (rs.foldlM (fun acc r => do let v ← resF (mk n σ).tmps r; pure (acc.push v)) acc : Sem (Array Value)).run P w = .ok (acc ++ vs.toArray) w
  | [], [], acc, _ => by simp
  | .tmp t :: rs, v :: vs, acc, h => by
    have h1 : (mk n σ).tmps.getD t undef = v := by rw [mk_tmp]; exact h.1
    have e : (resF (mk n σ).tmps (.tmp t)).run P w = .ok v w := by simp [resF, h1]
    rw [List.foldlM_cons, Sem.run_bind, Sem.run_bind, e]
    simp only [Result.andThen_ok, Sem.run_pure]
    rw [run_resF rs vs _ h.2]
    congr 1
    simp
  | .cell a t :: rs, v :: vs, acc, h => by
    obtain ⟨⟨b, C, T, k, h1, h2, h3⟩, h4⟩ := h
    have e1 : (mk n σ).tmps.getD a undef = .pointer (some ⟨b, 0, none⟩) := by rw [mk_tmp]; exact h1
    have e2 : (loadVar t ⟨b, 0, none⟩).run P w = .ok v w := by
      rcases h3 with ⟨hr, hk, rfl⟩ | ⟨hc, hv⟩
      · have := run_loadAt_row (P := P) (t := t) (k := k) (o := 0) h2 hr (by omega)
        simp only [Instr.loadAt, Instr.sureAddr, Sem.run_bind, Sem.run_pure, Result.andThen_ok] at this
        rw [this, List.drop_zero, List.take_of_length_le (by omega)]
      · have := run_loadAt_cell (P := P) (t := t) (a := ⟨b, 0, none⟩) (v := v) (w := w) hc (by simp [World.cell?, h2, hv])
        simpa only [Instr.loadAt, Instr.sureAddr, Sem.run_bind, Sem.run_pure, Result.andThen_ok] using this
    have e : (resF (mk n σ).tmps (.cell a t)).run P w = .ok v w := by simp [resF, e1, asAddr, e2]
    rw [List.foldlM_cons, Sem.run_bind, Sem.run_bind, e]
    simp only [Result.andThen_ok, Sem.run_pure]
    rw [run_resF rs vs _ h4]
    congr 1
    simp
theorem e_retN {P : Program} {n : Nat} {σ : Nat → Value} {w : World} {fn : Func} {R : Ending → World → Prop} (rs : List ResultVar) (vs : List Value) (hres : fn.results = rs.toArray) (h1 : (vs.length == 1) = false) (hv : resOk P n σ w rs vs)
    (hR : R (.returned (.tuple vs.toArray)) w) : bodyPost P fn R .ret (mk n σ) w := by
  refine ⟨mk_defers n σ, .tuple vs.toArray, ?_, hR⟩
  have h2 := run_resF (P := P) (w := w) rs vs #[] hv
  have h3 : (fn.results.mapM (resF (mk n σ).tmps)).run P w = .ok vs.toArray w := by
    rw [hres, Array.mapM_eq_foldlM, List.foldlM_toArray]
    simpa using h2
  have h4 : results fn (mk n σ).tmps = (do let vs ← fn.results.mapM (resF (mk n σ).tmps); pure (if h : vs.size = 1 then vs[0] else .tuple vs)) := by
    unfold results
    congr 1
  rw [h4, Sem.run_bind, h3]
  have : ¬ vs.length = 1 := by simpa using h1
  simp [this]
theorem Hp.resA {P : Program} {n : Nat} {σ : Nat → Value} {w0 w : World} {S : List Nat} {L : List Ch} (H : Hp w0 w S L) {a t b i k : Nat} {l : List UInt8} {T : TypeId} {rs : List ResultVar} {vs : List Value} (hi : L[i]? = some (.blk b (l.map V8) T)) (hv : ev n σ (.tmp a) = .pointer (some ⟨b, 0, none⟩)) (hr : rowTy P t = some k) (hk : l.length = k)
    (h : resOk P n σ w rs vs) : resOk P n σ w (.cell a t :: rs) (.agg (l.map V8).toArray :: vs) :=
  ⟨⟨b, l.map V8, T, k, hv, H.blk hi, .inl ⟨hr, by rw [List.length_map, hk], rfl⟩⟩, h⟩
theorem Hp.resR {P : Program} {n : Nat} {σ : Nat → Value} {w0 w : World} {S : List Nat} {L : List Ch} (H : Hp w0 w S L) {a t b i k : Nat} {C : List Value} {T : TypeId} {rs : List ResultVar} {vs : List Value} (hi : L[i]? = some (.blk b C T)) (hv : ev n σ (.tmp a) = .pointer (some ⟨b, 0, none⟩)) (hr : rowTy P t = some k) (hk : C.length = k)
    (h : resOk P n σ w rs vs) : resOk P n σ w (.cell a t :: rs) (.agg C.toArray :: vs) :=
  ⟨⟨b, C, T, k, hv, H.blk hi, .inl ⟨hr, hk, rfl⟩⟩, h⟩
theorem resT {P : Program} {n : Nat} {σ : Nat → Value} {w : World} {t : Nat} {v : Value} {rs : List ResultVar} {vs : List Value} (hv : ev n σ (.tmp t) = v) (h : resOk P n σ w rs vs) : resOk P n σ w (.tmp t :: rs) (v :: vs) := ⟨hv, h⟩
theorem resZ {P : Program} {n : Nat} {σ : Nat → Value} {w : World} : resOk P n σ w [] [] := trivial
section
variable {P : Program} {Q : Exit → Act → World → Prop} {n : Nat} {σ : Nat → Value} {w : World} {c : Code} {ι κ ξ ο π : Type}
theorem c_loop2 (pat : ι → κ → List (Nat × Value)) (A : ι → κ → World → Prop) (μ : ι → κ → Nat) (i : ι) (k : κ) (hp : fits σ (pat i k)) (hA : A i k w)
    (h : ∀ i k τ w, A i k w → c.wp P (Exit.then (Rnd n (fun x : ι × κ => pat x.1 x.2) (fun x => A x.1 x.2) (fun x => μ x.1 x.2) (μ i k)) Q) (mk n (ups τ (pat i k))) w) : (Code.loop c).wp P Q (mk n σ) w :=
  c_loop (fun x : ι × κ => pat x.1 x.2) (fun x => A x.1 x.2) (fun x => μ x.1 x.2) (i, k) hp hA fun x τ w hA => h x.1 x.2 τ w hA
theorem c_loop3 (pat : ι → κ → ξ → List (Nat × Value)) (A : ι → κ → ξ → World → Prop) (μ : ι → κ → ξ → Nat) (i : ι) (k : κ) (x : ξ) (hp : fits σ (pat i k x)) (hA : A i k x w)
    (h : ∀ i k x τ w, A i k x w → c.wp P (Exit.then (Rnd n (fun y : ι × κ × ξ => pat y.1 y.2.1 y.2.2) (fun y => A y.1 y.2.1 y.2.2) (fun y => μ y.1 y.2.1 y.2.2) (μ i k x)) Q) (mk n (ups τ (pat i k x))) w) : (Code.loop c).wp P Q (mk n σ) w :=
  c_loop (fun y : ι × κ × ξ => pat y.1 y.2.1 y.2.2) (fun y => A y.1 y.2.1 y.2.2) (fun y => μ y.1 y.2.1 y.2.2) (i, k, x) hp hA fun y τ w hA => h y.1 y.2.1 y.2.2 τ w hA
theorem c_loop4 (pat : ι → κ → ξ → ο → List (Nat × Value)) (A : ι → κ → ξ → ο → World → Prop) (μ : ι → κ → ξ → ο → Nat) (i : ι) (k : κ) (x : ξ) (o : ο) (hp : fits σ (pat i k x o)) (hA : A i k x o w)
    (h : ∀ i k x o τ w, A i k x o w → c.wp P (Exit.then (Rnd n (fun y : ι × κ × ξ × ο => pat y.1 y.2.1 y.2.2.1 y.2.2.2) (fun y => A y.1 y.2.1 y.2.2.1 y.2.2.2) (fun y => μ y.1 y.2.1 y.2.2.1 y.2.2.2) (μ i k x o)) Q) (mk n (ups τ (pat i k x o))) w) : (Code.loop c).wp P Q (mk n σ) w :=
  c_loop (fun y : ι × κ × ξ × ο => pat y.1 y.2.1 y.2.2.1 y.2.2.2) (fun y => A y.1 y.2.1 y.2.2.1 y.2.2.2) (fun y => μ y.1 y.2.1 y.2.2.1 y.2.2.2) (i, k, x, o) hp hA fun y τ w hA => h y.1 y.2.1 y.2.2.1 y.2.2.2 τ w hA
theorem c_loop5 (pat : ι → κ → ξ → ο → π → List (Nat × Value)) (A : ι → κ → ξ → ο → π → World → Prop) (μ : ι → κ → ξ → ο → π → Nat) (i : ι) (k : κ) (x : ξ) (o : ο) (p : π) (hp : fits σ (pat i k x o p)) (hA : A i k x o p w)
    (h : ∀ i k x o p τ w, A i k x o p w → c.wp P (Exit.then (Rnd n (fun y : ι × κ × ξ × ο × π => pat y.1 y.2.1 y.2.2.1 y.2.2.2.1 y.2.2.2.2) (fun y => A y.1 y.2.1 y.2.2.1 y.2.2.2.1 y.2.2.2.2) (fun y => μ y.1 y.2.1 y.2.2.1 y.2.2.2.1 y.2.2.2.2) (μ i k x o p)) Q) (mk n (ups τ (pat i k x o p))) w) : (Code.loop c).wp P Q (mk n σ) w :=
  c_loop (fun y : ι × κ × ξ × ο × π => pat y.1 y.2.1 y.2.2.1 y.2.2.2.1 y.2.2.2.2) (fun y => A y.1 y.2.1 y.2.2.1 y.2.2.2.1 y.2.2.2.2) (fun y => μ y.1 y.2.1 y.2.2.1 y.2.2.2.1 y.2.2.2.2) (i, k, x, o, p) hp hA fun y τ w hA => h y.1 y.2.1 y.2.2.1 y.2.2.2.1 y.2.2.2.2 τ w hA
end
end Go.Proofs.YthigalfaanccnaaGreat
namespace Go.Proofs.YthigalfaanccnaaGreat
open Go
section
variable {P : Program} {Q : Exit → Act → World → Prop} {n : Nat} {σ : Nat → Value} {w w0 : World} {K : Act → World → Prop}
  {ty : TypeId} {pos : String} {aft : Array Edge} {g : Option (Nat × Bool)} {d : Nat} {t yt : TypeId} {x y z : Operand} {S : List Nat} {L : List Ch}
/-- a whole struct stored. -/
theorem o_stW {b i k : Nat} {C C' : List Value} {T : TypeId} (H : Hp w0 w S L) (hi : L[i]? = some (.blk b C T)) (hx : ev n σ x = .pointer (some ⟨b, 0, none⟩)) (hy : ev n σ y = .agg C'.toArray)
    (hs : cellSz P t = some k) (h1 : C'.all (·.oneCell') = true) (hk : C.length = k) (hk' : C'.length = k)
    (h : ∀ w', Hp w0 w' S (L.set i (.blk b C' T)) → K (mk n σ) w') : Oper.wp P ⟨none, .store t x y, ty, pos, aft, g⟩ (mk n σ) w K Q :=
  o_stw H hi hx hy (by rw [hs, List.size_toArray, hk']) (by rw [List.all_toArray]; exact h1) (by rw [List.size_toArray, hk, hk']) fun w' H' => h w' H'
/-- slices of structs: what stands there. -/
structure Gl (α : Type) where
  a : Option Addr
  len : Nat
  cap : Nat
  l : List α
def Gl.v {α : Type} (s : Gl α) : Value := .slice s.a s.len s.cap
structure Gl.ok {α : Type} (enc : α → List Value) (sz : Nat) (s : Gl α) (w : World) : Prop where
  rd : RdS w s.a (s.l.flatMap enc)
  ln : s.l.length = s.len
  le : s.len ≤ s.cap
  mx : s.cap ≤ maxLen
  sz : ∀ c ∈ s.l, (enc c).length = sz
theorem Gl.ok.up {α : Type} {enc : α → List Value} {sz : Nat} {s : Gl α} (hs : s.ok enc sz w0) (H : Hp w0 w [] L) : s.ok enc sz w := ⟨H.rd hs.rd (apart_nil _), hs.ln, hs.le, hs.mx, hs.sz⟩
theorem flat_len {α : Type} {enc : α → List Value} {sz : Nat} : ∀ {l : List α}, (∀ c ∈ l, (enc c).length = sz) → (l.flatMap enc).length = l.length * sz
  | [], _ => by simp
  | c :: l, h => by
    rw [List.flatMap_cons, List.length_append, h c (by simp), flat_len (l := l) (fun c hc => h c (by simp [hc])), List.length_cons, Nat.succ_mul, Nat.add_comm]
theorem flat_at {α : Type} {enc : α → List Value} {sz : Nat} {c : α} : ∀ {l : List α} {k : Nat}, (∀ c ∈ l, (enc c).length = sz) → l[k]? = some c → ((l.flatMap enc).drop (k * sz)).take sz = enc c
  | [], k, _, h => by simp at h
  | b :: l, 0, hs, h => by
    simp at h; subst h
    have := hs b (by simp)
    rw [Nat.zero_mul, List.drop_zero, List.flatMap_cons, ← this, List.take_left]
  | b :: l, k + 1, hs, h => by
    have hb := hs b (by simp)
    rw [Nat.succ_mul, Nat.add_comm, List.flatMap_cons, ← List.drop_drop, ← hb, List.drop_left, hb]
    exact flat_at (fun c hc => hs c (by simp [hc])) (by simpa using h)
theorem Gl.ok.addr {α : Type} {enc : α → List Value} {sz : Nat} {s : Gl α} (h : s.ok enc sz w) (hz : 0 < sz) (hp : 0 < s.len) : ∃ b o, s.a = some ⟨b, o, none⟩ :=
  h.rd.addr (by rw [flat_len h.sz, h.ln]; exact Nat.mul_pos hp hz)
theorem r_ldRow {α : Type} {enc : α → List Value} {sz : Nat} {s : Gl α} {b o k : Nat} {c : α} (hs : s.ok enc sz w) (ha : s.a = some ⟨b, o, none⟩) (hx : ev n σ x = .pointer (some ⟨b, o + k * sz, none⟩)) (ht : rowTy P t = some sz) (hz : 0 < sz) (hk : s.l[k]? = some c) :
    (execOp (ev n σ) ⟨some d, .load t x, ty, pos, aft, g⟩).run P w = .ok (.value (.agg (enc c).toArray)) w := by
  have hlt : k < s.l.length := (List.getElem?_eq_some_iff.1 hk).1
  have := r_ldsr (P := P) (w := w) (t := t) (d := d) (ty := ty) (pos := pos) (aft := aft) (g := g) hs.rd ha hx ht hz (by
    rw [flat_len hs.sz]
    have : (k + 1) * sz ≤ s.l.length * sz := Nat.mul_le_mul_right _ hlt
    rw [Nat.succ_mul] at this; exact this)
  rwa [flat_at hs.sz hk] at this
/-- a field of a struct of a slice. -/
theorem r_ldFld {α : Type} {enc : α → List Value} {sz off : Nat} {s : Gl α} {b o k : Nat} {c : α} {v : Value} (hs : s.ok enc sz w) (ha : s.a = some ⟨b, o, none⟩) (hx : ev n σ x = .pointer (some ⟨b, o + k * sz + off, none⟩)) (ht : cellTy P t = true) (hk : s.l[k]? = some c) (hoff : off < sz) (hv : (enc c)[off]? = some v) :
    (execOp (ev n σ) ⟨some d, .load t x, ty, pos, aft, g⟩).run P w = .ok (.value v) w := by
  refine r_lds (i := k * sz + off) hs.rd ha (by rw [hx, Nat.add_assoc]) ht ?_
  have h := flat_at hs.sz hk
  rw [← h, List.getElem?_take_of_lt hoff, List.getElem?_drop] at hv
  exact hv
theorem Hp.glOwn {α : Type} {enc : α → List Value} (H : Hp w0 w S L) {i : Nat} {a : Option Nat} {len cap sz : Nat} {l : List α} {T : TypeId} (hi : L[i]? = some (.own a len cap (l.flatMap enc) T sz)) (hz : 0 < sz) (hs : ∀ c ∈ l, (enc c).length = sz) : (⟨hd a, len, cap, l⟩ : Gl α).ok enc sz w := by
  have h := H.ownLen hi
  refine ⟨H.own hi, ?_, h.2.1, h.2.2, hs⟩
  have h1 := h.1
  rw [flat_len hs] at h1
  exact Nat.eq_of_mul_eq_mul_right hz h1
theorem fill_row (sz : Nat) (zs vs : List Value) (h1 : zs.length = sz) (h2 : vs.length = sz) : Instr.fill (fun i => some (i * sz, sz)) zs.toArray [(0, .agg vs.toArray)] = some vs.toArray := by
  have h : ∀ (vs done zs : List Value), zs.length = vs.length → (vs.zipIdx done.length).foldl (fun (acc : Array Value) (p : Value × Nat) => acc.setIfInBounds p.2 p.1) (done ++ zs).toArray = (done ++ vs).toArray := by
    intro vs
    induction vs with
    | nil => intro done zs hz; have : zs = [] := List.length_eq_zero_iff.1 (by simpa using hz); subst this; simp
    | cons v vs ih =>
      intro done zs hz
      cases zs with
      | nil => simp at hz
      | cons z zs =>
        have := ih (done ++ [v]) zs (by simpa using hz)
        simp only [List.length_append, List.length_singleton, List.append_assoc, List.singleton_append] at this
        rw [← this, List.zipIdx_cons, List.foldl_cons]
        congr 1
        simp []
  have := h vs [] zs (by omega)
  simp only [Instr.fill, Value.cells, Nat.zero_mul]
  rw [if_neg (by simp [h1, h2])]
  simpa [Nat.zero_add] using this
/-- a literal of one struct, or of none. -/
theorem o_bslG1 {α : Type} {enc : α → List Value} {e : TypeId} {sz bytes : Nat} {parts : Array (Nat × Operand)} {zs : List Value} (c : α) (H : Hp w0 w S L) (hT : SlTy P t e sz bytes) (hz : zeroCells P e = some zs) (_hzs : zs.length = sz) (h0 : 0 < sz) (hsm : sz ≤ 16777216)
    (hp : pvs n σ parts.toList = [(0, .agg (enc c).toArray)]) (hc : (enc c).length = sz)
    (h : ∀ b w', Hp w0 w' S (L ++ [.own (some b) 1 1 ([c].flatMap enc) e sz]) → w0.heap.size ≤ b → K (mk n (up σ d (.slice (hd (some b)) 1 1))) w') :
    Oper.wp P ⟨some d, .buildSlice t 1 parts, ty, pos, aft, g⟩ (mk n σ) w K Q := by
  refine o_bsl (cells := (enc c).toArray) H hT hz h0 hp (by omega) ?_ fun b w' H' hb => h b w' ?_ hb
  · have hzl : ((Array.range (1 * sz)).map (zs.toArray[· % zs.toArray.size]!)).toList.length = sz := by simp
    have := fill_row sz ((Array.range (1 * sz)).map (zs.toArray[· % zs.toArray.size]!)).toList (enc c) hzl hc
    rwa [Array.toArray_toList] at this
  · have := H'.toOwn (i := L.length) (len := 1) (cap := 1) (sz := sz) (b := b) (C := enc c) (T := e) (by simp) (Nat.le_refl _) (by decide) (by omega)
    rw [List.set_append_right _ _ (Nat.le_refl _), Nat.sub_self, List.take_of_length_le (by omega)] at this
    simpa using this
/-- an array within a struct as a slice. -/
theorem r_slAo {lo hi mx : Option Operand} {b o len sz h m : Nat} {lv hv mv : Option Value} (hx : ev n σ x = .pointer (some ⟨b, o, none⟩)) (ht : arrOf P t = some (len, sz))
    (hl : lo.map (ev n σ) = lv) (hh : hi.map (ev n σ) = hv) (hm : mx.map (ev n σ) = mv) (hb : ∀ w, (Instr.sliceBounds false len len lv hv mv).run P w = .ok (0, h, m) w) :
    (execOp (ev n σ) ⟨some d, .slice t x lo hi mx, ty, pos, aft, g⟩).run P w = .ok (.value (.slice (some ⟨b, o, none⟩) h m)) w := by
  have := r_sla (P := P) (w := w) (d := d) (ty := ty) (pos := pos) (aft := aft) (g := g) hx ht hl hh hm hb
  rwa [sa_zero, Nat.sub_zero, Nat.sub_zero] at this
/-- a byte of a text. -/
theorem r_idxS {kk : IntKind} {i : Int} {l : List UInt8} (k : Nat) (hu : P.underlying t = some .string) (hx : ev n σ x = .string ⟨l.toArray⟩) (hy : ev n σ y = .int kk i) (hi : i = (k : Int)) (hk : k < l.length) :
    (execOp (ev n σ) ⟨some d, .index t x y, ty, pos, aft, g⟩).run P w = .ok (.value (V8 (l.getD k 0))) w := by
  subst hi
  exact r_idxs hu hx hy (by omega) (by simp [List.getD_eq_getElem?_getD, hk])
end
end Go.Proofs.YthigalfaanccnaaGreat
namespace Go.Proofs.YthigalfaanccnaaGreat
open Go
section
variable {P : Program} {Q : Exit → Act → World → Prop} {n : Nat} {σ : Nat → Value} {w w0 : World} {K : Act → World → Prop}
  {ty : TypeId} {pos : String} {aft : Array Edge} {g : Option (Nat × Bool)} {d : Nat} {t yt : TypeId} {x y : Operand} {S : List Nat} {L : List Ch}
theorem part_cell {e : TypeId} (he : cellTy P e = true) {xs : Array Value} {off : Nat} {v : Value} (hx : xs[off]? = some v) : (part e xs off).run P w = .ok v w := by simp [part, run_isAgg_cell he, hx]
theorem eqI_u8s {t e : TypeId} {m : Nat} (hu : P.underlying t = some (.array m e)) (he : P.underlying e = some (.int .u8)) (hc : cellSz P e = some 1) (dd : Nat) (a b : List UInt8) (ha : a.length = m) (hb : b.length = m) :
    (Op.equalIn (dd + 2) t (.agg (a.map V8).toArray) (.agg (b.map V8).toArray)).run P w = .ok (decide (a = b)) w := by
  cases hi : P.info? e with
  | none => simp [cellSz, hi] at hc
  | some i =>
    have hco : P.cellsOf e = 1 := by simpa [cellSz, hi, Program.cellsOf] using hc
    rw [run_equalIn_array w (dd + 1) _ _ hu hi, hco, eqItems_u8 he dd a b (by omega) w _ (by simp [ha])]
    congr 1
    rw [Bool.eq_iff_iff]
    simp only [List.all_eq_true, List.mem_range, beq_iff_eq, decide_eq_true_eq]
    constructor
    · intro h
      apply List.ext_getElem?
      intro j
      by_cases hj : j < m
      · exact h j hj
      · rw [List.getElem?_eq_none (by omega), List.getElem?_eq_none (by omega)]
    · rintro rfl j _; rfl
/-- bytes of a text behind bytes of one's own. -/
theorem o_appS {i : Nat} {a : Option Nat} {len cap len' : Nat} {l l' u : List UInt8} {e : TypeId} {tx : TypeId} (el : l ++ u = l') (en : len + u.length = len') (H : Hp w0 w S L) (hi : L[i]? = some (.own a len cap (l.map V8) e 1)) (hT : SlTy P t e 1 1) (hu : P.underlying tx = some .string)
    (hx : ev n σ x = .slice (hd a) len cap) (hy : ev n σ y = .string ⟨u.toArray⟩) (hm : len' ≤ 68719476736)
    (h : ∀ a' cap' w', Hp w0 w' S (L.set i (.own a' len' cap' (l'.map V8) e 1)) → K (mk n (up σ d (.slice (hd a') len' cap'))) w') :
    Oper.wp P ⟨some d, .call ⟨.builtin .append, #[x, y], #[t, tx]⟩, ty, pos, aft, g⟩ (mk n σ) w K Q := by
  subst el en
  have hsrc := Src.ofString (P := P) w hu ⟨u.toArray⟩
  have eb : byteCells ⟨u.toArray⟩ = u.map V8 := by simp [byteCells]
  have es : (⟨u.toArray⟩ : ByteArray).size = u.length := rfl
  rw [eb, es] at hsrc
  refine o_app H hi hT hx hy hsrc (by decide) (by omega) (by omega) fun a' cap' w' H' => h a' cap' w' ?_
  rw [List.map_append]; exact H'
end
end Go.Proofs.YthigalfaanccnaaGreat
namespace Go.Proofs.YthigalfaanccnaaGreat
open Go
section
variable {P : Program} {Q : Exit → Act → World → Prop} {n : Nat} {σ : Nat → Value} {w w0 : World} {K : Act → World → Prop}
  {ty : TypeId} {pos : String} {aft : Array Edge} {g : Option (Nat × Bool)} {d : Nat} {t yt : TypeId} {x y : Operand} {S : List Nat} {L : List Ch}
/-- bytes behind a slice that has no room for them: a new one. -/
theorem o_appX {s u : Sl} {e e' : TypeId} {tx : TypeId} {l' : List UInt8} {len' : Nat} (el : s.l ++ u.l = l') (en : s.len + u.len = len') (H : Hp w0 w S L) (hs : s.ok w) (hu : u.ok w) (hfull : s.cap < s.len + u.len) (hT : SlTy P t e 1 1) (htx : P.underlying tx = some (.slice e'))
    (hx : ev n σ x = s.v) (hy : ev n σ y = u.v) (hm : len' ≤ 68719476736)
    (h : ∀ a' cap' w', Hp w0 w' S (L ++ [.own a' len' cap' (l'.map V8) e 1]) → K (mk n (up σ d (.slice (hd a') len' cap'))) w') :
    Oper.wp P ⟨some d, .call ⟨.builtin .append, #[x, y], #[t, tx]⟩, ty, pos, aft, g⟩ (mk n σ) w K Q := by
  subst el en
  obtain ⟨inf, zv, hinf, hzv, hsize, hby, hzs⟩ := hT.row
  have h1 : ∀ (l : List UInt8), ∀ v ∈ l.map V8, v.oneCell' = true := by
    intro l v hv
    obtain ⟨b, _, rfl⟩ := List.mem_map.1 hv
    rfl
  have hsrc : Src P 1 tx u.v u.len (u.l.map V8) w := RdS.src htx hu.rd (by simp [hu.ln]) (by decide) (h1 _)
  have hsrs : Src P 1 tx s.v s.len (s.l.map V8) w := RdS.src htx hs.rd (by simp [hs.ln]) (by decide) (h1 _)
  have hrow := run_append_grow_src (P := P) w t tx ty e inf zv hT.und hinf hzv s.a s.len s.cap (s.l.map V8) (by rw [hsize]; exact hsrs.cellsD) u.v u.len (u.l.map V8) (by rw [hsize]; exact hsrc) hfull (by omega)
    (by rw [hby]; exact slicecap_le (by omega) hfull)
  have hgc := grownCap_ge w (s.len + u.len) s.cap e
  have hgm := grownCap_le_maxLen w (s.len + u.len) s.cap e (by simp [maxLen]; omega)
  generalize hcc : grownCap w (s.len + u.len) s.cap e = cc at *
  have hargs : (#[x, y] : Array Operand).map (ev n σ) = #[s.v, u.v] := by simp [hx, hy]
  refine o_val (run_builtin (s := Builtin.append_ #[t, tx] ty #[s.v, u.v]) (vs := #[s.v, u.v]) hargs (fun _ => rfl) hrow) (h (some w.heap.size) cc _ ?_); have hsl := hs.ln
  have hul := hu.ln
  refine H.drew.new _ _ rfl ⟨by simp [hsl, hul], hgc, hgm, (Builtin.zeroCells zv.cells (cc - (s.len + u.len))).toList, ?_, ?_⟩
  · have := heap_alloc_new' w.drew (.cells ((s.l.map V8 ++ u.l.map V8).toArray ++ Builtin.zeroCells zv.cells (cc - (s.len + u.len))) e)
    simp only [World.size_drew] at this
    rw [this]
    congr 2
    apply Array.ext'
    simp
  · simp only [List.length_append, List.length_map, Array.length_toList, size_zeroCells, hzs, hsl, hul]
    omega
end
end Go.Proofs.YthigalfaanccnaaGreat
namespace Go.Proofs.YthigalfaanccnaaGreat
open Go Go.MapKept
set_option linter.unusedSectionVars false
section
variable {κ : Type} [DecidableEq κ]
def ment (kv : κ → Value) (x : κ × Value × Nat) : MapEntry := { key := kv x.1, val := x.2.1, born := x.2.2 }
def midx (k : κ) : List (κ × Value × Nat) → Nat → Option (Nat × Value)
  | [], _ => none
  | x :: L, i => if k = x.1 then some (i, x.2.1) else midx k L (i + 1)
/-- what stands under a key. -/
def mget (L : List (κ × Value × Nat)) (k : κ) : Option Value :=
  match L with
  | [] => none
  | x :: L => if k = x.1 then some x.2.1 else mget L k
def mput (k : κ) (v : Value) (c : Nat) : List (κ × Value × Nat) → List (κ × Value × Nat)
  | [] => [(k, v, c)]
  | x :: L => if k = x.1 then (k, v, x.2.2) :: L else x :: mput k v c L
def mclk (L : List (κ × Value × Nat)) (k : κ) (c : Nat) : Nat := if (mget L k).isSome then c else c + 1
structure MOk (L : List (κ × Value × Nat)) (c : Nat) : Prop where
  keys : (L.map (·.1)).Nodup
  born : (L.map (·.2.2)).Nodup
  old : ∀ x ∈ L, x.2.2 < c
omit [DecidableEq κ] in
theorem MOk.nil : MOk ([] : List (κ × Value × Nat)) 0 := ⟨List.nodup_nil, List.nodup_nil, fun _ h => by cases h⟩
theorem mget_put (k j : κ) (v : Value) (c : Nat) : ∀ L : List (κ × Value × Nat), mget (mput k v c L) j = if j = k then some v else mget L j
  | [] => by simp [mput, mget]
  | x :: L => by
    rw [mput]
    by_cases h : k = x.1
    · rw [if_pos h, mget, mget, ← h]; simp only
      by_cases hj : j = k <;> simp [hj]
    · rw [if_neg h, mget, mget, mget_put k j v c L]
      by_cases hj : j = x.1
      · rw [if_pos hj, if_pos hj, if_neg (fun e : j = k => h (e.symm.trans hj))]
      · rw [if_neg hj, if_neg hj]
/-- keys of a type: how they are found. -/
structure KeyOf (P : Program) (kt : TypeId) (kv : κ → Value) : Prop where
  chk : ∀ (e : Bool) (k : κ) (w : World), (Instr.checkKey e 10000 kt (kv k)).run P w = .ok () w
  fnd : ∀ (k : κ) (L : List (κ × Value × Nat)) (w : World), (Instr.findKey kt (kv k) (L.map (ment kv))).run P w = .ok (midx k L 0) w
  same : ∀ k, Instr.sameBits 10000 (kv k) (kv k) = true
/-- .. where they are asked by the operator. -/
theorem findAsking_ask {P : Program} {kt : TypeId} {kv : κ → Value} {w : World} (he : ∀ k j : κ, (Op.equal kt (kv k) (kv j)).run P w = .ok (decide (k = j)) w) (k : κ) : ∀ (L : List (κ × Value × Nat)) (i : Nat), (Instr.findAsking kt (kv k) (L.map (ment kv)) i).run P w = .ok (midx k L i) w
  | [], i => rfl
  | x :: L, i => by
    rw [List.map_cons, Instr.findAsking, Sem.run_bind]
    show ((Op.equal kt (kv k) (kv x.1)).run P w).andThen _ = _
    rw [he, midx]
    by_cases h : k = x.1
    · rw [decide_eq_true h, if_pos h]; rfl
    · rw [decide_eq_false h, if_neg h]; exact findAsking_ask he k L (i + 1)
theorem KeyOf.ask {P : Program} {kt : TypeId} {kv : κ → Value} (hwide : (match P.underlying kt with | some (.array _ _) | some (.struct _) => true | _ => false) = true) (hc : ∀ (e : Bool) (k : κ) (w : World), (Instr.checkKey e 10000 kt (kv k)).run P w = .ok () w)
    (he : ∀ (k j : κ) (w : World), (Op.equal kt (kv k) (kv j)).run P w = .ok (decide (k = j)) w) (hs : ∀ k, Instr.sameBits 10000 (kv k) (kv k) = true) : KeyOf P kt kv :=
  ⟨hc, fun k L w => by rw [run_findKey_eq w hwide]; exact findAsking_ask (fun a b => he a b w) k L 0, hs⟩
/-- a map's block. -/
def mobj (kv : κ → Value) (L : List (κ × Value × Nat)) (c : Nat) : Obj := .map (L.map (ment kv)).toArray c
theorem midx_get (k : κ) : ∀ (L : List (κ × Value × Nat)) (i : Nat), (midx k L i).map (·.2) = mget L k
  | [], _ => rfl
  | x :: L, i => by
    rw [midx, mget]
    by_cases h : k = x.1
    · rw [if_pos h, if_pos h]; rfl
    · rw [if_neg h, if_neg h]; exact midx_get k L (i + 1)
end
section
variable {κ : Type} [DecidableEq κ] {P : Program} {Q : Exit → Act → World → Prop} {n : Nat} {σ : Nat → Value} {w w0 : World} {K : Act → World → Prop}
  {ty : TypeId} {pos : String} {aft : Array Edge} {g : Option (Nat × Bool)} {d : Nat} {t kt et : TypeId} {x y : Operand} {S : List Nat} {L : List Ch}
/-- 'make' of a map. -/
theorem o_mmake (kv : κ → Value) (H : Hp w0 w S L) (h : ∀ b w', Hp w0 w' S (L ++ [.obj b (mobj kv [] 0)]) → w0.heap.size ≤ b → K (mk n (up σ d (.map (some b)))) w') : Oper.wp P ⟨some d, .makeMap t none, ty, pos, aft, g⟩ (mk n σ) w K Q := by
  refine o_val (v := .map (some w.heap.size)) (w' := w.alloc (.map #[] 0)) ?_ (h w.heap.size _ (H.new _ (.obj w.heap.size (mobj kv [] 0)) rfl (heap_alloc_new' w _)) H.size)
  rfl
/-- a look-up. -/
theorem r_look {kv : κ → Value} {M : List (κ × Value × Nat)} {c i b : Nat} {k : κ} {z : Value} (H : Hp w0 w S L) (hi : L[i]? = some (.obj b (mobj kv M c))) (hu : P.underlying t = some (.map kt et)) (hK : KeyOf P kt kv) (hz : ∀ w, (zeroValue et).run P w = .ok z w)
    (hx : ev n σ x = .map (some b)) (hy : ev n σ y = kv k) (ok : Bool) :
    (execOp (ev n σ) ⟨some d, .lookup t x y ok, ty, pos, aft, g⟩).run P w = .ok (.value (if ok then .tuple #[(mget M k).getD z, .bool (mget M k).isSome] else (mget M k).getD z)) w := by
  have hb : w.heap[b]? = some (.map (M.map (ment kv)).toArray c) := H.has _ (List.mem_of_getElem? hi)
  have hg : (Instr.lookup t (.map (some b)) (kv k) ok).run P w = .ok (if ok then .tuple #[(mget M k).getD z, .bool (mget M k).isSome] else (mget M k).getD z) w := by
    unfold Instr.lookup
    simp only [Sem.run_bind, run_underlying hu, Result.andThen_ok, MapKept.run_getObj_map hb, hK.chk]
    have hf := hK.fnd k M w
    rw [← midx_get k M 0]
    cases hm : midx k M 0 with
    | none => rw [hm] at hf; cases ok <;> simp [hf, hz]
    | some r => rw [hm] at hf; cases ok <;> simp [hf]
  simp only [execOp, hx, hy, Sem.run_bind, hg, Result.andThen_ok]
  rfl
theorem keyStays (k : κ) {kv : κ → Value} (hK : KeyOf P kt kv) : (Instr.keyThatStays (kv k) (kv k)).run P w = .ok (kv k) w := by
  unfold Instr.keyThatStays
  rw [if_pos (hK.same k)]; rfl
theorem midx_some {k : κ} : ∀ {M : List (κ × Value × Nat)} {i j : Nat} {v : Value}, midx k M i = some (j, v) → ∃ x m, j = i + m ∧ M[m]? = some x ∧ x.1 = k ∧ x.2.1 = v
  | [], _, _, _, h => by cases h
  | x :: M, i, j, v, h => by
    rw [midx] at h
    by_cases hk : k = x.1
    · rw [if_pos hk] at h; cases h; exact ⟨x, 0, rfl, rfl, hk.symm, rfl⟩
    · rw [if_neg hk] at h
      obtain ⟨y, m, h1, h2, h3⟩ := midx_some h
      exact ⟨y, m + 1, by omega, h2, h3⟩
theorem mput_none {k : κ} {v : Value} {c : Nat} : ∀ {M : List (κ × Value × Nat)} {i : Nat}, midx k M i = none → mput k v c M = M ++ [(k, v, c)] ∧ mget M k = none
  | [], _, _ => ⟨rfl, rfl⟩
  | x :: M, i, h => by
    rw [midx] at h
    by_cases hk : k = x.1
    · rw [if_pos hk] at h; cases h
    · rw [if_neg hk] at h
      obtain ⟨h1, h2⟩ := mput_none (v := v) (c := c) h
      rw [mput, if_neg hk, h1, mget, if_neg hk]; exact ⟨rfl, h2⟩
theorem mput_some {kv : κ → Value} {k : κ} {v u : Value} {c : Nat} : ∀ {M : List (κ × Value × Nat)} {i j : Nat}, midx k M i = some (j, u) → ((M.map (ment kv)).modify (j - i) fun e => { e with key := kv k, val := v }) = (mput k v c M).map (ment kv) ∧ mget M k = some u ∧ i ≤ j
  | [], _, _, h => by cases h
  | x :: M, i, j, h => by
    rw [midx] at h
    by_cases hk : k = x.1
    · rw [if_pos hk] at h; cases h
      rw [mput, if_pos hk, mget, if_pos hk, Nat.sub_self]
      exact ⟨by simp [ment], rfl, Nat.le_refl _⟩
    · rw [if_neg hk] at h
      obtain ⟨h1, h2, h3⟩ := mput_some (kv := kv) (v := v) (c := c) h
      rw [mput, if_neg hk, mget, if_neg hk]
      refine ⟨?_, h2, by omega⟩
      rw [show j - i = (j - (i + 1)) + 1 by omega, List.map_cons, List.modify_succ_cons, h1, List.map_cons]
/-- 'm[k] = v'. -/
theorem o_mput {kv : κ → Value} {M : List (κ × Value × Nat)} {c i b : Nat} {k : κ} {v : Value} {z : Operand} (H : Hp w0 w S L) (hi : L[i]? = some (.obj b (mobj kv M c))) (hu : P.underlying t = some (.map kt et)) (hK : KeyOf P kt kv)
    (hx : ev n σ x = .map (some b)) (hy : ev n σ y = kv k) (hv : ev n σ z = v) (h : ∀ w', Hp w0 w' S (L.set i (.obj b (mobj kv (mput k v c M) (mclk M k c)))) → K (mk n σ) w') :
    Oper.wp P ⟨none, .mapUpdate t x y z, ty, pos, aft, g⟩ (mk n σ) w K Q := by
  have hb : w.heap[b]? = some (.map (M.map (ment kv)).toArray c) := H.has _ (List.mem_of_getElem? hi)
  have hset := heap_set (o' := mobj kv (mput k v c M) (mclk M k c)) hb
  have hg : (Instr.mapUpdate t (.map (some b)) (kv k) v).run P w = .ok () { w with heap := w.heap.setIfInBounds b (mobj kv (mput k v c M) (mclk M k c)) } := by
    unfold Instr.mapUpdate
    simp only [Sem.run_bind, run_underlying hu, Result.andThen_ok, MapKept.run_getObj_map hb, hK.chk]
    have hf := hK.fnd k M w
    cases hm : midx k M 0 with
    | none =>
      rw [hm] at hf
      obtain ⟨h1, h2⟩ := mput_none (v := v) (c := c) hm
      have e : mobj kv (mput k v c M) (mclk M k c) = .map ((M.map (ment kv)).toArray.push { key := kv k, val := v, born := c }) (c + 1) := by
        rw [mobj, h1, mclk, h2]; simp [ment]
      rw [e]
      simp [hf, MapKept.run_setObj_map _ hb]
    | some r =>
      obtain ⟨j, u⟩ := r
      rw [hm] at hf
      obtain ⟨h1, h2, _⟩ := mput_some (kv := kv) (v := v) (c := c) hm
      obtain ⟨xx, m, hj, hM, hk1, _⟩ := midx_some hm
      rw [Nat.sub_zero] at h1
      have hjm : j = m := by omega
      subst hjm
      have e : mobj kv (mput k v c M) (mclk M k c) = .map ((M.map (ment kv)).toArray.modify j fun e => { e with key := kv k, val := v }) c := by
        rw [mobj, ← h1, mclk, h2]; simp
      have hold : (((M.map (ment kv)).toArray[j]?).map (·.key)).getD (kv k) = kv k := by
        simp [hM, ment, hk1]
      have hst := keyStays (w := w) k hK
      rw [e]
      simp only [hf, Result.andThen_ok]
      rw [Sem.run_bind, hold, hst, Result.andThen_ok, MapKept.run_setObj_map _ hb]
  refine o_skip (w' := { w with heap := w.heap.setIfInBounds b (mobj kv (mput k v c M) (mclk M k c)) }) ?_ (h _ ?_)
  · simp only [execOp, hx, hy, hv, Sem.run_bind, hg, Result.andThen_ok]; rfl
  · refine H.turn hi (c' := .obj b (mobj kv (mput k v c M) (mclk M k c))) hset.1 (fun b' hb' => .inl hb') rfl rfl rfl (by simp) (fun b' _ hne => ?_)
    exact hset.2 b' (fun e => hne (by rw [e]; rfl))
end
end Go.Proofs.YthigalfaanccnaaGreat
namespace Go.Proofs.YthigalfaanccnaaGreat
open Go Go.MapKept
set_option linter.unusedSectionVars false
section
variable {κ : Type} [DecidableEq κ] {P : Program} {Q : Exit → Act → World → Prop} {n : Nat} {σ : Nat → Value} {w w0 : World} {K : Act → World → Prop}
  {ty : TypeId} {pos : String} {aft : Array Edge} {g : Option (Nat × Bool)} {d : Nat} {t kt et : TypeId} {x y : Operand} {S : List Nat} {L : List Ch}
/-- an entry's stamp. -/
def mborn (M : List (κ × Value × Nat)) (k : κ) : Nat :=
  match M with
  | [] => 0
  | x :: M => if k = x.1 then x.2.2 else mborn M k
end
end Go.Proofs.YthigalfaanccnaaGreat
namespace Go.Proofs.YthigalfaanccnaaGreat
open Go
/-- 32 bytes. -/
abbrev Id32 := { l : List UInt8 // l.length = 32 }
section
variable {P : Program} {Q : Exit → Act → World → Prop} {n : Nat} {σ : Nat → Value} {w w0 : World} {K : Act → World → Prop}
  {ty : TypeId} {pos : String} {aft : Array Edge} {g : Option (Nat × Bool)} {d : Nat} {t e k' yt : TypeId} {x y : Operand} {S : List Nat} {L : List Ch}
end
end Go.Proofs.YthigalfaanccnaaGreat
namespace Go.Proofs.YthigalfaanccnaaGreat
open Go
def keys (L : List Ch) : List Nat := L.filterMap Ch.key
/-- chunks that stand in a world, no two of one block. -/
def Own (w : World) (L : List Ch) : Prop := (∀ c ∈ L, c.ok w) ∧ L.Pairwise fun c e => ∀ b, c.key = some b → e.key ≠ some b
theorem Hp.owns {w0 w : World} {S : List Nat} {L : List Ch} (h : Hp w0 w S L) : Own w L := ⟨h.has, h.nd⟩
theorem Own.sub {w : World} {L L' : List Ch} (h : Own w L) (hs : L'.Sublist L) : Own w L' := ⟨fun c hc => h.1 c (hs.subset hc), h.2.sublist hs⟩
theorem nd_symm {c e : Ch} (h : ∀ b, c.key = some b → e.key ≠ some b) : ∀ b, e.key = some b → c.key ≠ some b := fun b h1 h2 => h b h2 h1
theorem Hp.permL {w0 w : World} {S : List Nat} {L L' : List Ch} (h : Hp w0 w S L) (hp : L.Perm L') : Hp w0 w S L' :=
  ⟨h.os, h.tape, h.output, h.size, h.frame, fun c hc => h.has c (hp.mem_iff.2 hc), fun c hc => h.fresh c (hp.mem_iff.2 hc), h.nd.perm hp (fun h => nd_symm h)⟩
theorem perm_front {α : Type} {c : α} : ∀ {L : List α} {j : Nat}, L[j]? = some c → L.Perm (c :: L.eraseIdx j)
  | a :: L, 0, h => by cases h; exact .refl _
  | a :: L, j + 1, h => by
    have := perm_front (L := L) (j := j) h
    exact (List.Perm.cons a this).trans (.swap ..)
theorem mem_keys {L : List Ch} {b : Nat} : b ∈ keys L ↔ ∃ c ∈ L, c.key = some b := List.mem_filterMap
theorem Own.start {w : World} {L : List Ch} (h : Own w L) : Hp w w (keys L) L :=
  ⟨rfl, rfl, rfl, Nat.le_refl _, fun _ _ _ => rfl, h.1, fun c hc b hb => .inl (mem_keys.2 ⟨c, hc, hb⟩), h.2⟩
theorem Hp.callG {w0 w w' : World} {S : List Nat} {L L1 L1' Lr : List Ch} (h : Hp w0 w S L) (hL : L = L1 ++ Lr) (hc : Hp w w' (keys L1) L1') : Hp w0 w' S (Lr ++ L1') := by
  subst hL
  obtain ⟨n1, n2, n3⟩ := List.pairwise_append.1 h.nd
  have out : ∀ e ∈ Lr, ∀ b, e.key = some b → b < w.heap.size ∧ b ∉ keys L1 := fun e he b hb =>
    ⟨Ch.lt (h.has e (List.mem_append_right _ he)) hb, fun hm => by
      obtain ⟨c, hcm, hcb⟩ := mem_keys.1 hm
      exact n3 c hcm e he b hcb hb⟩
  refine ⟨hc.os.trans h.os, hc.tape.trans h.tape, hc.output.trans h.output, Nat.le_trans h.size hc.size, fun b hlt hn => ?_, fun c hcm => ?_, fun c hcm b hb => ?_, ?_⟩
  · have hk : b ∉ keys L1 := fun hm => by
      obtain ⟨c, hcm, hcb⟩ := mem_keys.1 hm
      rcases h.fresh c (List.mem_append_left _ hcm) b hcb with h1 | h1
      · exact hn h1
      · omega
    exact (hc.frame b (Nat.lt_of_lt_of_le hlt h.size) hk).trans (h.frame b hlt hn)
  · rcases List.mem_append.1 hcm with h1 | h1
    · exact Ch.ok_of (h.has c (List.mem_append_right _ h1)) fun b hb => hc.frame b (out c h1 b hb).1 (out c h1 b hb).2
    · exact hc.has c h1
  · rcases List.mem_append.1 hcm with h1 | h1
    · exact h.fresh c (List.mem_append_right _ h1) b hb
    · rcases hc.fresh c h1 b hb with h2 | h2
      · obtain ⟨e, hem, heb⟩ := mem_keys.1 h2
        exact h.fresh e (List.mem_append_left _ hem) b heb
      · exact .inr (Nat.le_trans h.size h2)
  · refine List.pairwise_append.2 ⟨n2, hc.nd, fun e he c hcm b hb hb2 => ?_⟩
    have ho := out e he b hb
    rcases hc.fresh c hcm b hb2 with h2 | h2
    · exact ho.2 h2
    · omega
theorem Hp.own1 {w0 w : World} {S : List Nat} {L L1 Lr : List Ch} (h : Hp w0 w S L) (hL : L = L1 ++ Lr) : Own w L1 := by
  subst hL; exact h.owns.sub (List.sublist_append_left ..)
theorem Hp.ownP {w0 w : World} {S : List Nat} {L LL L1 Lr : List Ch} (h : Hp w0 w S L) (hp : L.Perm LL) (hL : LL = L1 ++ Lr) : Own w L1 := (h.permL hp).own1 hL
theorem Hp.callP {w0 w w' : World} {S : List Nat} {L LL L1 L1' Lr L' : List Ch} (h : Hp w0 w S L) (hp : L.Perm LL) (hL : LL = L1 ++ Lr) (hc : Hp w w' (keys L1) L1') (hq : (Lr ++ L1').Perm L') : Hp w0 w' S L' :=
  ((h.permL hp).callG hL hc).permL hq
end Go.Proofs.YthigalfaanccnaaGreat
namespace Go.Proofs.YthigalfaanccnaaGreat
open Go Go.MapKept
set_option maxRecDepth 100000
section
variable {κ α : Type} [DecidableEq κ] {enc : α → Value} {M : List (κ × Value × Nat)} {F : κ → Option α}
/-- a map's entries are those of a function. -/
def MIs (enc : α → Value) (M : List (κ × Value × Nat)) (F : κ → Option α) : Prop := ∀ k, mget M k = (F k).map enc
def fput (F : κ → Option α) (k : κ) (v : α) : κ → Option α := fun j => if j = k then some v else F j
theorem MIs.nil : MIs enc ([] : List (κ × Value × Nat)) (fun _ => none) := fun _ => rfl
theorem MIs.put (h : MIs enc M F) (k : κ) (v : α) (c : Nat) : MIs enc (mput k (enc v) c M) (fput F k v) := fun j => by
  rw [mget_put, fput, h j]; split <;> rfl
theorem MIs.getD (h : MIs enc M F) (k : κ) (z : α) : (mget M k).getD (enc z) = enc ((F k).getD z) := by
  rw [h k]; cases F k <;> rfl
theorem MIs.isSome (h : MIs enc M F) (k : κ) : (mget M k).isSome = (F k).isSome := by
  rw [h k]; cases F k <;> rfl
end
section
variable {κ α : Type} [DecidableEq κ] {P : Program} {n : Nat} {σ : Nat → Value} {w w0 : World}
  {ty : TypeId} {pos : String} {aft : Array Edge} {g : Option (Nat × Bool)} {d : Nat} {t kt et : TypeId} {x y : Operand} {S : List Nat} {L : List Ch}
theorem r_lookT {kv : κ → Value} {enc : α → Value} {M : List (κ × Value × Nat)} {F : κ → Option α} {c i b : Nat} {k : κ} (z : α) (hF : MIs enc M F) (H : Hp w0 w S L) (hi : L[i]? = some (.obj b (mobj kv M c))) (hu : P.underlying t = some (.map kt et)) (hK : KeyOf P kt kv) (hz : ∀ w, (zeroValue et).run P w = .ok (enc z) w)
    (hx : ev n σ x = .map (some b)) (hy : ev n σ y = kv k) :
    (execOp (ev n σ) ⟨some d, .lookup t x y true, ty, pos, aft, g⟩).run P w = .ok (.value (.tuple #[enc ((F k).getD z), .bool (F k).isSome])) w := by
  have := r_look (P := P) (ty := ty) (pos := pos) (aft := aft) (g := g) (d := d) H hi hu hK hz hx hy true
  rw [hF.getD, hF.isSome] at this
  exact this
end
end Go.Proofs.YthigalfaanccnaaGreat
namespace Go.Proofs.YthigalfaanccnaaGreat
open Go Go.MapKept
set_option linter.unusedSectionVars false
section
variable {κ α : Type} [DecidableEq κ] {P : Program} {Q : Exit → Act → World → Prop} {n : Nat} {σ : Nat → Value} {w w0 : World} {K : Act → World → Prop}
  {ty : TypeId} {pos : String} {aft : Array Edge} {g : Option (Nat × Bool)} {d : Nat} {t kt et : TypeId} {x : Operand} {S : List Nat} {L : List Ch}
/-- an iterator: which keys it has met. -/
def itO (b : Nat) (M : List (κ × Value × Nat)) (c : Nat) (vis : List κ) : Obj := .mapIter (some b) c (vis.map (mborn M)).toArray c
theorem o_range {kv : κ → Value} {M : List (κ × Value × Nat)} {c i b : Nat} (H : Hp w0 w S L) (hi : L[i]? = some (.obj b (mobj kv M c))) (hu : P.underlying t = some (.map kt et)) (hx : ev n σ x = .map (some b))
    (h : ∀ r w', Hp w0 w' S (L ++ [.obj r (itO b M c [])]) → w0.heap.size ≤ r → K (mk n (up σ d (.pointer (some ⟨r, 0, none⟩)))) w') : Oper.wp P ⟨some d, .range t x, ty, pos, aft, g⟩ (mk n σ) w K Q := by
  have hb : w.heap[b]? = some (.map (M.map (ment kv)).toArray c) := H.has _ (List.mem_of_getElem? hi)
  have hg := run_range_map w t kt et b _ c hu hb
  refine o_val (v := .pointer (some ⟨w.heap.size, 0, none⟩)) (w' := w.alloc (.mapIter (some b) c #[] c)) ?_ (h w.heap.size _ (H.new _ (.obj w.heap.size (itO b M c [])) rfl (heap_alloc_new' w _)) H.size)
  simp only [execOp, hx, Sem.run_bind, hg, Result.andThen_ok]
  rfl
theorem mget_mem {M : List (κ × Value × Nat)} {k : κ} {v : Value} (h : mget M k = some v) : ∃ x ∈ M, x.1 = k ∧ x.2.1 = v ∧ x.2.2 = mborn M k := by
  induction M with
  | nil => cases h
  | cons y M ih =>
    rw [mget] at h
    by_cases e : k = y.1
    · rw [if_pos e] at h; cases h
      exact ⟨y, List.mem_cons_self .., e.symm, rfl, by rw [mborn, if_pos e]⟩
    · rw [if_neg e] at h
      obtain ⟨x, hx, h1, h2, h3⟩ := ih h
      exact ⟨x, List.mem_cons_of_mem _ hx, h1, h2, by rw [mborn, if_neg e]; exact h3⟩
theorem mget_of {M : List (κ × Value × Nat)} (hn : (M.map (·.1)).Nodup) {x : κ × Value × Nat} (h : x ∈ M) : mget M x.1 = some x.2.1 ∧ mborn M x.1 = x.2.2 := by
  induction M with
  | nil => cases h
  | cons y M ih =>
    rw [List.map_cons, List.nodup_cons] at hn
    rw [mget, mborn]
    rcases List.mem_cons.1 h with rfl | h
    · rw [if_pos rfl, if_pos rfl]; exact ⟨rfl, rfl⟩
    · have hne : x.1 ≠ y.1 := fun e => hn.1 (by rw [← e]; exact List.mem_map.2 ⟨x, h, rfl⟩)
      rw [if_neg hne, if_neg hne]; exact ih hn.2 h
theorem born_inj {M : List (κ × Value × Nat)} (hb : (M.map (·.2.2)).Nodup) {x y : κ × Value × Nat} (hx : x ∈ M) (hy : y ∈ M) (e : x.2.2 = y.2.2) : x = y := by
  induction M with
  | nil => cases hx
  | cons z M ih =>
    rw [List.map_cons, List.nodup_cons] at hb
    rcases List.mem_cons.1 hx with h1 | hx
    · rcases List.mem_cons.1 hy with h2 | hy
      · rw [h1, h2]
      · exact absurd (List.mem_map.2 ⟨y, hy, by rw [← e, h1]⟩) hb.1
    · rcases List.mem_cons.1 hy with h2 | hy
      · exact absurd (List.mem_map.2 ⟨x, hx, by rw [e, h2]⟩) hb.1
      · exact ih hb.2 hx hy
theorem o_next {kv : κ → Value} {enc : α → Value} {M : List (κ × Value × Nat)} {F : κ → Option α} {c i j b r : Nat} {vis : List κ} (H : Hp w0 w S L) (hi : L[i]? = some (.obj b (mobj kv M c))) (hj : L[j]? = some (.obj r (itO b M c vis)))
    (hM : MOk M c) (hF : MIs enc M F) (hv : ∀ k ∈ vis, (F k).isSome = true) (hx : ev n σ x = .pointer (some ⟨r, 0, none⟩))
    (h1 : (∀ k, (F k).isSome = true → k ∈ vis) → ∀ w', Hp w0 w' S L → K (mk n (up σ d (.tuple #[.bool false]))) w')
    (h2 : ∀ k a, F k = some a → k ∉ vis → ∀ w', Hp w0 w' S (L.set j (.obj r (itO b M c (vis ++ [k])))) → K (mk n (up σ d (.tuple #[.bool true, kv k, enc a]))) w') :
    Oper.wp P ⟨some d, .next x false, ty, pos, aft, g⟩ (mk n σ) w K Q := by
  have hb : w.heap[b]? = some (.map (M.map (ment kv)).toArray c) := H.has _ (List.mem_of_getElem? hi)
  have hr : w.heap[r]? = some (.mapIter (some b) c (vis.map (mborn M)).toArray c) := H.has _ (List.mem_of_getElem? hj)
  have hin : ∀ k ∈ vis, ∃ y ∈ M, y.1 = k ∧ y.2.2 = mborn M k := fun k hk => by
    have h3 := hv k hk
    rw [← hF.isSome] at h3
    obtain ⟨v, hv'⟩ := Option.isSome_iff_exists.1 h3
    obtain ⟨y, hy, e1, _, e3⟩ := mget_mem hv'
    exact ⟨y, hy, e1, e3⟩
  rcases run_next_at (P := P) w ty r b c c _ _ c hr hb (fun y hy => by
      simp only [List.mem_map] at hy
      obtain ⟨z, hz, rfl⟩ := hy
      exact hM.old z hz) (Nat.le_refl c) with ⟨h0, hrun⟩ | ⟨e, he, w1, hw1, hrun⟩
  · refine o_val (v := .tuple #[.bool false]) (w' := w) ?_ (h1 (fun k hk => ?_) w H)
    · simp only [execOp, hx, Sem.run_bind, hrun, Result.andThen_ok]; rfl
    · rw [← hF.isSome] at hk
      obtain ⟨v, hv'⟩ := Option.isSome_iff_exists.1 hk
      obtain ⟨y, hy, e1, _, e3⟩ := mget_mem hv'
      have hemp := Array.eq_empty_of_size_eq_zero h0
      rw [leftOf, Array.filter_eq_empty_iff] at hemp
      have := hemp (ment kv y) (by simp only [List.mem_toArray]; exact List.mem_map.2 ⟨y, hy, rfl⟩)
      simp only [ment, Bool.not_eq_true, Bool.not_eq_false', List.contains_toArray, List.contains_iff_mem, List.mem_map] at this
      obtain ⟨k', hk', e4⟩ := this
      obtain ⟨z, hz, f1, f3⟩ := hin k' hk'
      have := born_inj hM.born hz hy (by rw [f3, e4])
      rw [← e1, ← this, f1]; exact hk'
  · have hsp : ∃ y ∈ M, e = ment kv y ∧ ∀ k ∈ vis, mborn M k ≠ y.2.2 := by
      rw [leftOf] at he
      simp only [Array.mem_toList_iff, Array.mem_filter, List.mem_toArray, List.mem_map] at he
      obtain ⟨⟨y, hy, rfl⟩, hc⟩ := he
      refine ⟨y, hy, rfl, fun k hk e => ?_⟩
      have : ((vis.map (mborn M)).toArray.contains (ment kv y).born) = true := by
        simp only [List.contains_toArray, List.contains_iff_mem, List.mem_map]
        exact ⟨k, hk, e⟩
      rw [this] at hc; cases hc
    obtain ⟨y, hy, rfl, hny⟩ := hsp
    obtain ⟨g1, g2⟩ := mget_of hM.keys hy
    have hFa : ∃ a, F y.1 = some a ∧ enc a = y.2.1 := by
      have := hF y.1
      rw [g1] at this
      cases hf : F y.1 with
      | none => rw [hf] at this; cases this
      | some a => rw [hf] at this; exact ⟨a, rfl, (Option.some.inj this).symm⟩
    obtain ⟨a, ha, hea⟩ := hFa
    have hH1 : Hp w0 w1 S L := by
      rcases hw1 with rfl | rfl
      · exact H
      · exact H.drew
    have hr1 : w1.heap[r]? = some (.mapIter (some b) c (vis.map (mborn M)).toArray c) := by rcases hw1 with rfl | rfl <;> exact hr
    have hito : (Obj.mapIter (some b) c ((vis.map (mborn M)).toArray.push (ment kv y).born) c) = itO b M c (vis ++ [y.1]) := by
      rw [itO, List.map_append, List.map_cons, List.map_nil, g2]; simp [ment]
    rw [hito] at hrun
    have hset := heap_set (o' := itO b M c (vis ++ [y.1])) hr1
    refine o_val (v := .tuple #[.bool true, kv y.1, enc a]) (w' := ChangeMaps.setBlock w1 r (itO b M c (vis ++ [y.1]))) ?_ (h2 y.1 a ha (fun hk => hny _ hk g2) _ ?_)
    · simp only [execOp, hx, Sem.run_bind, hrun, Result.andThen_ok, hea]; rfl
    · refine hH1.turn hj (c' := .obj r (itO b M c (vis ++ [y.1]))) hset.1 (fun b' hb' => .inl hb') rfl rfl rfl (by simp [ChangeMaps.setBlock]) (fun b' _ hne => ?_)
      exact hset.2 b' (fun e => hne (by rw [e]; rfl))
theorem r_entry {kv : κ → Value} {enc : α → Value} {M : List (κ × Value × Nat)} {F : κ → Option α} {c i j b r : Nat} {vis : List κ} {k : κ} {a : α} (H : Hp w0 w S L) (hi : L[i]? = some (.obj b (mobj kv M c))) (hj : L[j]? = some (.obj r (itO b M c (vis ++ [k]))))
    (hM : MOk M c) (hF : MIs enc M F) (ha : F k = some a) (hx : ev n σ x = .pointer (some ⟨r, 0, none⟩)) :
    (execOp (ev n σ) ⟨some d, .entry x, ty, pos, aft, g⟩).run P w = .ok (.value (.tuple #[kv k, enc a])) w := by
  have hb : w.heap[b]? = some (.map (M.map (ment kv)).toArray c) := H.has _ (List.mem_of_getElem? hi)
  have hr : w.heap[r]? = some (.mapIter (some b) c ((vis ++ [k]).map (mborn M)).toArray c) := H.has _ (List.mem_of_getElem? hj)
  have hg := hF k
  rw [ha] at hg
  obtain ⟨y, hy, e1, e2, e3⟩ := mget_mem hg
  have hrun := run_entry_at (P := P) w r b c ((vis.map (mborn M)).toArray) _ c (ment kv y) (by rw [hr]; simp [ment, e3]) hb (by simp only []; exact List.mem_map.2 ⟨y, hy, rfl⟩) (by
    have := hM.born
    simpa [List.map_map, Function.comp_def, ment] using this)
  simp only [execOp, hx, Sem.run_bind, hrun, Result.andThen_ok, ment, e1, e2]
  rfl
end
theorem nd_le {α : Type} [DecidableEq α] : ∀ {l m : List α}, l.Nodup → (∀ x ∈ l, x ∈ m) → l.length ≤ m.length
  | [], m, _, _ => Nat.zero_le _
  | a :: l, m, hn, hs => by
    rw [List.nodup_cons] at hn
    have h1 := nd_le (l := l) (m := m.erase a) hn.2 (fun x hx => (List.mem_erase_of_ne (fun e => hn.1 (by rw [← e]; exact hx))).2 (hs x (List.mem_cons_of_mem _ hx)))
    have h2 := List.length_erase_of_mem (hs a (List.mem_cons_self ..))
    have h3 := List.length_pos_of_mem (hs a (List.mem_cons_self ..))
    rw [List.length_cons]; omega
theorem vis_le {κ α : Type} [DecidableEq κ] {enc : α → Value} {M : List (κ × Value × Nat)} {F : κ → Option α} (hF : MIs enc M F) {vis : List κ} (hn : vis.Nodup) (hv : ∀ k ∈ vis, (F k).isSome = true) : vis.length ≤ M.length := by
  have := nd_le (m := M.map (·.1)) hn (fun x hx => by
    have h1 := hv x hx
    rw [← hF.isSome] at h1
    obtain ⟨v, h2⟩ := Option.isSome_iff_exists.1 h1
    obtain ⟨y, hy, e, _⟩ := mget_mem h2
    exact List.mem_map.2 ⟨y, hy, e⟩)
  rwa [List.length_map] at this
theorem vis_snoc {κ α : Type} [DecidableEq κ] {F : κ → Option α} {vis : List κ} {k : κ} {a : α} (hn : vis.Nodup) (hv : ∀ k ∈ vis, (F k).isSome = true) (hf : F k = some a) (hk : k ∉ vis) : (vis ++ [k]).Nodup ∧ ∀ j ∈ vis ++ [k], (F j).isSome = true := by
  refine ⟨?_, fun j hj => ?_⟩
  · rw [List.nodup_append]
    refine ⟨hn, by simp, fun x hx y hy e => ?_⟩
    rw [List.mem_singleton] at hy
    exact hk (by rw [← hy, ← e]; exact hx)
  · rcases List.mem_append.1 hj with h | h
    · exact hv j h
    · rw [List.mem_singleton.1 h, hf]; rfl
end Go.Proofs.YthigalfaanccnaaGreat
namespace Go.Proofs.YthigalfaanccnaaGreat
open Go
/-- C is A, then B at a of b cells, then D. -/
structure Cut3 (C A B D : List Value) (a b : Nat) : Prop where
  e : C = A ++ (B ++ D)
  ha : A.length = a
  hb : B.length = b
section
variable {C A B D V : List Value} {a b : Nat}
theorem Cut3.get {v : Value} (h : Cut3 C A [v] D a 1) : C[a]? = some v := by
  rw [h.e, ← h.ha, List.getElem?_append_right (Nat.le_refl _), Nat.sub_self]; rfl
theorem Cut3.seg (h : Cut3 C A B D a b) : (C.drop a).take b = B := by
  rw [h.e, ← h.ha, ← h.hb, List.drop_left, List.take_left]
theorem Cut3.le (h : Cut3 C A B D a b) : a + b ≤ C.length := by
  rw [h.e, List.length_append, List.length_append, h.ha, h.hb]; omega
theorem Cut3.put (h : Cut3 C A B D a b) : C.take a ++ V ++ C.drop (a + b) = A ++ (V ++ D) := by
  rw [h.e, ← h.ha, ← h.hb, List.take_left, ← List.drop_drop, List.drop_left, List.drop_left, List.append_assoc]
theorem Cut3.set1 {v u : Value} (h : Cut3 C A [v] D a 1) : C.set a u = A ++ ([u] ++ D) := by
  rw [h.e, ← h.ha, List.set_append_right _ _ (Nat.le_refl _), Nat.sub_self]; rfl
theorem fill_step {places : Nat → Option (Nat × Nat)} {k : Nat} {v : Value} {rest : List (Nat × Value)} (hp : places k = some (a, b)) (h : Cut3 C A B D a b) (hv : v.cells.toList = V) (hl : V.length = b) :
    Instr.fill places C.toArray ((k, v) :: rest) = Instr.fill places (A ++ (V ++ D)).toArray rest := by
  have hs : v.cells.size = b := by rw [← hl, ← hv, Array.length_toList]
  have hn : ¬ ((v.cells.size ≠ b || a + v.cells.size > C.toArray.size) = true) := by
    have := h.le
    simp [hs]; omega
  have h2 : ∀ (vs done zs : List Value), zs.length = vs.length → (vs.zipIdx done.length).foldl (fun (acc : Array Value) (p : Value × Nat) => acc.setIfInBounds (A.length + p.2) p.1) (A ++ done ++ zs ++ D).toArray = (A ++ done ++ vs ++ D).toArray := by
    intro vs
    induction vs with
    | nil => intro done zs hz; have : zs = [] := List.length_eq_zero_iff.1 (by simpa using hz); subst this; simp
    | cons v vs ih =>
      intro done zs hz
      cases zs with
      | nil => simp at hz
      | cons z zs =>
        have := ih (done ++ [v]) zs (by simpa using hz)
        simp only [List.length_append, List.length_singleton, List.append_assoc, List.cons_append, List.nil_append] at this
        rw [List.zipIdx_cons, List.foldl_cons]
        simp only [List.append_assoc, List.cons_append]
        rw [← this]
        congr 1
        simp []
  have h3 := h2 V [] B (by rw [hl, h.hb])
  simp only [Instr.fill, hp]
  rw [if_neg hn]
  simp only [List.append_nil, List.length_nil] at h3
  rw [h.ha] at h3
  have e1 : v.cells.zipIdx.foldl (fun (acc : Array Value) (p : Value × Nat) => acc.setIfInBounds (a + p.2) p.1) C.toArray = (A ++ (V ++ D)).toArray := by
    rw [h.e, ← List.append_assoc, ← List.append_assoc, ← h3]
    have : v.cells.zipIdx = (V.zipIdx 0).toArray := by rw [← hv]; simp [← Array.toList_inj]
    rw [this]; simp
  first | exact congrArg (fun z => Instr.fill places z rest) e1 | (rw [← e1])
inductive Fills (places : Nat → Option (Nat × Nat)) : List Value → List (Nat × Value) → List Value → Prop
  | nil (C : List Value) : Fills places C [] C
  | cons {C A B D V E : List Value} {a b k : Nat} {v : Value} {rest : List (Nat × Value)} : places k = some (a, b) → Cut3 C A B D a b → v.cells.toList = V → V.length = b → Fills places (A ++ (V ++ D)) rest E → Fills places C ((k, v) :: rest) E
theorem Fills.run {places : Nat → Option (Nat × Nat)} {C E : List Value} {pv : List (Nat × Value)} (h : Fills places C pv E) : Instr.fill places C.toArray pv = some E.toArray := by
  induction h with
  | nil C => rfl
  | cons hp hc hv hl _ ih => rw [fill_step hp hc hv hl, ih]
end
section
variable {P : Program} {Q : Exit → Act → World → Prop} {n : Nat} {σ : Nat → Value} {w w0 : World} {K : Act → World → Prop}
  {ty : TypeId} {pos : String} {aft : Array Edge} {g : Option (Nat × Bool)} {d : Nat} {t : TypeId} {x y : Operand} {S : List Nat} {L : List Ch} {C A B D : List Value} {a k : Nat}
theorem r_bldG {parts : Array (Nat × Operand)} {zs : Array Value} {places : Nat → Option (Nat × Nat)} {pv : List (Nat × Value)} {Z E : List Value} (hB : Bld P t zs places) (hz : zs = Z.toArray) (hp0 : pvs n σ parts.toList = pv) (hf : Fills places Z pv E) :
    (execOp (ev n σ) ⟨some d, .build t parts, ty, pos, aft, g⟩).run P w = .ok (.value (.agg E.toArray)) w :=
  r_bld' hB hp0 (by rw [hz]; exact hf.run)
/-- a part of a struct in memory. -/
theorem r_l1 {b i : Nat} {v : Value} {T : TypeId} (H : Hp w0 w S L) (hi : L[i]? = some (.blk b C T)) (hx : ev n σ x = .pointer (some ⟨b, a, none⟩)) (ht : cellTy P t = true) (h : Cut3 C A [v] D a 1) :
    (execOp (ev n σ) ⟨some d, .load t x, ty, pos, aft, g⟩).run P w = .ok (.value v) w := r_ld H hi hx ht h.get
theorem r_lk {b i : Nat} {T : TypeId} (H : Hp w0 w S L) (hi : L[i]? = some (.blk b C T)) (hx : ev n σ x = .pointer (some ⟨b, a, none⟩)) (ht : rowTy P t = some k) (h : Cut3 C A B D a k) :
    (execOp (ev n σ) ⟨some d, .load t x, ty, pos, aft, g⟩).run P w = .ok (.value (.agg B.toArray)) w := by
  rw [← h.seg]; exact r_ldr H hi hx ht h.le
theorem o_s1 {b i : Nat} {v u : Value} {T : TypeId} (H : Hp w0 w S L) (hi : L[i]? = some (.blk b C T)) (hx : ev n σ x = .pointer (some ⟨b, a, none⟩)) (hy : ev n σ y = u) (hs : cellSz P t = some 1) (h1 : u.oneCell' = true) (hc : Cut3 C A [v] D a 1)
    (h : ∀ w', Hp w0 w' S (L.set i (.blk b (A ++ ([u] ++ D)) T)) → K (mk n σ) w') : Oper.wp P ⟨none, .store t x y, ty, pos, aft, g⟩ (mk n σ) w K Q := by
  refine o_st H hi hx hy hs h1 (by have := hc.le; omega) fun w' H' => h w' ?_
  rwa [hc.set1] at H'
theorem o_sk {b i : Nat} {V : List Value} {T : TypeId} (H : Hp w0 w S L) (hi : L[i]? = some (.blk b C T)) (hx : ev n σ x = .pointer (some ⟨b, a, none⟩)) (hy : ev n σ y = .agg V.toArray) (hs : cellSz P t = some k) (h1 : V.all (·.oneCell') = true) (hV : V.length = k) (hc : Cut3 C A B D a k)
    (h : ∀ w', Hp w0 w' S (L.set i (.blk b (A ++ (V ++ D)) T)) → K (mk n σ) w') : Oper.wp P ⟨none, .store t x y, ty, pos, aft, g⟩ (mk n σ) w K Q := by
  refine o_sr H hi hx hy (by rw [hs, List.size_toArray, hV]) (by rw [List.all_toArray]; exact h1) (by rw [List.size_toArray, hV]; exact hc.le) fun w' H' => h w' ?_
  rw [List.size_toArray, hV, hc.put] at H'
  exact H'
/-- a part of a struct of a slice. -/
theorem r_g1 {α : Type} {enc : α → List Value} {sz : Nat} {s : Gl α} {b o j : Nat} {c : α} {v : Value} (hs : s.ok enc sz w) (ha : s.a = some ⟨b, o, none⟩) (hx : ev n σ x = .pointer (some ⟨b, o + j * sz + a, none⟩)) (ht : cellTy P t = true) (hk : s.l[j]? = some c) (hoff : a < sz) (h : Cut3 (enc c) A [v] D a 1) :
    (execOp (ev n σ) ⟨some d, .load t x, ty, pos, aft, g⟩).run P w = .ok (.value v) w := r_ldFld hs ha hx ht hk hoff h.get
theorem r_gk {α : Type} {enc : α → List Value} {sz : Nat} {s : Gl α} {b o j : Nat} {c : α} (hs : s.ok enc sz w) (ha : s.a = some ⟨b, o, none⟩) (hx : ev n σ x = .pointer (some ⟨b, o + j * sz + a, none⟩)) (ht : rowTy P t = some k) (hk0 : 0 < k) (hk : s.l[j]? = some c) (h : Cut3 (enc c) A B D a k) :
    (execOp (ev n σ) ⟨some d, .load t x, ty, pos, aft, g⟩).run P w = .ok (.value (.agg B.toArray)) w := by
  have hlt : j < s.l.length := (List.getElem?_eq_some_iff.1 hk).1
  have hsz := hs.sz c (List.mem_of_getElem? hk)
  have hle := h.le
  rw [hsz] at hle
  have hrow := flat_at hs.sz hk
  have h2 := r_ldsr (P := P) (w := w) (t := t) (d := d) (ty := ty) (pos := pos) (aft := aft) (g := g) (i := j * sz + a) hs.rd ha (by rw [hx, Nat.add_assoc]) ht hk0 (by
    rw [flat_len hs.sz]
    have : (j + 1) * sz ≤ s.l.length * sz := Nat.mul_le_mul_right _ hlt
    rw [Nat.succ_mul] at this; omega)
  have e : ((s.l.flatMap enc).drop (j * sz + a)).take k = B := by
    rw [← h.seg, ← hrow, ← List.drop_drop, List.drop_take, List.take_take, Nat.min_eq_left (by omega)]
  rwa [e] at h2
end
end Go.Proofs.YthigalfaanccnaaGreat
namespace Go.Proofs.YthigalfaanccnaaGreat
open Go Go.MapKept
section
variable {P : Program} {Q : Exit → Act → World → Prop} {n : Nat} {σ : Nat → Value} {w w0 : World} {K : Act → World → Prop}
  {ty : TypeId} {pos : String} {aft : Array Edge} {g : Option (Nat × Bool)} {d : Nat} {t kt et : TypeId} {x y : Operand} {S : List Nat} {L : List Ch}
/-- a slice compared with nil. -/
theorem r_slnil {a : Option Addr} {l c : Nat} {e yt : TypeId} (hu : P.underlying t = some (.slice e)) (_hg : P.eqGuardType P.depth t = false) (hx : ev n σ x = .slice a l c) (hy : ev n σ y = .slice none 0 0) :
    (execOp (ev n σ) ⟨some d, .binOp .eql t x y yt, ty, pos, aft, g⟩).run P w = .ok (.value (.bool a.isNone)) w := by
  have e3 : (eqGuard .eql t x y (.slice a l c) (.slice none 0 0)).run P w = .ok () w := by simp [eqGuard]
  have e4 : (binOp .eql t (.slice a l c) (.slice none 0 0)).run P w = .ok (.bool a.isNone) w := by
    simp [binOp, run_equal_slice_nil w t e a l c hu]
  simp [execOp, hx, hy, e3, e4]
end
end Go.Proofs.YthigalfaanccnaaGreat
namespace Go.Proofs.YthigalfaanccnaaGreat
open Go
theorem Hp.slMid {w0 w : World} {S : List Nat} {L : List Ch} (H : Hp w0 w S L) {i b o k : Nat} {C A D : List Value} {l : List UInt8} {T : TypeId} (hi : L[i]? = some (.blk b C T)) (hc : Cut3 C A (l.map V8) D o k) (hm : k ≤ 9223372036854775807) : (⟨some ⟨b, o, none⟩, k, k, l⟩ : Sl).ok w := by
  have h := (Ch.rd_blk (H.has _ (List.mem_of_getElem? hi)) o).take k
  have e : (C.drop o).take k = l.map V8 := by rw [hc.e, ← hc.ha, List.drop_left, ← hc.hb, List.take_left]
  rw [e] at h
  exact ⟨h, by have := hc.hb; simpa using this, Nat.le_refl _, hm⟩
end Go.Proofs.YthigalfaanccnaaGreat
namespace Go.Proofs.YthigalfaanccnaaGreat
open Go
/-- C and C' are the same but for a part at a of n cells: B, and V. -/
structure Put3 (C C' B V : List Value) (a n : Nat) : Prop where
  ex : ∃ A D, C = A ++ (B ++ D) ∧ C' = A ++ (V ++ D) ∧ A.length = a ∧ B.length = n ∧ V.length = n
theorem Cut3.comp {C A B D A' B' D' : List Value} {a n a' n' : Nat} (h : Cut3 C A B D a n) (h' : Cut3 B A' B' D' a' n') : Cut3 C (A ++ A') B' (D' ++ D) (a + a') n' :=
  ⟨by rw [h.e, h'.e]; simp only [List.append_assoc], by rw [List.length_append, h.ha, h'.ha], h'.hb⟩
theorem Put3.comp {C C' B B' U V : List Value} {a n a' n' : Nat} (h : Put3 C C' B B' a n) (h' : Put3 B B' U V a' n') : Put3 C C' U V (a + a') n' := by
  obtain ⟨A, D, e1, e2, l1, l2, l3⟩ := h.ex
  obtain ⟨A', D', e3, e4, l4, l5, l6⟩ := h'.ex
  exact ⟨A ++ A', D' ++ D, by rw [e1, e3]; simp only [List.append_assoc], by rw [e2, e4]; simp only [List.append_assoc], by rw [List.length_append, l1, l4], l5, l6⟩
theorem Put3.of {C C' A B D V : List Value} {a n : Nat} (h : Cut3 C A B D a n) (h' : C' = A ++ (V ++ D)) (hv : V.length = n) : Put3 C C' B V a n := ⟨A, D, h.e, h', h.ha, h.hb, hv⟩
theorem Fills.consP {places : Nat → Option (Nat × Nat)} {C C' B V E : List Value} {a n k : Nat} {v : Value} {rest : List (Nat × Value)} (hp : places k = some (a, n)) (h : Put3 C C' B V a n) (hv : v.cells.toList = V) (hr : Fills places C' rest E) : Fills places C ((k, v) :: rest) E := by
  obtain ⟨A, D, e1, e2, l1, l2, l3⟩ := h.ex
  exact .cons hp ⟨e1, l1, l2⟩ hv l3 (e2 ▸ hr)
section
variable {P : Program} {Q : Exit → Act → World → Prop} {n : Nat} {σ : Nat → Value} {w w0 : World} {K : Act → World → Prop}
  {ty : TypeId} {pos : String} {aft : Array Edge} {g : Option (Nat × Bool)} {d : Nat} {t : TypeId} {x y : Operand} {S : List Nat} {L : List Ch} {C C' B V : List Value} {a k : Nat}
theorem o_s1P {b i : Nat} {v u : Value} {T : TypeId} (H : Hp w0 w S L) (hi : L[i]? = some (.blk b C T)) (hx : ev n σ x = .pointer (some ⟨b, a, none⟩)) (hy : ev n σ y = u) (hs : cellSz P t = some 1) (h1 : u.oneCell' = true) (hp : Put3 C C' [v] [u] a 1)
    (h : ∀ w', Hp w0 w' S (L.set i (.blk b C' T)) → K (mk n σ) w') : Oper.wp P ⟨none, .store t x y, ty, pos, aft, g⟩ (mk n σ) w K Q := by
  obtain ⟨A, D, e1, e2, l1, l2, _⟩ := hp.ex
  exact o_s1 H hi hx hy hs h1 ⟨e1, l1, l2⟩ fun w' H' => h w' (by rw [e2]; exact H')
theorem o_skP {b i : Nat} {T : TypeId} (H : Hp w0 w S L) (hi : L[i]? = some (.blk b C T)) (hx : ev n σ x = .pointer (some ⟨b, a, none⟩)) (hy : ev n σ y = .agg V.toArray) (hs : cellSz P t = some k) (h1 : V.all (·.oneCell') = true) (hp : Put3 C C' B V a k)
    (h : ∀ w', Hp w0 w' S (L.set i (.blk b C' T)) → K (mk n σ) w') : Oper.wp P ⟨none, .store t x y, ty, pos, aft, g⟩ (mk n σ) w K Q := by
  obtain ⟨A, D, e1, e2, l1, l2, l3⟩ := hp.ex
  exact o_sk H hi hx hy hs h1 l3 ⟨e1, l1, l2⟩ fun w' H' => h w' (by rw [e2]; exact H')
end
end Go.Proofs.YthigalfaanccnaaGreat
namespace Go.Proofs.YthigalfaanccnaaGreat
open Go
section
variable {P : Program} {t : TypeId} {w : World}
theorem b_quo_u64 {x y : UInt64} (h : y.toNat ≠ 0) : (binOp .quo t (V64 x) (V64 y)).run P w = .ok (V64 (x / y)) w := by
  have hx := u64_lt x
  have h2 : (y.toNat : Int) ≠ 0 := by omega
  have e1 : (x.toNat : Int) / (y.toNat : Int) = ((x.toNat / y.toNat : Nat) : Int) := by simp
  have h3 := Nat.div_le_self x.toNat y.toNat
  have e : IntKind.u64.wrap ((x.toNat : Int) / (y.toNat : Int)) = ((x / y).toNat : Int) := by
    rw [wrap_u64, UInt64.toNat_div, e1]
    generalize x.toNat / y.toNat = q at h3
    omega
  simp [binOp, Op.intDiv, h, e, Int.tdiv_eq_ediv_of_nonneg (show (0 : Int) ≤ (x.toNat : Int) by omega)]
theorem b_rem_u64 {x y : UInt64} (h : y.toNat ≠ 0) : (binOp .rem t (V64 x) (V64 y)).run P w = .ok (V64 (x % y)) w := by
  have e := b_rem (P := P) (t := t) (w := w) (k := .u64) (a := (x.toNat : Int)) (b := (y.toNat : Int)) (by omega) (by omega)
  rw [show V64 (x % y) = .int .u64 ((x.toNat : Int) % (y.toNat : Int)) by rw [V64, UInt64.toNat_mod]; simp]
  exact e
end
end Go.Proofs.YthigalfaanccnaaGreat
namespace Go.Proofs.YthigalfaanccnaaGreat
open Go
set_option maxRecDepth 100000
/-- the hash of a text. -/
def sha256 (l : List UInt8) : List UInt8 := digest (absorb HS.init l)
theorem sha256_len (l : List UInt8) : (sha256 l).length = 32 := digest_length _
theorem sha1_ret (w0 : World) (a : Option Addr) (s : Sl) (hr : RdS w0 a [s.v]) (hs : s.ok w0) :
    Ret Tryz.prog 31 [.slice a 1 1] w0 fun v w' => v = .agg ((sha256 s.l).map V8).toArray ∧ Hp w0 w' [] [] := by
  have h := of_ret w0 a 1 1 [s] hr rfl (all1 hs) (by decide)
  rw [show cat [s] = s.l by simp [cat]] at h
  exact h
/-- a hash of which it is known what it was told. -/
def hashX (x : List UInt8) : List Value := hashH (absorb HS.init x)
attribute [irreducible] sha256 hashX
/-- v in n bytes, the highest first. -/
def be (v : Nat) : Nat → List UInt8
  | 0 => []
  | i + 1 => UInt8.ofNat (v / 256 ^ i) :: be v i
theorem be_len (v : Nat) : ∀ n, (be v n).length = n
  | 0 => rfl
  | n + 1 => by simp [be, be_len v n]
theorem shr_be (v : UInt64) (k : Nat) (h : k < 8) : (v >>> UInt64.ofNat (8 * k)).toUInt8 = UInt8.ofNat (v.toNat / 256 ^ k) := by
  apply UInt8.toNat_inj.1
  have e : (UInt64.ofNat (8 * k)).toNat % 64 = 8 * k := by rw [UInt64.toNat_ofNat']; omega
  rw [UInt64.toNat_toUInt8, UInt64.toNat_shiftRight, e, Nat.shiftRight_eq_div_pow, UInt8.toNat_ofNat', Nat.pow_mul]
theorem shr_fit (v : UInt64) (k : Nat) (h : k < 8) (hv : v.toNat < 256 ^ k) : v >>> UInt64.ofNat (8 * k) = 0 := by
  apply UInt64.toNat_inj.1
  have e : (UInt64.ofNat (8 * k)).toNat % 64 = 8 * k := by rw [UInt64.toNat_ofNat']; omega
  rw [UInt64.toNat_shiftRight, e, Nat.shiftRight_eq_div_pow, Nat.pow_mul]
  exact Nat.div_eq_of_lt hv
theorem own_ret (w0 : World) (s : Sl) (hs : s.ok w0) (n : Nat) (hm : s.len + n ≤ 1099511627776) :
    Ret Tryz.prog 69 [s.v, VI (n : Int)] w0 fun v w' => ∃ a cap, v = .slice (hd a) s.len cap ∧ Hp w0 w' [] [.own a s.len cap (s.l.map V8) 5 1] := by
  refine ret_mk Tryz.func69 rfl Tryz.ntmps69 (by simp) ?_
  have H := Hp.refl w0 []
  repeat refine c_seq ?_
  refine c_region ?_; refine l_op (o_val r_as ?_); first | refine l_end ?_ | refine l_nil ?_
  repeat refine c_seq ?_
  refine c_region ?_; refine l_op (o_val r_mv ?_); refine l_op (o_val (r_lens el50 rfl) ?_); refine l_op (o_val r_mv ?_); refine l_op (o_val (r_bin (a := (s.len : Int)) (b := (n : Int)) rfl rfl (fun _ => b_add (by omega) (by omega))) ?_); refine l_op (o_makeB0 (s.len + n) H sl50 zc5 rfl rfl rfl (by omega) (by omega) (fun b1 w H hb1 => ?_)); replace H : Hp _ w _ ([.own (some b1) 0 (s.len + n) ((([] : List UInt8)).map V8) 5 1]) := H
  refine l_op (o_val r_mv ?_); refine l_op (o_appB (s := s) (l' := s.l) (len' := s.len) rfl (Nat.zero_add _) H (i := 0) rfl sl50 Tryz.underlying50 rfl rfl (hs.up H (fun _ => apart_nil _)) (by omega) (fun a2 c3 w H => ?_)); replace H : Hp _ w _ ([.own a2 s.len c3 ((s.l).map V8) 5 1]) := H
  refine l_op (o_val r_as ?_); first | refine l_end ?_ | refine l_nil ?_
  refine c_ret ?_; try dsimp only [Exit.then, Exit.inBlock]
  refine e_ret1 (v := .slice (hd a2) s.len c3) Tryz.results69 rfl ?_
  refine ⟨_, rfl, ?_⟩
  exact ⟨_, _, rfl, H⟩
theorem put_ret (w0 : World) (s : Sl) (hs : s.ok w0) (u : UInt64) (n : Nat) (h1 : 1 ≤ n) (h8 : n ≤ 8) (hf : n = 8 ∨ u.toNat < 256 ^ n) (hm : s.len ≤ 1048576) :
    Ret Tryz.prog 27 [s.v, V64 u, VI (n : Int)] w0 fun v w' => ∃ a cap, v = .tuple #[.slice (hd a) (s.len + n) cap, VI 0] ∧ Hp w0 w' [] [.own a (s.len + n) cap ((s.l ++ be u.toNat n).map V8) 5 1] := by
  refine ret_mk Tryz.func27 rfl Tryz.ntmps27 (by simp) ?_
  have H := Hp.refl w0 []
  repeat refine c_seq ?_
  refine c_region ?_; refine l_op (o_val r_as ?_); refine l_op (o_val r_as ?_); first | refine l_end ?_ | refine l_nil ?_
  repeat refine c_seq ?_
  refine c_block ?_; repeat refine c_seq ?_
  refine c_region ?_; refine l_op (o_val r_mv ?_); refine l_op (o_val (r_bin (a := (n : Int)) (b := 1) rfl rfl (fun _ => b_lssB false (decide_eq_false (by omega)))) ?_); refine l_op (o_val r_mv ?_); refine l_yes rfl rfl rfl (o_val r_mv ?_); refine l_yes rfl rfl rfl (o_val (r_bin (a := (n : Int)) (b := 8) rfl rfl (fun _ => b_gtrB false (decide_eq_false (by omega)))) ?_); refine l_op (o_val (r_pick rfl) ?_); refine l_op (o_val r_as ?_); first | refine l_end ?_ | refine l_nil ?_
  repeat refine c_seq ?_
  refine c_no rfl ?_; repeat refine c_seq ?_
  refine c_region ?_; refine l_op (o_val r_mv ?_); refine l_op (o_val (r_bin (a := (n : Int)) (b := 8) rfl rfl (fun _ => b_lss)) ?_); refine l_op (o_val r_mv ?_)
  by_cases hc1 : (n : Int) < 8
  ·
   refine l_yes rfl rfl (by exact congrArg Value.bool (decide_eq_true hc1)) (o_val r_mv ?_); refine l_yes rfl rfl (by exact congrArg Value.bool (decide_eq_true hc1)) (o_val r_mv ?_); refine l_yes rfl rfl (by exact congrArg Value.bool (decide_eq_true hc1)) (o_val (r_conv (v := ((UInt64.ofNat n).toNat : Int)) Tryz.underlying3 Tryz.underlying91 rfl (w_u64_N n (by omega))) ?_); refine l_yes rfl rfl (by exact congrArg Value.bool (decide_eq_true hc1)) (o_val (r_bin (c64 8 (by decide)) rfl (fun _ => b_mul_u64N)) ?_); refine l_yes rfl rfl (by exact congrArg Value.bool (decide_eq_true hc1)) (o_val (r_shift rfl rfl (.inr rfl) (fun _ => b_shr_u64N (8 * n) (by omega))) ?_); refine l_yes rfl rfl (by exact congrArg Value.bool (decide_eq_true hc1)) (o_val (r_bin (a := ((u >>> UInt64.ofNat (8 * n)).toNat : Int)) (b := 0) rfl rfl (fun _ => b_neqB false (decide_eq_false (fun hne => hne (by rw [shr_fit u n (by omega) (by omega)]; rfl))))) ?_); refine l_op (o_val (r_pick (b := true) (congrArg Value.bool (decide_eq_true hc1))) ?_); refine l_op (o_val r_as ?_); first | refine l_end ?_ | refine l_nil ?_
   repeat refine c_seq ?_
   refine c_no rfl ?_; refine c_skip ?_; repeat refine c_seq ?_
   refine c_region ?_; refine l_op (o_val r_mv ?_); refine l_op (o_val r_mv ?_); refine l_op (o_callR Tryz.func69 rfl rfl rfl (own_ret _ s (hs.up H (fun _ => apart_nil _)) n (by omega)) ?_); rintro _ w ⟨a2, c3, rfl, Hc⟩
   replace H : Hp _ w _ ([.own a2 s.len c3 ((s.l).map V8) 5 1]) := H.call Hc
   clear Hc
   refine l_op (o_val r_as ?_); first | refine l_end ?_ | refine l_nil ?_
   repeat refine c_seq ?_
   refine c_region ?_; refine l_op (o_val r_mv ?_); refine l_op (o_val (r_bin (a := (n : Int)) (b := 1) rfl rfl (fun _ => b_sub (by omega) (by omega))) ?_); refine l_op (o_val r_as ?_); first | refine l_end ?_ | refine l_nil ?_
   repeat refine c_seq ?_
   refine c_block ?_; repeat refine c_seq ?_
   refine c_loop5 (fun (k : Nat) (l : List UInt8) (a : Option Nat) (ln : Nat) (c : Nat) => [(1, V64 u), (8, .slice (hd a) ln c), (9, VI ((k : Int) - 1))])
     (fun (k : Nat) (l : List UInt8) (a : Option Nat) (ln : Nat) (c : Nat) w => (k ≤ n ∧ l ++ be u.toNat k = s.l ++ be u.toNat n ∧ ln + k = s.len + n) ∧ Hp w0 w [] ([.own a ln c ((l).map V8) 5 1]))
     (fun (k : Nat) (l : List UInt8) (a : Option Nat) (ln : Nat) (c : Nat) => k) n s.l _ s.len _ ⟨rfl, rfl, rfl, trivial⟩ ⟨⟨Nat.le_refl _, rfl, rfl⟩, H⟩ ?_
   clear H
   rintro k l a ln c τ w ⟨⟨hk, hl, hln⟩, H⟩
   repeat refine c_seq ?_
   refine c_region ?_; refine l_op (o_val r_mv ?_); refine l_op (o_val (r_bin (a := ((k : Int) - 1)) (b := 0) rfl rfl (fun _ => b_geq)) ?_); first | refine l_end ?_ | refine l_nil ?_
   by_cases hc4 : 0 ≤ ((k : Int) - 1)
   ·
    repeat refine c_seq ?_
    refine c_yes (by exact congrArg Value.bool (decide_eq_true hc4)) ?_; refine c_skip ?_; repeat refine c_seq ?_
    refine c_block ?_; have hk1 : k = (k - 1) + 1 := by omega
    rw [hk1, be] at hl
    repeat refine c_seq ?_
    refine c_region ?_; refine l_op (o_val r_mv ?_); refine l_op (o_val r_mv ?_); refine l_op (o_val r_mv ?_); refine l_op (o_val (r_conv (v := ((UInt64.ofNat (k - 1)).toNat : Int)) Tryz.underlying3 Tryz.underlying91 rfl (w_u64_N (k - 1) (by omega))) ?_); refine l_op (o_val (r_bin (c64 8 (by decide)) rfl (fun _ => b_mul_u64N)) ?_); refine l_op (o_val (r_shift rfl rfl (.inr rfl) (fun _ => b_shr_u64N (8 * (k - 1)) (by omega))) ?_); refine l_op (o_val (r_conv Tryz.underlying36 Tryz.underlying5 rfl (w_u8_64 _)) ?_); refine l_op (o_bslB ([(u >>> UInt64.ofNat (8 * (k - 1))).toUInt8]) H sl50 zc5 rfl rfl (by decide) (fun b5 w H hb5 => ?_)); replace H : Hp _ w _ ([_, .own (some b5) 1 1 (([(u >>> UInt64.ofNat (8 * (k - 1))).toUInt8]).map V8) 5 1]) := H
    refine l_op (o_appB (s := ⟨hd (some b5), 1, 1, [(u >>> UInt64.ofNat (8 * (k - 1))).toUInt8]⟩) (l' := l ++ [UInt8.ofNat (u.toNat / 256 ^ (k - 1))]) (len' := ln + 1) (by rw [← shr_be u (k - 1) (by omega)]) rfl H (i := 0) rfl sl50 Tryz.underlying50 rfl rfl (H.slOwn (i := 1) rfl) (by omega) (fun a6 c7 w H => ?_)); replace H : Hp _ w _ ([.own a6 (ln + 1) c7 ((l ++ [UInt8.ofNat (u.toNat / 256 ^ (k - 1))]).map V8) 5 1, _]) := H
    refine l_op (o_val r_as ?_); first | refine l_end ?_ | refine l_nil ?_
    repeat refine c_seq ?_
    refine c_region ?_; refine l_op (o_val r_mv ?_); refine l_op (o_val (r_bin (a := ((k : Int) - 1)) (b := 1) rfl rfl (fun _ => b_sub (by omega) (by omega))) ?_); refine l_op (o_val r_as ?_); first | refine l_end ?_ | refine l_nil ?_
    refine round_end (k - 1, l ++ [UInt8.ofNat (u.toNat / 256 ^ (k - 1))], a6, ln + 1, c7) ?_ ?_ ?_
    · exact ⟨rfl, rfl, show VI (((k : Int) - 1) - 1) = VI (((k - 1 : Nat) : Int) - 1) from congrArg VI (by omega), trivial⟩
    · refine ⟨?_, ?_⟩
      · try dsimp only
        exact ⟨by omega, by simpa using hl, by omega⟩
      · exact H.sub (.cons_cons _ (List.nil_sublist _))
    · show (k - 1 : Nat) < k; omega
   ·
    repeat refine c_seq ?_
    refine c_no (by exact congrArg Value.bool (decide_eq_false hc4)) ?_; refine c_exit ?_; repeat refine c_seq ?_
    refine c_region ?_; refine l_op (o_val r_mv ?_); refine l_op (o_val r_as ?_); refine l_op (o_val r_as ?_); first | refine l_end ?_ | refine l_nil ?_
    refine c_ret ?_; try dsimp only [Exit.then, Exit.inBlock]
    refine e_retN (vs := [.slice (hd a) ln c, VI 0]) _ Tryz.results27 rfl (resT (v := .slice (hd a) ln c) rfl (resT (v := VI 0) rfl (resZ))) ?_
    refine ⟨_, rfl, ?_⟩
    have hk0 : k = 0 := by omega
    subst hk0
    simp only [be, List.append_nil, Nat.add_zero] at hl hln
    subst hl hln
    exact ⟨_, _, rfl, H⟩
  ·
   refine l_no rfl rfl (by exact congrArg Value.bool (decide_eq_false hc1)) rfl ?_; refine l_no rfl rfl (by exact congrArg Value.bool (decide_eq_false hc1)) rfl ?_; refine l_no rfl rfl (by exact congrArg Value.bool (decide_eq_false hc1)) rfl ?_; refine l_no rfl rfl (by exact congrArg Value.bool (decide_eq_false hc1)) rfl ?_; refine l_no rfl rfl (by exact congrArg Value.bool (decide_eq_false hc1)) rfl ?_; refine l_no rfl rfl (by exact congrArg Value.bool (decide_eq_false hc1)) rfl ?_; refine l_op (o_val (r_pick (b := false) (congrArg Value.bool (decide_eq_false hc1))) ?_); refine l_op (o_val r_as ?_); first | refine l_end ?_ | refine l_nil ?_
   repeat refine c_seq ?_
   refine c_no rfl ?_; refine c_skip ?_; repeat refine c_seq ?_
   refine c_region ?_; refine l_op (o_val r_mv ?_); refine l_op (o_val r_mv ?_); refine l_op (o_callR Tryz.func69 rfl rfl rfl (own_ret _ s (hs.up H (fun _ => apart_nil _)) n (by omega)) ?_); rintro _ w ⟨a8, c9, rfl, Hc⟩
   replace H : Hp _ w _ ([.own a8 s.len c9 ((s.l).map V8) 5 1]) := H.call Hc
   clear Hc
   refine l_op (o_val r_as ?_); first | refine l_end ?_ | refine l_nil ?_
   repeat refine c_seq ?_
   refine c_region ?_; refine l_op (o_val r_mv ?_); refine l_op (o_val (r_bin (a := (n : Int)) (b := 1) rfl rfl (fun _ => b_sub (by omega) (by omega))) ?_); refine l_op (o_val r_as ?_); first | refine l_end ?_ | refine l_nil ?_
   repeat refine c_seq ?_
   refine c_block ?_; repeat refine c_seq ?_
   refine c_loop5 (fun (k : Nat) (l : List UInt8) (a : Option Nat) (ln : Nat) (c : Nat) => [(1, V64 u), (8, .slice (hd a) ln c), (9, VI ((k : Int) - 1))])
     (fun (k : Nat) (l : List UInt8) (a : Option Nat) (ln : Nat) (c : Nat) w => (k ≤ n ∧ l ++ be u.toNat k = s.l ++ be u.toNat n ∧ ln + k = s.len + n) ∧ Hp w0 w [] ([.own a ln c ((l).map V8) 5 1]))
     (fun (k : Nat) (l : List UInt8) (a : Option Nat) (ln : Nat) (c : Nat) => k) n s.l _ s.len _ ⟨rfl, rfl, rfl, trivial⟩ ⟨⟨Nat.le_refl _, rfl, rfl⟩, H⟩ ?_
   clear H
   rintro k l a ln c τ w ⟨⟨hk, hl, hln⟩, H⟩
   repeat refine c_seq ?_
   refine c_region ?_; refine l_op (o_val r_mv ?_); refine l_op (o_val (r_bin (a := ((k : Int) - 1)) (b := 0) rfl rfl (fun _ => b_geq)) ?_); first | refine l_end ?_ | refine l_nil ?_
   by_cases hc10 : 0 ≤ ((k : Int) - 1)
   ·
    repeat refine c_seq ?_
    refine c_yes (by exact congrArg Value.bool (decide_eq_true hc10)) ?_; refine c_skip ?_; repeat refine c_seq ?_
    refine c_block ?_; have hk1 : k = (k - 1) + 1 := by omega
    rw [hk1, be] at hl
    repeat refine c_seq ?_
    refine c_region ?_; refine l_op (o_val r_mv ?_); refine l_op (o_val r_mv ?_); refine l_op (o_val r_mv ?_); refine l_op (o_val (r_conv (v := ((UInt64.ofNat (k - 1)).toNat : Int)) Tryz.underlying3 Tryz.underlying91 rfl (w_u64_N (k - 1) (by omega))) ?_); refine l_op (o_val (r_bin (c64 8 (by decide)) rfl (fun _ => b_mul_u64N)) ?_); refine l_op (o_val (r_shift rfl rfl (.inr rfl) (fun _ => b_shr_u64N (8 * (k - 1)) (by omega))) ?_); refine l_op (o_val (r_conv Tryz.underlying36 Tryz.underlying5 rfl (w_u8_64 _)) ?_); refine l_op (o_bslB ([(u >>> UInt64.ofNat (8 * (k - 1))).toUInt8]) H sl50 zc5 rfl rfl (by decide) (fun b11 w H hb11 => ?_)); replace H : Hp _ w _ ([_, .own (some b11) 1 1 (([(u >>> UInt64.ofNat (8 * (k - 1))).toUInt8]).map V8) 5 1]) := H
    refine l_op (o_appB (s := ⟨hd (some b11), 1, 1, [(u >>> UInt64.ofNat (8 * (k - 1))).toUInt8]⟩) (l' := l ++ [UInt8.ofNat (u.toNat / 256 ^ (k - 1))]) (len' := ln + 1) (by rw [← shr_be u (k - 1) (by omega)]) rfl H (i := 0) rfl sl50 Tryz.underlying50 rfl rfl (H.slOwn (i := 1) rfl) (by omega) (fun a12 c13 w H => ?_)); replace H : Hp _ w _ ([.own a12 (ln + 1) c13 ((l ++ [UInt8.ofNat (u.toNat / 256 ^ (k - 1))]).map V8) 5 1, _]) := H
    refine l_op (o_val r_as ?_); first | refine l_end ?_ | refine l_nil ?_
    repeat refine c_seq ?_
    refine c_region ?_; refine l_op (o_val r_mv ?_); refine l_op (o_val (r_bin (a := ((k : Int) - 1)) (b := 1) rfl rfl (fun _ => b_sub (by omega) (by omega))) ?_); refine l_op (o_val r_as ?_); first | refine l_end ?_ | refine l_nil ?_
    refine round_end (k - 1, l ++ [UInt8.ofNat (u.toNat / 256 ^ (k - 1))], a12, ln + 1, c13) ?_ ?_ ?_
    · exact ⟨rfl, rfl, show VI (((k : Int) - 1) - 1) = VI (((k - 1 : Nat) : Int) - 1) from congrArg VI (by omega), trivial⟩
    · refine ⟨?_, ?_⟩
      · try dsimp only
        exact ⟨by omega, by simpa using hl, by omega⟩
      · exact H.sub (.cons_cons _ (List.nil_sublist _))
    · show (k - 1 : Nat) < k; omega
   ·
    repeat refine c_seq ?_
    refine c_no (by exact congrArg Value.bool (decide_eq_false hc10)) ?_; refine c_exit ?_; repeat refine c_seq ?_
    refine c_region ?_; refine l_op (o_val r_mv ?_); refine l_op (o_val r_as ?_); refine l_op (o_val r_as ?_); first | refine l_end ?_ | refine l_nil ?_
    refine c_ret ?_; try dsimp only [Exit.then, Exit.inBlock]
    refine e_retN (vs := [.slice (hd a) ln c, VI 0]) _ Tryz.results27 rfl (resT (v := .slice (hd a) ln c) rfl (resT (v := VI 0) rfl (resZ))) ?_
    refine ⟨_, rfl, ?_⟩
    have hk0 : k = 0 := by omega
    subst hk0
    simp only [be, List.append_nil, Nat.add_zero] at hl hln
    subst hl hln
    exact ⟨_, _, rfl, H⟩
end Go.Proofs.YthigalfaanccnaaGreat
namespace Go.Proofs.YthigalfaanccnaaGreat
open Go
theorem u8_u64 (x : UInt8) : x.toUInt64 = UInt64.ofNat x.toNat := by
  apply UInt64.toNat_inj.1
  rw [UInt8.toNat_toUInt64, UInt64.toNat_ofNat']
  have := u8_lt x
  omega
end Go.Proofs.YthigalfaanccnaaGreat
namespace Go.Proofs.YthigalfaanccnaaGreat
open Go
set_option maxRecDepth 100000
theorem ofNat_nat (n : Nat) (h : n < 18446744073709551616) : (UInt64.ofNat n).toNat = n := by rw [UInt64.toNat_ofNat']; omega
end Go.Proofs.YthigalfaanccnaaGreat
namespace Go.Proofs.YthigalfaanccnaaGreat
open Go
set_option maxRecDepth 100000
theorem cat_le (ps : List Sl) (i : Nat) : (cat (ps.take i)).length ≤ (cat ps).length := by
  have : cat ps = cat (ps.take i) ++ cat (ps.drop i) := by rw [cat, cat, cat, ← List.flatMap_append, List.take_append_drop]
  rw [this]; simp
theorem cat_all (ps : List Sl) (i : Nat) (h : ps.length = i) : cat (ps.take i) = cat ps := by rw [List.take_of_length_le (by omega)]
end Go.Proofs.YthigalfaanccnaaGreat
namespace Go.Proofs.YthigalfaanccnaaGreat
open Go
set_option maxRecDepth 100000
/-- a number in groups of seven bits. -/
def cnt (v : Nat) : List UInt8 := if 127 < v then (UInt8.ofNat v ||| 128) :: cnt (v / 128) else [UInt8.ofNat v]
termination_by v
decreasing_by omega
theorem cnt_more (v : UInt64) (h : 127 < v.toNat) : cnt v.toNat = (v.toUInt8 ||| 128) :: cnt (v >>> UInt64.ofNat 7).toNat := by
  have e : (v >>> UInt64.ofNat 7).toNat = v.toNat / 128 := by
    have e7 : (UInt64.ofNat 7).toNat % 64 = 7 := rfl
    rw [UInt64.toNat_shiftRight, e7, Nat.shiftRight_eq_div_pow]
  have e2 : v.toUInt8 = UInt8.ofNat v.toNat := by
    apply UInt8.toNat_inj.1; rw [UInt64.toNat_toUInt8, UInt8.toNat_ofNat']
  rw [cnt, if_pos h, e, e2]
theorem cnt_less (v : UInt64) (h : ¬ 127 < v.toNat) : cnt v.toNat = [v.toUInt8] := by
  have e2 : v.toUInt8 = UInt8.ofNat v.toNat := by
    apply UInt8.toNat_inj.1; rw [UInt64.toNat_toUInt8, UInt8.toNat_ofNat']
  rw [cnt, if_neg h, e2]
theorem shr7 (v : UInt64) : (v >>> UInt64.ofNat 7).toNat = v.toNat / 128 := by
  have e7 : (UInt64.ofNat 7).toNat % 64 = 7 := rfl
  rw [UInt64.toNat_shiftRight, e7, Nat.shiftRight_eq_div_pow]
theorem cnt_bound (x ln s : Nat) (hx : x < 2 ^ (64 - 7 * (ln - s))) (h : 127 < x) (h1 : s ≤ ln) (h2 : ln ≤ s + 10) : ln + 1 ≤ s + 10 ∧ x / 128 < 2 ^ (64 - 7 * (ln + 1 - s)) := by
  obtain ⟨k, rfl⟩ : ∃ k, ln = s + k := ⟨ln - s, by omega⟩
  rw [Nat.add_sub_cancel_left] at hx
  have hk : k < 9 := by
    refine Nat.lt_of_not_le fun hk => ?_
    have : 2 ^ (64 - 7 * k) ≤ 2 ^ 1 := Nat.pow_le_pow_right (by decide) (by omega)
    omega
  refine ⟨by omega, ?_⟩
  rw [show s + k + 1 - s = k + 1 by omega]
  have e : 2 ^ (64 - 7 * k) = 2 ^ (64 - 7 * (k + 1)) * 128 := by
    rw [show (128 : Nat) = 2 ^ 7 from rfl, ← Nat.pow_add]; congr 1; omega
  rw [e] at hx
  exact Nat.div_lt_of_lt_mul (by omega)
theorem count_ret (w0 : World) (s : Sl) (hs : s.ok w0) (u : UInt64) (hm : s.len ≤ 1048576) :
    Ret Tryz.prog 33 [s.v, V64 u] w0 fun v w' => ∃ a n c, v = .slice (hd a) n c ∧ n ≤ s.len + 11 ∧ Hp w0 w' [] [.own a n c ((s.l ++ cnt u.toNat).map V8) 5 1] := by
  refine ret_mk Tryz.func33 rfl Tryz.ntmps33 (by simp) ?_
  have H := Hp.refl w0 []
  repeat refine c_seq ?_
  refine c_region ?_; refine l_op (o_val r_as ?_); first | refine l_end ?_ | refine l_nil ?_
  repeat refine c_seq ?_
  refine c_region ?_; refine l_op (o_val r_mv ?_); refine l_op (o_callR Tryz.func69 rfl rfl rfl (own_ret _ s (hs.up H (fun _ => apart_nil _)) 10 (by omega)) ?_); rintro _ w ⟨a1, c2, rfl, Hc⟩
  replace H : Hp _ w _ ([.own a1 s.len c2 ((s.l).map V8) 5 1]) := H.call Hc
  clear Hc
  refine l_op (o_val r_as ?_); first | refine l_end ?_ | refine l_nil ?_
  repeat refine c_seq ?_
  refine c_block ?_; repeat refine c_seq ?_
  refine c_loop5 (fun (x : UInt64) (l : List UInt8) (a : Option Nat) (ln : Nat) (c : Nat) => [(1, V64 x), (5, .slice (hd a) ln c)])
    (fun (x : UInt64) (l : List UInt8) (a : Option Nat) (ln : Nat) (c : Nat) w => (l ++ cnt x.toNat = s.l ++ cnt u.toNat ∧ ln ≤ s.len + 10 ∧ x.toNat < 2 ^ (64 - 7 * (ln - s.len)) ∧ s.len ≤ ln) ∧ Hp w0 w [] ([.own a ln c ((l).map V8) 5 1]))
    (fun (x : UInt64) (l : List UInt8) (a : Option Nat) (ln : Nat) (c : Nat) => x.toNat) u s.l a1 s.len c2 ⟨rfl, rfl, trivial⟩ ⟨⟨rfl, by omega, by rw [Nat.sub_self]; exact u.toNat_lt, Nat.le_refl _⟩, H⟩ ?_
  clear H
  rintro x l a ln c τ w ⟨⟨hl, hln, hx, hge⟩, H⟩
  repeat refine c_seq ?_
  refine c_region ?_; refine l_op (o_val r_mv ?_); refine l_op (o_val (r_bin (a := (x.toNat : Int)) (b := 127) rfl rfl (fun _ => b_gtr)) ?_); first | refine l_end ?_ | refine l_nil ?_
  by_cases hc3 : 127 < (x.toNat : Int)
  ·
   repeat refine c_seq ?_
   refine c_yes (by exact congrArg Value.bool (decide_eq_true hc3)) ?_; refine c_skip ?_; repeat refine c_seq ?_
   refine c_block ?_; repeat refine c_seq ?_
   refine c_region ?_; refine l_op (o_val r_mv ?_); refine l_op (o_val r_mv ?_); refine l_op (o_val (r_conv Tryz.underlying36 Tryz.underlying5 rfl (w_u8_64 _)) ?_); refine l_op (o_val (r_bin rfl (c8 128 (by decide)) (fun _ => b_or_u8)) ?_); refine l_op (o_bslB ([x.toUInt8 ||| (128 : UInt8)]) H sl50 zc5 rfl rfl (by decide) (fun b4 w H hb4 => ?_)); replace H : Hp _ w _ ([_, .own (some b4) 1 1 (([x.toUInt8 ||| (128 : UInt8)]).map V8) 5 1]) := H
   refine l_op (o_appB (s := ⟨hd (some b4), 1, 1, [x.toUInt8 ||| (128 : UInt8)]⟩) (l' := l ++ ([x.toUInt8 ||| (128 : UInt8)])) (len' := ln + 1) rfl rfl H (i := 0) rfl sl50 Tryz.underlying50 rfl rfl (H.slOwn (i := 1) rfl) (by omega) (fun a5 c6 w H => ?_)); replace H : Hp _ w _ ([.own a5 (ln + 1) c6 ((l ++ ([x.toUInt8 ||| (128 : UInt8)])).map V8) 5 1, _]) := H
   refine l_op (o_val r_as ?_); first | refine l_end ?_ | refine l_nil ?_
   repeat refine c_seq ?_
   refine c_region ?_; refine l_op (o_val r_mv ?_); refine l_op (o_val (r_shift rfl rfl (.inr rfl) (fun _ => b_shr_u64N 7 (by omega))) ?_); refine l_op (o_val r_as ?_); first | refine l_end ?_ | refine l_nil ?_
   have hb7 := cnt_bound x.toNat ln s.len hx (by omega) hge hln
   refine round_end (x >>> UInt64.ofNat 7, l ++ ([x.toUInt8 ||| (128 : UInt8)]), a5, ln + 1, c6) ?_ ?_ ?_
   · exact ⟨show V64 (x >>> UInt64.ofNat 7) = V64 (x >>> UInt64.ofNat 7 : UInt64) from congrArg V64 rfl, rfl, trivial⟩
   · refine ⟨?_, ?_⟩
     · try dsimp only
       exact ⟨by rw [cnt_more x (by omega)] at hl; simpa using hl, by omega, by rw [shr7]; exact hb7.2, by omega⟩
     · exact H.sub (.cons_cons _ (List.nil_sublist _))
   · show (x >>> UInt64.ofNat 7).toNat < x.toNat; rw [shr7]; omega
  ·
   repeat refine c_seq ?_
   refine c_no (by exact congrArg Value.bool (decide_eq_false hc3)) ?_; refine c_exit ?_; repeat refine c_seq ?_
   refine c_region ?_; refine l_op (o_val r_mv ?_); refine l_op (o_val r_mv ?_); refine l_op (o_val (r_conv Tryz.underlying36 Tryz.underlying5 rfl (w_u8_64 _)) ?_); refine l_op (o_bslB ([x.toUInt8]) H sl50 zc5 rfl rfl (by decide) (fun b7 w H hb7 => ?_)); replace H : Hp _ w _ ([_, .own (some b7) 1 1 (([x.toUInt8]).map V8) 5 1]) := H
   refine l_op (o_appB (s := ⟨hd (some b7), 1, 1, [x.toUInt8]⟩) (l' := l ++ ([x.toUInt8])) (len' := ln + 1) rfl rfl H (i := 0) rfl sl50 Tryz.underlying50 rfl rfl (H.slOwn (i := 1) rfl) (by omega) (fun a8 c9 w H => ?_)); replace H : Hp _ w _ ([.own a8 (ln + 1) c9 ((l ++ ([x.toUInt8])).map V8) 5 1, _]) := H
   refine l_op (o_val r_as ?_); first | refine l_end ?_ | refine l_nil ?_
   refine c_ret ?_; try dsimp only [Exit.then, Exit.inBlock]
   refine e_ret1 (v := .slice (hd a8) (ln + 1) c9) Tryz.results33 rfl ?_
   refine ⟨_, rfl, ?_⟩
   refine ⟨_, _, _, rfl, by omega, ?_⟩
   rw [cnt_less x (by omega)] at hl
   rw [← hl]
   exact H.sub (.cons_cons _ (List.nil_sublist _))
theorem text_ret (w0 : World) (s u : Sl) (hs : s.ok w0) (hu : u.ok w0) (hm : s.len ≤ 1048576) (hn : u.len ≤ 65536) :
    Ret Tryz.prog 28 [s.v, u.v] w0 fun v w' => ∃ a n c, v = .tuple #[.slice (hd a) n c, VI 0] ∧ n ≤ s.len + 11 + u.len ∧ Hp w0 w' [] [.own a n c ((s.l ++ cnt u.len ++ u.l).map V8) 5 1] := by
  refine ret_mk Tryz.func28 rfl Tryz.ntmps28 (by simp) ?_
  have H := Hp.refl w0 []
  repeat refine c_seq ?_
  refine c_region ?_; refine l_op (o_val r_as ?_); refine l_op (o_val r_as ?_); first | refine l_end ?_ | refine l_nil ?_
  repeat refine c_seq ?_
  refine c_region ?_; refine l_op (o_val r_mv ?_); refine l_op (o_val (r_lens el50 rfl) ?_); refine l_op (o_val (r_bin (a := (u.len : Int)) (b := 65536) rfl rfl (fun _ => b_gtrB false (decide_eq_false (by omega)))) ?_); first | refine l_end ?_ | refine l_nil ?_
  repeat refine c_seq ?_
  refine c_no rfl ?_; refine c_skip ?_; repeat refine c_seq ?_
  refine c_region ?_; refine l_op (o_val r_mv ?_); refine l_op (o_val r_mv ?_); refine l_op (o_val (r_lens el50 rfl) ?_); refine l_op (o_val (r_conv (v := ((UInt64.ofNat u.len).toNat : Int)) Tryz.underlying3 Tryz.underlying36 rfl (w_u64_N u.len (by omega))) ?_); refine l_op (o_callR Tryz.func33 rfl rfl rfl (count_ret _ s (hs.up H (fun _ => apart_nil _)) (UInt64.ofNat u.len) (by (try simp only [Sl.cut]); omega)) ?_); rintro _ w ⟨a1, n2, c3, rfl, hn4, Hc⟩
  replace H : Hp _ w _ ([.own a1 n2 c3 ((s.l ++ cnt (UInt64.ofNat u.len).toNat).map V8) 5 1]) := H.call Hc
  clear Hc
  try dsimp only at hn4
  refine l_op (o_val r_mv ?_); refine l_op (o_appB (s := u) (l' := s.l ++ cnt (UInt64.ofNat u.len).toNat ++ u.l) (len' := n2 + u.len) rfl rfl H (i := 0) rfl sl50 Tryz.underlying50 rfl rfl (hu.up H (fun _ => apart_nil _)) (by omega) (fun a5 c6 w H => ?_)); replace H : Hp _ w _ ([.own a5 (n2 + u.len) c6 ((s.l ++ cnt (UInt64.ofNat u.len).toNat ++ u.l).map V8) 5 1]) := H
  refine l_op (o_val r_as ?_); refine l_op (o_val r_as ?_); first | refine l_end ?_ | refine l_nil ?_
  refine c_ret ?_; try dsimp only [Exit.then, Exit.inBlock]
  refine e_retN (vs := [.slice (hd a5) (n2 + u.len) c6, VI 0]) _ Tryz.results28 rfl (resT (v := .slice (hd a5) (n2 + u.len) c6) rfl (resT (v := VI 0) rfl (resZ))) ?_
  refine ⟨_, rfl, ?_⟩
  refine ⟨_, _, _, rfl, by omega, ?_⟩
  rw [ofNat_nat _ (by omega)] at H
  exact H
end Go.Proofs.YthigalfaanccnaaGreat
namespace Go.Proofs.YthigalfaanccnaaGreat
open Go
set_option maxRecDepth 100000
theorem rem_be (v : UInt64) (m : Nat) (h : v.toNat = m) : (v % 256).toUInt8 = UInt8.ofNat m := by
  apply UInt8.toNat_inj.1
  rw [UInt64.toNat_toUInt8, UInt64.toNat_mod, UInt8.toNat_ofNat', h]
  have : (256 : UInt64).toNat = 256 := rfl
  rw [this]; omega
theorem quo_be (v : UInt64) (x i : Nat) (h : v.toNat = x / 256 ^ i) : (v / 256).toNat = x / 256 ^ (i + 1) := by
  rw [UInt64.toNat_div, h, Nat.pow_succ, Nat.div_div_eq_div_mul]; rfl
theorem put1_ret (w0 : World) (s : Sl) (hs : s.ok w0) (u : UInt64) (n : Nat) (h1 : 1 ≤ n) (h8 : n ≤ 8) (hf : u.toNat < 256 ^ n) (hm : s.len ≤ 1048576) :
    Ret Tryz.prog 70 [s.v, V64 u, VI (n : Int)] w0 fun v w' => ∃ a cap, v = .tuple #[.slice (hd a) (s.len + n) cap, VI 0] ∧ Hp w0 w' [] [.own a (s.len + n) cap ((s.l ++ be u.toNat n).map V8) 5 1] := by
  refine ret_mk Tryz.func70 rfl Tryz.ntmps70 (by simp) ?_
  have H := Hp.refl w0 []
  repeat refine c_seq ?_
  refine c_region ?_; refine l_op (o_val r_as ?_); refine l_op (o_val r_as ?_); first | refine l_end ?_ | refine l_nil ?_
  repeat refine c_seq ?_
  refine c_region ?_; refine l_op (o_val r_mv ?_); refine l_op (o_val (r_bin (a := (n : Int)) (b := 1) rfl rfl (fun _ => b_lssB false (decide_eq_false (by omega)))) ?_); refine l_op (o_val r_mv ?_); refine l_yes rfl rfl rfl (o_val r_mv ?_); refine l_yes rfl rfl rfl (o_val (r_bin (a := (n : Int)) (b := 8) rfl rfl (fun _ => b_gtrB false (decide_eq_false (by omega)))) ?_); refine l_op (o_val (r_pick rfl) ?_); first | refine l_end ?_ | refine l_nil ?_
  repeat refine c_seq ?_
  refine c_no rfl ?_; refine c_skip ?_; repeat refine c_seq ?_
  refine c_region ?_; refine l_op (o_val r_as ?_); first | refine l_end ?_ | refine l_nil ?_
  repeat refine c_seq ?_
  refine c_region ?_; refine l_op (o_val r_as ?_); first | refine l_end ?_ | refine l_nil ?_
  repeat refine c_seq ?_
  refine c_block ?_; repeat refine c_seq ?_
  refine c_loop4 (fun (i : Nat) (x : UInt64) (a : Option Nat) (c : Nat) => [(0, s.v), (1, V64 x), (2, VI (n : Int)), (8, .slice (hd a) i c), (9, VI (i : Int))])
    (fun (i : Nat) (x : UInt64) (a : Option Nat) (c : Nat) w => (i ≤ n ∧ x.toNat = u.toNat / 256 ^ i) ∧ Hp w0 w [] ([.own a i c ((be u.toNat i).map V8) 5 1]))
    (fun (i : Nat) (x : UInt64) (a : Option Nat) (c : Nat) => n - i) 0 u none 0 ⟨rfl, rfl, rfl, rfl, rfl, trivial⟩ ⟨⟨Nat.zero_le _, by simp⟩, (H.nilEnd 5 1)⟩ ?_
  clear H
  rintro i x a c τ w ⟨⟨hi, hx⟩, H⟩
  repeat refine c_seq ?_
  refine c_region ?_; refine l_op (o_val r_mv ?_); refine l_op (o_val r_mv ?_); refine l_op (o_val (r_bin (a := (i : Int)) (b := (n : Int)) rfl rfl (fun _ => b_lss)) ?_); first | refine l_end ?_ | refine l_nil ?_
  by_cases hc1 : (i : Int) < (n : Int)
  ·
   repeat refine c_seq ?_
   refine c_yes (by exact congrArg Value.bool (decide_eq_true hc1)) ?_; refine c_skip ?_; repeat refine c_seq ?_
   refine c_block ?_; repeat refine c_seq ?_
   refine c_region ?_; refine l_op (o_val r_mv ?_); refine l_op (o_val (r_bin rfl (c64 256 (by decide)) (fun _ => b_rem_u64 (by decide))) ?_); refine l_op (o_val (r_conv Tryz.underlying36 Tryz.underlying5 rfl (w_u8_64 _)) ?_); refine l_op (o_bslB ([(x % (256 : UInt64)).toUInt8]) H sl50 zc5 rfl rfl (by decide) (fun b2 w H hb2 => ?_)); replace H : Hp _ w _ ([_, .own (some b2) 1 1 (([(x % (256 : UInt64)).toUInt8]).map V8) 5 1]) := H
   refine l_op (o_val r_mv ?_); refine l_op (o_appB (s := ⟨hd a, i, c, be u.toNat i⟩) (l' := be u.toNat (i + 1)) (len' := i + 1) (by rw [be, rem_be x _ hx]; rfl) (by (try dsimp only); omega) H (i := 1) rfl sl50 Tryz.underlying50 rfl rfl (H.slOwn (i := 0) rfl) (by omega) (fun a3 c4 w H => ?_)); replace H : Hp _ w _ ([_, .own a3 (i + 1) c4 ((be u.toNat (i + 1)).map V8) 5 1]) := H
   refine l_op (o_val r_as ?_); first | refine l_end ?_ | refine l_nil ?_
   repeat refine c_seq ?_
   refine c_region ?_; refine l_op (o_val r_mv ?_); refine l_op (o_val (r_bin rfl (c64 256 (by decide)) (fun _ => b_quo_u64 (by decide))) ?_); refine l_op (o_val r_as ?_); first | refine l_end ?_ | refine l_nil ?_
   repeat refine c_seq ?_
   refine c_region ?_; refine l_op (o_val r_mv ?_); refine l_op (o_val (r_bin (a := (i : Int)) (b := 1) rfl rfl (fun _ => b_add (by omega) (by omega))) ?_); refine l_op (o_val r_as ?_); first | refine l_end ?_ | refine l_nil ?_
   refine round_end (i + 1, x / (256 : UInt64), a3, c4) ?_ ?_ ?_
   · exact ⟨rfl, show V64 (x / (256 : UInt64)) = V64 (x / (256 : UInt64) : UInt64) from congrArg V64 rfl, rfl, rfl, show VI ((i : Int) + 1) = VI ((i + 1 : Nat) : Int) from congrArg VI (by omega), trivial⟩
   · refine ⟨?_, ?_⟩
     · try dsimp only
       exact ⟨by omega, quo_be _ _ _ hx⟩
     · exact H.sub (.cons _ (.cons_cons _ (List.nil_sublist _)))
   · show n - (i + 1 : Nat) < n - i; omega
  ·
   repeat refine c_seq ?_
   refine c_no (by exact congrArg Value.bool (decide_eq_false hc1)) ?_; refine c_exit ?_; have hx0 : x.toNat = 0 := by
     have hi2 : i = n := by omega
     rw [hx, hi2]; exact Nat.div_eq_of_lt hf
   repeat refine c_seq ?_
   refine c_region ?_; refine l_op (o_val r_mv ?_); refine l_op (o_val (r_bin (a := (x.toNat : Int)) (b := 0) rfl rfl (fun _ => b_gtrB false (decide_eq_false (by omega)))) ?_); first | refine l_end ?_ | refine l_nil ?_
   repeat refine c_seq ?_
   refine c_no rfl ?_; refine c_skip ?_; repeat refine c_seq ?_
   refine c_region ?_; refine l_op (o_bslB (([] : List UInt8)) H sl50 zc5 rfl rfl (by decide) (fun b5 w H hb5 => ?_)); replace H : Hp _ w _ ([_, .own (some b5) 0 0 ((([] : List UInt8)).map V8) 5 1]) := H
   refine l_op (o_val r_mv ?_); refine l_op (o_appB (s := s) (l' := s.l) (len' := s.len) rfl (Nat.zero_add _) H (i := 1) rfl sl50 Tryz.underlying50 rfl rfl (hs.up H (fun _ => apart_nil _)) (by omega) (fun a6 c7 w H => ?_)); replace H : Hp _ w _ ([_, .own a6 s.len c7 ((s.l).map V8) 5 1]) := H
   refine l_op (o_val r_mv ?_); refine l_op (o_appB (s := ⟨hd a, i, c, be u.toNat i⟩) (l' := s.l ++ (be u.toNat i)) (len' := s.len + i) rfl rfl H (i := 1) rfl sl50 Tryz.underlying50 rfl rfl (H.slOwn (i := 0) rfl) (by omega) (fun a8 c9 w H => ?_)); replace H : Hp _ w _ ([_, .own a8 (s.len + i) c9 ((s.l ++ (be u.toNat i)).map V8) 5 1]) := H
   refine l_op (o_val r_as ?_); refine l_op (o_val r_as ?_); first | refine l_end ?_ | refine l_nil ?_
   refine c_ret ?_; try dsimp only [Exit.then, Exit.inBlock]
   refine e_retN (vs := [.slice (hd a8) (s.len + i) c9, VI 0]) _ Tryz.results70 rfl (resT (v := .slice (hd a8) (s.len + i) c9) rfl (resT (v := VI 0) rfl (resZ))) ?_
   refine ⟨_, rfl, ?_⟩
   have hi2 : i = n := by omega
   subst hi2
   exact ⟨_, _, rfl, H.sub (.cons _ (.cons_cons _ (List.nil_sublist _)))⟩
theorem u64_fit8 (u : UInt64) : u.toNat < 256 ^ 8 := u.toNat_lt
theorem put1z_ret (w0 : World) (u : UInt64) (n : Nat) (h1 : 1 ≤ n) (h8 : n ≤ 8) (hf : u.toNat < 256 ^ n) :
    Ret Tryz.prog 70 [.slice none 0 0, V64 u, VI (n : Int)] w0 fun v w' => ∃ a cap, v = .tuple #[.slice (hd a) n cap, VI 0] ∧ Hp w0 w' [] [.own a n cap ((be u.toNat n).map V8) 5 1] :=
  (put1_ret w0 ⟨none, 0, 0, []⟩ (Sl.ok_nil _) u n h1 h8 hf (by simp)).mono fun v w' ⟨a, c, hv, H⟩ => ⟨a, c, by simpa using hv, by simpa using H⟩
theorem eight_ret (w0 : World) (u : UInt64) :
    Ret Tryz.prog 30 [V64 u] w0 fun v w' => ∃ a cap, v = .slice (hd a) 8 cap ∧ Hp w0 w' [] [.own a 8 cap ((be u.toNat 8).map V8) 5 1] := by
  refine ret_mk Tryz.func30 rfl Tryz.ntmps30 (by simp) ?_
  have H := Hp.refl w0 []
  repeat refine c_seq ?_
  refine c_region ?_; refine l_op (o_val r_as ?_); first | refine l_end ?_ | refine l_nil ?_
  repeat refine c_seq ?_
  refine c_region ?_; refine l_op (o_val r_mv ?_); refine l_op (o_callR Tryz.func70 rfl rfl rfl (put1z_ret _ (u) 8 (by omega) (by omega) (u64_fit8 _)) ?_); rintro _ w ⟨a1, c2, rfl, Hc⟩
  replace H : Hp _ w _ ([.own a1 8 c2 ((be (u).toNat 8).map V8) 5 1]) := H.call Hc
  clear Hc
  refine l_op (o_val r_mv ?_); refine l_op (o_val (r_ext rfl rfl) ?_); refine l_op (o_val (r_ext rfl rfl) ?_); refine l_op (o_val r_as ?_); refine l_op (o_val r_as ?_); first | refine l_end ?_ | refine l_nil ?_
  repeat refine c_seq ?_
  refine c_region ?_; refine l_op (o_val r_mv ?_); refine l_op (o_val r_as ?_); first | refine l_end ?_ | refine l_nil ?_
  refine c_ret ?_; try dsimp only [Exit.then, Exit.inBlock]
  refine e_ret1 (v := .slice (hd a1) 8 c2) Tryz.results30 rfl ?_
  refine ⟨_, rfl, ?_⟩
  exact ⟨_, _, rfl, H⟩
end Go.Proofs.YthigalfaanccnaaGreat
namespace Go.Proofs.YthigalfaanccnaaGreat
open Go
set_option maxRecDepth 100000
/-- the number that bytes make, the highest first. -/
def ofbe (l : List UInt8) : Nat := l.foldl (fun a b => a * 256 + b.toNat) 0
theorem ofbe_snoc (l : List UInt8) (b : UInt8) : ofbe (l ++ [b]) = ofbe l * 256 + b.toNat := by simp [ofbe]
theorem shl_or (v : UInt64) (x : UInt8) : (v <<< UInt64.ofNat 8) ||| x.toUInt64 = v * 256 + x.toUInt64 := by
  apply UInt64.toNat_inj.1
  have hx := u8_lt x
  have e8 : (UInt64.ofNat 8).toNat % 64 = 8 := rfl
  rw [UInt64.toNat_or, UInt64.toNat_add, UInt64.toNat_mul, UInt64.toNat_shiftLeft, e8, UInt8.toNat_toUInt64, Nat.shiftLeft_eq]
  have e1 : v.toNat * 2 ^ 8 % 2 ^ 64 = (v.toNat % 2 ^ 56) * 2 ^ 8 := by omega
  have e2 : (256 : UInt64).toNat = 256 := rfl
  rw [e1, ← Nat.shiftLeft_eq, ← Nat.shiftLeft_add_eq_or_of_lt (by omega), Nat.shiftLeft_eq, e2]
  omega
theorem num_step (m : Nat) (x : UInt8) : UInt64.ofNat m * 256 + x.toUInt64 = UInt64.ofNat (m * 256 + x.toNat) := by
  rw [UInt64.ofNat_add, UInt64.ofNat_mul, u8_u64]; rfl
theorem take_snoc (l : List UInt8) (i : Nat) (h : i < l.length) : l.take (i + 1) = l.take i ++ [l.getD i 0] := by
  rw [List.take_add_one, List.getD_eq_getElem?_getD]; simp [h]
def num (l : List UInt8) (at_ n : Nat) : UInt64 := UInt64.ofNat (ofbe ((l.drop at_).take n))
def nump (l : List UInt8) (at_ i : Nat) : UInt64 := UInt64.ofNat (ofbe ((l.drop at_).take i))
theorem nump_succ (l : List UInt8) (a i : Nat) (h : a + i < l.length) (x : UInt8) (hx : x = l.getD (a + i) 0) : nump l a i * 256 + x.toUInt64 = nump l a (i + 1) := by
  have e : (l.drop a).getD i 0 = x := by rw [hx, List.getD_eq_getElem?_getD, List.getD_eq_getElem?_getD, List.getElem?_drop]
  rw [nump, nump, num_step, take_snoc _ _ (by simp; omega), ofbe_snoc, e]
theorem getD_cut (l : List UInt8) (a n i : Nat) (hi : i < n) : ((l.drop a).take n).getD i 0 = l.getD (a + i) 0 := by
  rw [List.getD_eq_getElem?_getD, List.getD_eq_getElem?_getD, List.getElem?_take_of_lt hi, List.getElem?_drop]
theorem at_ok (w0 : World) (s : Sl) (hs : s.ok w0) (at_ n : Nat) (h1 : 1 ≤ n) (h8 : n ≤ 8) (hat : at_ ≤ 1099511627776) (hl : at_ + n ≤ s.len) :
    Ret Tryz.prog 86 [s.v, VI (at_ : Int), VI (n : Int)] w0 fun v w' => v = .tuple #[V64 (num s.l at_ n), VI 0] ∧ Hp w0 w' [] [] := by
  refine ret_mk Tryz.func86 rfl Tryz.ntmps86 (by simp) ?_
  have H := Hp.refl w0 []
  have hsl := hs.ln
  have hle := hs.le
  have hmx := hs.mx
  repeat refine c_seq ?_
  refine c_region ?_; refine l_op (o_val (r_asV (c64 0 (by decide))) ?_); refine l_op (o_val r_as ?_); first | refine l_end ?_ | refine l_nil ?_
  repeat refine c_seq ?_
  refine c_block ?_; repeat refine c_seq ?_
  refine c_region ?_; refine l_op (o_val r_mv ?_); refine l_op (o_val (r_bin (a := (n : Int)) (b := 1) rfl rfl (fun _ => b_lssB false (decide_eq_false (by omega)))) ?_); refine l_op (o_val r_mv ?_); refine l_yes rfl rfl rfl (o_val r_mv ?_); refine l_yes rfl rfl rfl (o_val (r_bin (a := (n : Int)) (b := 8) rfl rfl (fun _ => b_gtrB false (decide_eq_false (by omega)))) ?_); refine l_op (o_val (r_pick rfl) ?_); refine l_op (o_val r_mv ?_); refine l_yes rfl rfl rfl (o_val r_mv ?_); refine l_yes rfl rfl rfl (o_val (r_bin (a := (at_ : Int)) (b := 0) rfl rfl (fun _ => b_lssB false (decide_eq_false (by omega)))) ?_); refine l_op (o_val (r_pick rfl) ?_); refine l_op (o_val r_as ?_); first | refine l_end ?_ | refine l_nil ?_
  repeat refine c_seq ?_
  refine c_no rfl ?_; repeat refine c_seq ?_
  refine c_region ?_; refine l_op (o_val r_mv ?_); refine l_op (o_val r_mv ?_); refine l_op (o_val (r_lens el50 rfl) ?_); refine l_op (o_val r_mv ?_); refine l_op (o_val (r_bin (a := (s.len : Int)) (b := (n : Int)) rfl rfl (fun _ => b_sub (by omega) (by omega))) ?_); refine l_op (o_val (r_bin (a := (at_ : Int)) (b := (s.len : Int) - (n : Int)) rfl rfl (fun _ => b_gtrB false (decide_eq_false (by omega)))) ?_); refine l_op (o_val r_as ?_); first | refine l_end ?_ | refine l_nil ?_
  repeat refine c_seq ?_
  refine c_no rfl ?_; refine c_skip ?_; repeat refine c_seq ?_
  refine c_region ?_; refine l_op (o_val (r_asV (c64 0 (by decide))) ?_); first | refine l_end ?_ | refine l_nil ?_
  repeat refine c_seq ?_
  refine c_region ?_; refine l_op (o_val r_mv ?_); refine l_op (o_val r_mv ?_); refine l_op (o_val r_mv ?_); refine l_op (o_val r_mv ?_); refine l_op (o_val (r_bin (a := (at_ : Int)) (b := (n : Int)) rfl rfl (fun _ => b_add (by omega) (by omega))) ?_); refine l_op (o_val (r_slS (s := s) at_ (at_ + n) s.cap (lv := some (VI (at_ : Int))) (hv := some (VI ((at_ : Int) + (n : Int)))) (mv := none) rfl el50 rfl rfl rfl (fun w => by exact sblh at_ (at_ + n) (by omega) (by omega) (by (try simp only [Sl.cut]); omega) (by (try simp only [Sl.cut]); omega) w)) ?_); refine l_op (o_val (r_lens el50 rfl) ?_); refine l_op (o_val r_mv ?_); first | refine l_end ?_ | refine l_nil ?_
  repeat refine c_seq ?_
  refine c_block ?_; repeat refine c_seq ?_
  refine c_loop (fun (i : Nat) => [(8, V64 (nump s.l at_ i)), (34, (Sl.cut s at_ (at_ + n) s.cap).v), (35, VI ((at_ + n - at_ : Nat) : Int)), (36, VI (i : Int))])
    (fun (i : Nat) w => (i ≤ n) ∧ Hp w0 w [] ([]))
    (fun (i : Nat) => n - i) 0 ⟨rfl, rfl, rfl, rfl, trivial⟩ ⟨Nat.zero_le _, H⟩ ?_
  clear H
  rintro i τ w ⟨hi, H⟩
  repeat refine c_seq ?_
  refine c_region ?_; refine l_op (o_val (r_bin (a := (i : Int)) (b := ((at_ + n - at_ : Nat) : Int)) rfl rfl (fun _ => b_lss)) ?_); first | refine l_end ?_ | refine l_nil ?_
  by_cases hc1 : (i : Int) < ((at_ + n - at_ : Nat) : Int)
  ·
   repeat refine c_seq ?_
   refine c_yes (by exact congrArg Value.bool (decide_eq_true hc1)) ?_; refine c_skip ?_; repeat refine c_seq ?_
   refine c_block ?_; repeat refine c_seq ?_
   refine c_region ?_; have ah4 := (((hs.up H (fun _ => apart_nil _)).cut (l := at_) (h := at_ + n) (m := s.cap) (by omega) (by (try simp only [Sl.cut]); omega) (by omega) (by (try simp only [Sl.cut]); omega))).addr (by (try simp only [Sl.cut]); omega)
   obtain ⟨ab2, ao3, ah4⟩ := ah4
   refine l_op (o_val (r_isN i rfl rfl el50 ah4 (by omega) (by (try simp only [Sl.cut]); omega)) ?_); refine l_op (o_val (r_ldB (s := (Sl.cut s at_ (at_ + n) s.cap)) (k := i) ((hs.up H (fun _ => apart_nil _)).cut (l := at_) (h := at_ + n) (m := s.cap) (by omega) (by (try simp only [Sl.cut]); omega) (by omega) (by (try simp only [Sl.cut]); omega)) ah4 rfl ct5 (by (try simp only [Sl.cut]); omega)) ?_); refine l_op (o_val r_as ?_); first | refine l_end ?_ | refine l_nil ?_
   repeat refine c_seq ?_
   refine c_region ?_; refine l_op (o_val r_mv ?_); refine l_op (o_val (r_shift rfl rfl (.inl rfl) (fun _ => b_shl_u64N 8 (by omega))) ?_); refine l_op (o_val r_mv ?_); refine l_op (o_val (r_conv Tryz.underlying5 Tryz.underlying36 rfl (w_u64_8 _)) ?_); refine l_op (o_val (r_bin rfl rfl (fun _ => b_or_u64)) ?_); refine l_op (o_val r_as ?_); first | refine l_end ?_ | refine l_nil ?_
   repeat refine c_seq ?_
   refine c_region ?_; refine l_op (o_val (r_bin (a := (i : Int)) (b := 1) rfl rfl (fun _ => b_add (by omega) (by omega))) ?_); refine l_op (o_val r_mv ?_); first | refine l_end ?_ | refine l_nil ?_
   refine round_end (i + 1) ?_ ?_ ?_
   · exact ⟨show V64 (((nump s.l at_ i) <<< UInt64.ofNat 8) ||| (((((s.l).drop at_).take (at_ + n - at_)).getD i 0).toUInt64)) = V64 (nump s.l at_ (i + 1 : Nat)) from congrArg V64 (by rw [shl_or, getD_cut _ _ _ _ (by omega)]; exact nump_succ _ _ _ (by omega) _ rfl), rfl, rfl, show VI ((i : Int) + 1) = VI ((i + 1 : Nat) : Int) from congrArg VI (by omega), trivial⟩
   · refine ⟨?_, ?_⟩
     · try dsimp only
       exact by omega
     · exact H
   · show n - (i + 1 : Nat) < n - i; omega
  ·
   repeat refine c_seq ?_
   refine c_no (by exact congrArg Value.bool (decide_eq_false hc1)) ?_; refine c_exit ?_; repeat refine c_seq ?_
   refine c_region ?_; refine l_op (o_val r_mv ?_); refine l_op (o_val r_as ?_); refine l_op (o_val r_as ?_); first | refine l_end ?_ | refine l_nil ?_
   refine c_ret ?_; try dsimp only [Exit.then, Exit.inBlock]
   refine e_retN (vs := [V64 (nump s.l at_ i), VI 0]) _ Tryz.results86 rfl (resT (v := V64 (nump s.l at_ i)) rfl (resT (v := VI 0) rfl (resZ))) ?_
   refine ⟨_, rfl, ?_⟩
   have hin : i = n := by omega
   subst hin
   exact ⟨by rw [num, ← nump], H⟩
end Go.Proofs.YthigalfaanccnaaGreat
namespace Go.Proofs.YthigalfaanccnaaGreat
open Go
set_option maxRecDepth 100000
/-- an entry, as a world has it. -/
structure Ent where
  seq : Int
  tick : Int
  serial : UInt64
  tenant : List UInt8
  do_ : Int
  status : Int
  of_ : List UInt8
deriving DecidableEq
end Go.Proofs.YthigalfaanccnaaGreat
namespace Go.Proofs.YthigalfaanccnaaGreat
open Go
set_option maxRecDepth 100000
/-- 32 zeros. -/
def zId : Id32 := ⟨List.replicate 32 0, List.length_replicate⟩
structure Bl where
  of : Id32
  data : Sl
def blE (x : Bl) : List Value := (x.of.1).map V8 ++ (([x.data.v] : List Value))
theorem blE_len (x : Bl) : (blE x).length = 33 := by
  show ((x.of.1).map V8 ++ (([x.data.v] : List Value))).length = 33
  exact (by simp only [List.length_append, List.length_map, List.length_cons, List.length_nil, (show (x.of.1).length = 32 from x.of.2)])
theorem blE_all (x : Bl) : (blE x).all (·.oneCell') = true := by
  show ((x.of.1).map V8 ++ (([x.data.v] : List Value))).all (·.oneCell') = true
  simp only [List.all_append, List.all_cons, List.all_nil, List.all_map]; simp [Value.oneCell', Function.comp_def, Sl.v]
theorem blE_c1 (x : Bl) : Cut3 (blE x) ((x.of.1).map V8) (([x.data.v] : List Value)) (([] : List Value)) 32 1 :=
  ⟨by simp only [blE, List.append_nil], (by simp only [List.length_map, (show (x.of.1).length = 32 from x.of.2)]), (by rfl)⟩
structure Mf where
  root : Id32
  time : Int
  label : List UInt8
deriving DecidableEq
def mfE (x : Mf) : List Value := (x.root.1).map V8 ++ (([VI x.time, .string ⟨(x.label).toArray⟩] : List Value))
theorem mfE_len (x : Mf) : (mfE x).length = 34 := by
  show ((x.root.1).map V8 ++ (([VI x.time, .string ⟨(x.label).toArray⟩] : List Value))).length = 34
  exact (by simp only [List.length_append, List.length_map, List.length_cons, List.length_nil, (show (x.root.1).length = 32 from x.root.2)])
theorem mfE_all (x : Mf) : (mfE x).all (·.oneCell') = true := by
  show ((x.root.1).map V8 ++ (([VI x.time, .string ⟨(x.label).toArray⟩] : List Value))).all (·.oneCell') = true
  simp only [List.all_append, List.all_cons, List.all_nil, List.all_map]; simp [Value.oneCell', Function.comp_def]
theorem mfE_c0 (x : Mf) : Cut3 (mfE x) (([] : List Value)) ((x.root.1).map V8) (([VI x.time, .string ⟨(x.label).toArray⟩] : List Value)) 0 32 :=
  ⟨by simp only [mfE, List.nil_append], (by rfl), (by simp only [List.length_map, (show (x.root.1).length = 32 from x.root.2)])⟩
theorem mfE_c1 (x : Mf) : Cut3 (mfE x) ((x.root.1).map V8) (([VI x.time] : List Value)) (([.string ⟨(x.label).toArray⟩] : List Value)) 32 1 :=
  ⟨by simp only [mfE, List.cons_append, List.nil_append], (by simp only [List.length_map, (show (x.root.1).length = 32 from x.root.2)]), (by rfl)⟩
theorem mfE_c2 (x : Mf) : Cut3 (mfE x) ((x.root.1).map V8 ++ (([VI x.time] : List Value))) (([.string ⟨(x.label).toArray⟩] : List Value)) (([] : List Value)) 33 1 :=
  ⟨by simp only [mfE, List.append_assoc, List.cons_append, List.nil_append, List.append_nil], (by simp only [List.length_append, List.length_map, List.length_cons, List.length_nil, (show (x.root.1).length = 32 from x.root.2)]), (by rfl)⟩
structure Sn where
  number : Int
  mf : Mf
  doom : Int
def snE (x : Sn) : List Value := ([VI x.number] : List Value) ++ (mfE x.mf ++ (([VI x.doom] : List Value)))
theorem snE_len (x : Sn) : (snE x).length = 36 := by
  show (([VI x.number] : List Value) ++ (mfE x.mf ++ (([VI x.doom] : List Value)))).length = 36
  exact (by simp only [List.length_append, List.length_cons, List.length_nil, mfE_len])
theorem snE_all (x : Sn) : (snE x).all (·.oneCell') = true := by
  show (([VI x.number] : List Value) ++ (mfE x.mf ++ (([VI x.doom] : List Value)))).all (·.oneCell') = true
  simp only [List.all_append, List.all_cons, List.all_nil, mfE_all]; simp [Value.oneCell']
theorem snE_c1 (x : Sn) : Cut3 (snE x) (([VI x.number] : List Value)) (mfE x.mf) (([VI x.doom] : List Value)) 1 34 :=
  ⟨by simp only [snE, List.cons_append, List.nil_append], (by rfl), (by simp only [mfE_len])⟩
structure Dm where
  of : Id32
  doom : Int
deriving DecidableEq
def dmE (x : Dm) : List Value := (x.of.1).map V8 ++ (([VI x.doom] : List Value))
theorem dmE_len (x : Dm) : (dmE x).length = 33 := by
  show ((x.of.1).map V8 ++ (([VI x.doom] : List Value))).length = 33
  exact (by simp only [List.length_append, List.length_map, List.length_cons, List.length_nil, (show (x.of.1).length = 32 from x.of.2)])
structure Tn where
  name : List UInt8
  key : Id32
  quota : Int
  next : Int
  blobs : Gl Bl
  snaps : Gl Sn
  doomed : Gl Dm
def tnE (x : Tn) : List Value := ([.string ⟨(x.name).toArray⟩] : List Value) ++ ((x.key.1).map V8 ++ (([VI x.quota, VI x.next, x.blobs.v, x.snaps.v, x.doomed.v] : List Value)))
theorem tnE_len (x : Tn) : (tnE x).length = 38 := by
  show (([.string ⟨(x.name).toArray⟩] : List Value) ++ ((x.key.1).map V8 ++ (([VI x.quota, VI x.next, x.blobs.v, x.snaps.v, x.doomed.v] : List Value)))).length = 38
  exact (by simp only [List.length_append, List.length_map, List.length_cons, List.length_nil, (show (x.key.1).length = 32 from x.key.2)])
theorem tnE_c4 (x : Tn) : Cut3 (tnE x) (([.string ⟨(x.name).toArray⟩] : List Value) ++ ((x.key.1).map V8 ++ (([VI x.quota, VI x.next] : List Value)))) (([x.blobs.v] : List Value)) (([x.snaps.v, x.doomed.v] : List Value)) 35 1 :=
  ⟨by simp only [tnE, List.append_assoc, List.cons_append, List.nil_append], (by simp only [List.length_append, List.length_map, List.length_cons, List.length_nil, (show (x.key.1).length = 32 from x.key.2)]), (by rfl)⟩
theorem tnE_c5 (x : Tn) : Cut3 (tnE x) (([.string ⟨(x.name).toArray⟩] : List Value) ++ ((x.key.1).map V8 ++ (([VI x.quota, VI x.next, x.blobs.v] : List Value)))) (([x.snaps.v] : List Value)) (([x.doomed.v] : List Value)) 36 1 :=
  ⟨by simp only [tnE, List.append_assoc, List.cons_append, List.nil_append], (by simp only [List.length_append, List.length_map, List.length_cons, List.length_nil, (show (x.key.1).length = 32 from x.key.2)]), (by rfl)⟩
structure Sta where
  root : Id32
  delay : Int
  serial : UInt64
  tenants : Gl Tn
  revoked : Gl UInt64
  log : Gl Ent
  head : Id32
def staE (x : Sta) : List Value := (x.root.1).map V8 ++ (([VI x.delay, V64 x.serial, x.tenants.v, x.revoked.v, x.log.v] : List Value) ++ ((x.head.1).map V8))
theorem staE_len (x : Sta) : (staE x).length = 69 := by
  show ((x.root.1).map V8 ++ (([VI x.delay, V64 x.serial, x.tenants.v, x.revoked.v, x.log.v] : List Value) ++ ((x.head.1).map V8))).length = 69
  exact (by simp only [List.length_append, List.length_map, List.length_cons, List.length_nil, (show (x.root.1).length = 32 from x.root.2), (show (x.head.1).length = 32 from x.head.2)])
theorem staE_all (x : Sta) : (staE x).all (·.oneCell') = true := by
  show ((x.root.1).map V8 ++ (([VI x.delay, V64 x.serial, x.tenants.v, x.revoked.v, x.log.v] : List Value) ++ ((x.head.1).map V8))).all (·.oneCell') = true
  simp only [List.all_append, List.all_cons, List.all_nil, List.all_map]; simp [Value.oneCell', Function.comp_def, Gl.v]
theorem staE_c0 (x : Sta) : Cut3 (staE x) (([] : List Value)) ((x.root.1).map V8) (([VI x.delay, V64 x.serial, x.tenants.v, x.revoked.v, x.log.v] : List Value) ++ ((x.head.1).map V8)) 0 32 :=
  ⟨by simp only [staE, List.cons_append, List.nil_append], (by rfl), (by simp only [List.length_map, (show (x.root.1).length = 32 from x.root.2)])⟩
theorem staE_p0 (x : Sta) (v : Id32) : Put3 (staE x) (staE ⟨v, x.delay, x.serial, x.tenants, x.revoked, x.log, x.head⟩) ((x.root.1).map V8) ((v.1).map V8) 0 32 :=
  .of (staE_c0 x) (by simp only [staE, List.cons_append, List.nil_append]) (by simp only [List.length_map, (show (v.1).length = 32 from v.2)])
theorem staE_c1 (x : Sta) : Cut3 (staE x) ((x.root.1).map V8) (([VI x.delay] : List Value)) (([V64 x.serial, x.tenants.v, x.revoked.v, x.log.v] : List Value) ++ ((x.head.1).map V8)) 32 1 :=
  ⟨by simp only [staE, List.cons_append, List.nil_append], (by simp only [List.length_map, (show (x.root.1).length = 32 from x.root.2)]), (by rfl)⟩
theorem staE_p1 (x : Sta) (v : Int) : Put3 (staE x) (staE ⟨x.root, v, x.serial, x.tenants, x.revoked, x.log, x.head⟩) (([VI x.delay] : List Value)) (([VI v] : List Value)) 32 1 :=
  .of (staE_c1 x) (by simp only [staE, List.cons_append, List.nil_append]) (by rfl)
theorem staE_c2 (x : Sta) : Cut3 (staE x) ((x.root.1).map V8 ++ (([VI x.delay] : List Value))) (([V64 x.serial] : List Value)) (([x.tenants.v, x.revoked.v, x.log.v] : List Value) ++ ((x.head.1).map V8)) 33 1 :=
  ⟨by simp only [staE, List.append_assoc, List.cons_append, List.nil_append], (by simp only [List.length_append, List.length_map, List.length_cons, List.length_nil, (show (x.root.1).length = 32 from x.root.2)]), (by rfl)⟩
theorem staE_p2 (x : Sta) (v : UInt64) : Put3 (staE x) (staE ⟨x.root, x.delay, v, x.tenants, x.revoked, x.log, x.head⟩) (([V64 x.serial] : List Value)) (([V64 v] : List Value)) 33 1 :=
  .of (staE_c2 x) (by simp only [staE, List.append_assoc, List.cons_append, List.nil_append]) (by rfl)
theorem staE_c3 (x : Sta) : Cut3 (staE x) ((x.root.1).map V8 ++ (([VI x.delay, V64 x.serial] : List Value))) (([x.tenants.v] : List Value)) (([x.revoked.v, x.log.v] : List Value) ++ ((x.head.1).map V8)) 34 1 :=
  ⟨by simp only [staE, List.append_assoc, List.cons_append, List.nil_append], (by simp only [List.length_append, List.length_map, List.length_cons, List.length_nil, (show (x.root.1).length = 32 from x.root.2)]), (by rfl)⟩
theorem staE_c4 (x : Sta) : Cut3 (staE x) ((x.root.1).map V8 ++ (([VI x.delay, V64 x.serial, x.tenants.v] : List Value))) (([x.revoked.v] : List Value)) (([x.log.v] : List Value) ++ ((x.head.1).map V8)) 35 1 :=
  ⟨by simp only [staE, List.append_assoc, List.cons_append, List.nil_append], (by simp only [List.length_append, List.length_map, List.length_cons, List.length_nil, (show (x.root.1).length = 32 from x.root.2)]), (by rfl)⟩
theorem staE_c5 (x : Sta) : Cut3 (staE x) ((x.root.1).map V8 ++ (([VI x.delay, V64 x.serial, x.tenants.v, x.revoked.v] : List Value))) (([x.log.v] : List Value)) ((x.head.1).map V8) 36 1 :=
  ⟨by simp only [staE, List.append_assoc, List.cons_append, List.nil_append], (by simp only [List.length_append, List.length_map, List.length_cons, List.length_nil, (show (x.root.1).length = 32 from x.root.2)]), (by rfl)⟩
theorem staE_c6 (x : Sta) : Cut3 (staE x) ((x.root.1).map V8 ++ (([VI x.delay, V64 x.serial, x.tenants.v, x.revoked.v, x.log.v] : List Value))) ((x.head.1).map V8) (([] : List Value)) 37 32 :=
  ⟨by simp only [staE, List.append_assoc, List.cons_append, List.nil_append, List.append_nil], (by simp only [List.length_append, List.length_map, List.length_cons, List.length_nil, (show (x.root.1).length = 32 from x.root.2)]), (by simp only [List.length_map, (show (x.head.1).length = 32 from x.head.2)])⟩
theorem staE_p6 (x : Sta) (v : Id32) : Put3 (staE x) (staE ⟨x.root, x.delay, x.serial, x.tenants, x.revoked, x.log, v⟩) ((x.head.1).map V8) ((v.1).map V8) 37 32 :=
  .of (staE_c6 x) (by simp only [staE, List.append_assoc, List.cons_append, List.nil_append, List.append_nil]) (by simp only [List.length_map, (show (v.1).length = 32 from v.2)])
end Go.Proofs.YthigalfaanccnaaGreat
namespace Go.Proofs.YthigalfaanccnaaGreat
open Go Go.ChangeShapes Go.WideShapes Go.ChangeAt Go.RowKit Go.Deep Go.ChangeMaps
set_option maxRecDepth 100000
section
variable {H : Type} {enc : TypeId × Value → H} {W : World} {base : Nat} {spare : Nat → Bool} {held : Bool}
theorem Gl.ok_noneM {α : Type} {enc : α → List Value} {sz : Nat} (w : World) : (⟨none, 0, 0, []⟩ : Gl α).ok enc sz w := ⟨.inl rfl, rfl, Nat.le_refl _, Nat.zero_le _, fun c hc => (by cases hc)⟩
theorem open_aggM {v : Value} {cs : List Value} (h : v.cells.toList = cs) (hl : 1 < cs.length) : v = .agg cs.toArray := by
  cases v <;> simp only [Value.cells] at h <;> first | (subst h; simp at hl; done) | skip
  subst h; simp
theorem open_rowsM {P : Program} {α : Type} [Inhabited α] {p : α → Prop} {en : α → List Value} {sz : Nat} {t e : TypeId} {fuel : Nat} {cs : List Value} {x : DataW H × List MemPlace} (ht : P.underlying t = some (.slice e)) (hsz : P.cellsOf e = sz) (hz : 0 < sz)
    (hrow : ∀ (fuel : Nat) (cs : List Value) (x : DataW H × List MemPlace), DataW.trod enc P W base spare held fuel e cs = some x → ∃ c : α, cs = en c ∧ (en c).length = sz ∧ p c)
    (h : DataW.trod enc P W base spare held fuel t cs = some x) : ∃ g : Gl α, cs = [g.v] ∧ g.ok en sz W ∧ ∀ c ∈ g.l, p c := by
  rcases DataW.trod_slice ht h with ⟨rfl, _⟩ | ⟨a, len, cap, elems, rest, n, _, rfl, _, _, hl, hm, hlen, hel, _, _⟩
  · exact ⟨⟨none, 0, 0, []⟩, rfl, Gl.ok_noneM _, fun _ h => by cases h⟩
  · have hs : ∀ i, i < len → ∃ c : α, (∀ j v, (en c)[j]? = some v → W.cell? (a.add (i * sz + j)) = some v) ∧ (en c).length = sz ∧ p c := by
      intro i hi
      have h1 := hel i hi
      rw [List.getElem?_eq_getElem (by omega), hsz] at h1
      obtain ⟨cs, hcs, htr⟩ := Option.bind_eq_some_iff.1 h1
      obtain ⟨c, rfl, hc⟩ := hrow _ _ _ htr
      refine ⟨c, fun j v hv => ?_, hc⟩
      have hlt : j < sz := by rw [← hc.1]; exact (List.getElem?_eq_some_iff.1 hv).1
      obtain ⟨_, _, hq⟩ := World.cells?_some hcs
      have := hq j hlt
      rw [hv, Addr.add_add] at this
      exact this
    obtain ⟨F, hF⟩ := choose_lt (α := α) (p := fun i c => (∀ j v, (en c)[j]? = some v → W.cell? (a.add (i * sz + j)) = some v) ∧ (en c).length = sz ∧ p c) hs
    have hsz' : ∀ c ∈ (List.range len).map F, (en c).length = sz := by
      intro c hc
      simp only [List.mem_map, List.mem_range] at hc
      obtain ⟨i, hi, rfl⟩ := hc
      exact (hF i hi).2.1
    have hall : ∀ c ∈ (List.range len).map F, p c := by
      intro c hc
      simp only [List.mem_map, List.mem_range] at hc
      obtain ⟨i, hi, rfl⟩ := hc
      exact (hF i hi).2.2
    refine ⟨⟨some a, len, cap, (List.range len).map F⟩, rfl, ⟨rd_of_cells fun i v hv => ?_, by simp, hl, hm, hsz'⟩, hall⟩
    have hlt : i < len * sz := by
      have := (List.getElem?_eq_some_iff.1 hv).1
      rw [flat_len hsz'] at this; simpa using this
    have hq : i / sz < len := Nat.div_lt_of_lt_mul (by rw [Nat.mul_comm]; exact hlt)
    have hk : ((List.range len).map F)[i / sz]? = some (F (i / sz)) := by simp [hq]
    have hrow' := flat_at hsz' hk
    have hv' : (en (F (i / sz)))[i % sz]? = some v := by
      rw [← hrow', List.getElem?_take_of_lt (Nat.mod_lt _ hz), List.getElem?_drop, Nat.div_add_mod']
      exact hv
    have := (hF (i / sz) hq).1 _ _ hv'
    rwa [Nat.div_add_mod'] at this
instance : Inhabited Id32 := ⟨⟨List.replicate 32 0, List.length_replicate⟩⟩
instance : Inhabited Bl := ⟨⟨default, ⟨none, 0, 0, []⟩⟩⟩
instance : Inhabited Mf := ⟨⟨default, 0, []⟩⟩
instance : Inhabited Sn := ⟨⟨0, default, 0⟩⟩
instance : Inhabited Dm := ⟨⟨default, 0⟩⟩
def blP (x : Bl) (W : World) : Prop := (x.data.ok W)
theorem cells_blE : Tryz.prog.cellsOf 54 = 33 := by kernel_rfl
theorem trod_blE (fuel : Nat) (cs : List Value) (x : DataW H × List MemPlace) (h : DataW.trod enc Tryz.prog W base (fun _ => true) held fuel 54 cs = some x) :
    ∃ c : Bl, cs = blE c ∧ (blE c).length = 33 ∧ blP c W := by
  obtain ⟨xs, n, _, _, hl, hx, hi⟩ := DataW.trod_struct Tryz.underlying54 h
  rw [cells_blE] at hl
  have hs : ∀ i, i < 2 → ∃ y, xs[i]? = some y := fun i hi => ⟨_, List.getElem?_eq_getElem (by rw [hx]; exact hi)⟩
  obtain ⟨y0, e0⟩ := hs 0 (by decide)
  have h0 := (hi 0 _ rfl).trans e0
  obtain ⟨y1, e1⟩ := hs 1 (by decide)
  have h1 := (hi 1 _ rfl).trans e1
  have f0 : Tryz.prog.cellsOf 23 = 32 := by kernel_rfl
  obtain ⟨a0, q0, l0⟩ := trod_id h0
  replace q0 : (cs.drop 0).take (Tryz.prog.cellsOf 23) = _ := q0
  rw [f0] at q0
  have f1 : Tryz.prog.cellsOf 50 = 1 := by kernel_rfl
  obtain ⟨v1, hv1⟩ : ∃ v, (cs.drop 32).take 1 = [v] := by
    have hlen : ((cs.drop 32).take 1).length = 1 := by rw [List.length_take, List.length_drop]; omega
    exact List.length_eq_one_iff.1 hlen
  have r1 : (cs.drop 32).take (Tryz.prog.cellsOf 50) = [v1] := by rw [f1]; exact hv1
  obtain ⟨a1, ha1, p1⟩ := open_sl (v := v1) rfl (by rw [← r1]; exact h1)
  have q1 : (cs.drop 32).take 1 = [a1.v] := by rw [hv1, ha1]
  have s : ∀ k m k2 B, k + m = k2 → (cs.drop k).take m = B → cs.drop k = B ++ cs.drop k2 := fun k m k2 B h1 h2 => by rw [← h1, ← h2, ← List.drop_drop, List.take_append_drop]
  have z0 : cs.drop 33 = [] := List.drop_eq_nil_of_le (by omega)
  have z : cs.drop 0 = a0.map V8 ++ ([a1.v] ++ ([])) := by
    rw [s 0 32 32 _ rfl q0, s 32 1 33 _ rfl q1, z0]
  rw [List.drop_zero] at z
  refine ⟨⟨⟨a0, l0⟩, a1⟩, ?_, blE_len _, p1⟩
  rw [z]
  first | rfl | (simp only [blE, List.append_assoc, List.cons_append, List.nil_append, List.append_nil]; done)
def mfP (x : Mf) (_W : World) : Prop := (-9223372036854775808 ≤ x.time ∧ x.time ≤ 9223372036854775807)
theorem cells_mfE : Tryz.prog.cellsOf 31 = 34 := by kernel_rfl
theorem trod_mfE (fuel : Nat) (cs : List Value) (x : DataW H × List MemPlace) (h : DataW.trod enc Tryz.prog W base (fun _ => true) held fuel 31 cs = some x) :
    ∃ c : Mf, cs = mfE c ∧ (mfE c).length = 34 ∧ mfP c W := by
  obtain ⟨xs, n, _, _, hl, hx, hi⟩ := DataW.trod_struct Tryz.underlying31 h
  rw [cells_mfE] at hl
  have hs : ∀ i, i < 3 → ∃ y, xs[i]? = some y := fun i hi => ⟨_, List.getElem?_eq_getElem (by rw [hx]; exact hi)⟩
  obtain ⟨y0, e0⟩ := hs 0 (by decide)
  have h0 := (hi 0 _ rfl).trans e0
  obtain ⟨y1, e1⟩ := hs 1 (by decide)
  have h1 := (hi 1 _ rfl).trans e1
  obtain ⟨y2, e2⟩ := hs 2 (by decide)
  have h2 := (hi 2 _ rfl).trans e2
  have f0 : Tryz.prog.cellsOf 23 = 32 := by kernel_rfl
  obtain ⟨a0, q0, l0⟩ := trod_id h0
  replace q0 : (cs.drop 0).take (Tryz.prog.cellsOf 23) = _ := q0
  rw [f0] at q0
  have f1 : Tryz.prog.cellsOf 2 = 1 := by kernel_rfl
  obtain ⟨a1, q1, _, w1⟩ := DataW.trod_int (t := 2) (k := .i64) (by kernel_rfl) h1
  replace q1 : (cs.drop 32).take (Tryz.prog.cellsOf 2) = _ := q1
  rw [f1] at q1
  have b1 := bounds_i64 w1
  have f2 : Tryz.prog.cellsOf 9 = 1 := by kernel_rfl
  obtain ⟨a2, q2, _, _⟩ := DataW.trod_string (t := 9) (by kernel_rfl) h2
  replace q2 : (cs.drop 33).take (Tryz.prog.cellsOf 9) = _ := q2
  rw [f2] at q2
  have s : ∀ k m k2 B, k + m = k2 → (cs.drop k).take m = B → cs.drop k = B ++ cs.drop k2 := fun k m k2 B h1 h2 => by rw [← h1, ← h2, ← List.drop_drop, List.take_append_drop]
  have z0 : cs.drop 34 = [] := List.drop_eq_nil_of_le (by omega)
  have z : cs.drop 0 = a0.map V8 ++ ([VI a1] ++ ([.string a2] ++ ([]))) := by
    rw [s 0 32 32 _ rfl q0, s 32 1 33 _ rfl q1, s 33 1 34 _ rfl q2, z0]
  rw [List.drop_zero] at z
  refine ⟨⟨⟨a0, l0⟩, a1, a2.data.toList⟩, ?_, mfE_len _, ⟨b1.1, b1.2⟩⟩
  rw [z]
  first | rfl | (simp only [mfE, List.append_assoc, List.cons_append, List.nil_append, List.append_nil]; done)
def snP (x : Sn) (W : World) : Prop := (-9223372036854775808 ≤ x.number ∧ x.number ≤ 9223372036854775807) ∧ (mfP x.mf W) ∧ (-9223372036854775808 ≤ x.doom ∧ x.doom ≤ 9223372036854775807)
theorem cells_snE : Tryz.prog.cellsOf 33 = 36 := by kernel_rfl
theorem trod_snE (fuel : Nat) (cs : List Value) (x : DataW H × List MemPlace) (h : DataW.trod enc Tryz.prog W base (fun _ => true) held fuel 33 cs = some x) :
    ∃ c : Sn, cs = snE c ∧ (snE c).length = 36 ∧ snP c W := by
  obtain ⟨xs, n, _, _, hl, hx, hi⟩ := DataW.trod_struct Tryz.underlying33 h
  rw [cells_snE] at hl
  have hs : ∀ i, i < 3 → ∃ y, xs[i]? = some y := fun i hi => ⟨_, List.getElem?_eq_getElem (by rw [hx]; exact hi)⟩
  obtain ⟨y0, e0⟩ := hs 0 (by decide)
  have h0 := (hi 0 _ rfl).trans e0
  obtain ⟨y1, e1⟩ := hs 1 (by decide)
  have h1 := (hi 1 _ rfl).trans e1
  obtain ⟨y2, e2⟩ := hs 2 (by decide)
  have h2 := (hi 2 _ rfl).trans e2
  have f0 : Tryz.prog.cellsOf 2 = 1 := by kernel_rfl
  obtain ⟨a0, q0, _, w0⟩ := DataW.trod_int (t := 2) (k := .i64) (by kernel_rfl) h0
  replace q0 : (cs.drop 0).take (Tryz.prog.cellsOf 2) = _ := q0
  rw [f0] at q0
  have b0 := bounds_i64 w0
  have f1 : Tryz.prog.cellsOf 31 = 34 := by kernel_rfl
  obtain ⟨a1, q1, _, p1⟩ := trod_mfE _ _ _ h1
  replace q1 : (cs.drop 1).take (Tryz.prog.cellsOf 31) = _ := q1
  rw [f1] at q1
  have f2 : Tryz.prog.cellsOf 2 = 1 := by kernel_rfl
  obtain ⟨a2, q2, _, w2⟩ := DataW.trod_int (t := 2) (k := .i64) (by kernel_rfl) h2
  replace q2 : (cs.drop 35).take (Tryz.prog.cellsOf 2) = _ := q2
  rw [f2] at q2
  have b2 := bounds_i64 w2
  have s : ∀ k m k2 B, k + m = k2 → (cs.drop k).take m = B → cs.drop k = B ++ cs.drop k2 := fun k m k2 B h1 h2 => by rw [← h1, ← h2, ← List.drop_drop, List.take_append_drop]
  have z0 : cs.drop 36 = [] := List.drop_eq_nil_of_le (by omega)
  have z : cs.drop 0 = [VI a0] ++ (mfE a1 ++ ([VI a2] ++ ([]))) := by
    rw [s 0 1 1 _ rfl q0, s 1 34 35 _ rfl q1, s 35 1 36 _ rfl q2, z0]
  rw [List.drop_zero] at z
  refine ⟨⟨a0, a1, a2⟩, ?_, snE_len _, ⟨⟨b0.1, b0.2⟩, p1, ⟨b2.1, b2.2⟩⟩⟩
  rw [z]
  first | rfl | (simp only [snE, List.append_assoc, List.cons_append, List.nil_append, List.append_nil]; done)
def dmP (x : Dm) (_W : World) : Prop := (-9223372036854775808 ≤ x.doom ∧ x.doom ≤ 9223372036854775807)
theorem cells_dmE : Tryz.prog.cellsOf 86 = 33 := by kernel_rfl
theorem trod_dmE (fuel : Nat) (cs : List Value) (x : DataW H × List MemPlace) (h : DataW.trod enc Tryz.prog W base (fun _ => true) held fuel 86 cs = some x) :
    ∃ c : Dm, cs = dmE c ∧ (dmE c).length = 33 ∧ dmP c W := by
  obtain ⟨xs, n, _, _, hl, hx, hi⟩ := DataW.trod_struct Tryz.underlying86 h
  rw [cells_dmE] at hl
  have hs : ∀ i, i < 2 → ∃ y, xs[i]? = some y := fun i hi => ⟨_, List.getElem?_eq_getElem (by rw [hx]; exact hi)⟩
  obtain ⟨y0, e0⟩ := hs 0 (by decide)
  have h0 := (hi 0 _ rfl).trans e0
  obtain ⟨y1, e1⟩ := hs 1 (by decide)
  have h1 := (hi 1 _ rfl).trans e1
  have f0 : Tryz.prog.cellsOf 23 = 32 := by kernel_rfl
  obtain ⟨a0, q0, l0⟩ := trod_id h0
  replace q0 : (cs.drop 0).take (Tryz.prog.cellsOf 23) = _ := q0
  rw [f0] at q0
  have f1 : Tryz.prog.cellsOf 2 = 1 := by kernel_rfl
  obtain ⟨a1, q1, _, w1⟩ := DataW.trod_int (t := 2) (k := .i64) (by kernel_rfl) h1
  replace q1 : (cs.drop 32).take (Tryz.prog.cellsOf 2) = _ := q1
  rw [f1] at q1
  have b1 := bounds_i64 w1
  have s : ∀ k m k2 B, k + m = k2 → (cs.drop k).take m = B → cs.drop k = B ++ cs.drop k2 := fun k m k2 B h1 h2 => by rw [← h1, ← h2, ← List.drop_drop, List.take_append_drop]
  have z0 : cs.drop 33 = [] := List.drop_eq_nil_of_le (by omega)
  have z : cs.drop 0 = a0.map V8 ++ ([VI a1] ++ ([])) := by
    rw [s 0 32 32 _ rfl q0, s 32 1 33 _ rfl q1, z0]
  rw [List.drop_zero] at z
  refine ⟨⟨⟨a0, l0⟩, a1⟩, ?_, dmE_len _, ⟨b1.1, b1.2⟩⟩
  rw [z]
  first | rfl | (simp only [dmE, List.append_assoc, List.cons_append, List.nil_append, List.append_nil]; done)
def tnP (x : Tn) (W : World) : Prop := (-9223372036854775808 ≤ x.quota ∧ x.quota ≤ 9223372036854775807) ∧ (-9223372036854775808 ≤ x.next ∧ x.next ≤ 9223372036854775807) ∧ (x.blobs.ok blE 33 W ∧ ∀ c ∈ x.blobs.l, blP c W) ∧ (x.snaps.ok snE 36 W ∧ ∀ c ∈ x.snaps.l, snP c W) ∧ (x.doomed.ok dmE 33 W ∧ ∀ c ∈ x.doomed.l, dmP c W)
theorem cells_tnE : Tryz.prog.cellsOf 28 = 38 := by kernel_rfl
theorem trod_tnE (fuel : Nat) (cs : List Value) (x : DataW H × List MemPlace) (h : DataW.trod enc Tryz.prog W base (fun _ => true) held fuel 28 cs = some x) :
    ∃ c : Tn, cs = tnE c ∧ (tnE c).length = 38 ∧ tnP c W := by
  obtain ⟨xs, n, _, _, hl, hx, hi⟩ := DataW.trod_struct Tryz.underlying28 h
  rw [cells_tnE] at hl
  have hs : ∀ i, i < 7 → ∃ y, xs[i]? = some y := fun i hi => ⟨_, List.getElem?_eq_getElem (by rw [hx]; exact hi)⟩
  obtain ⟨y0, e0⟩ := hs 0 (by decide)
  have h0 := (hi 0 _ rfl).trans e0
  obtain ⟨y1, e1⟩ := hs 1 (by decide)
  have h1 := (hi 1 _ rfl).trans e1
  obtain ⟨y2, e2⟩ := hs 2 (by decide)
  have h2 := (hi 2 _ rfl).trans e2
  obtain ⟨y3, e3⟩ := hs 3 (by decide)
  have h3 := (hi 3 _ rfl).trans e3
  obtain ⟨y4, e4⟩ := hs 4 (by decide)
  have h4 := (hi 4 _ rfl).trans e4
  obtain ⟨y5, e5⟩ := hs 5 (by decide)
  have h5 := (hi 5 _ rfl).trans e5
  obtain ⟨y6, e6⟩ := hs 6 (by decide)
  have h6 := (hi 6 _ rfl).trans e6
  have f0 : Tryz.prog.cellsOf 9 = 1 := by kernel_rfl
  obtain ⟨a0, q0, _, _⟩ := DataW.trod_string (t := 9) (by kernel_rfl) h0
  replace q0 : (cs.drop 0).take (Tryz.prog.cellsOf 9) = _ := q0
  rw [f0] at q0
  have f1 : Tryz.prog.cellsOf 23 = 32 := by kernel_rfl
  obtain ⟨a1, q1, l1⟩ := trod_id h1
  replace q1 : (cs.drop 1).take (Tryz.prog.cellsOf 23) = _ := q1
  rw [f1] at q1
  have f2 : Tryz.prog.cellsOf 2 = 1 := by kernel_rfl
  obtain ⟨a2, q2, _, w2⟩ := DataW.trod_int (t := 2) (k := .i64) (by kernel_rfl) h2
  replace q2 : (cs.drop 33).take (Tryz.prog.cellsOf 2) = _ := q2
  rw [f2] at q2
  have b2 := bounds_i64 w2
  have f3 : Tryz.prog.cellsOf 2 = 1 := by kernel_rfl
  obtain ⟨a3, q3, _, w3⟩ := DataW.trod_int (t := 2) (k := .i64) (by kernel_rfl) h3
  replace q3 : (cs.drop 34).take (Tryz.prog.cellsOf 2) = _ := q3
  rw [f3] at q3
  have b3 := bounds_i64 w3
  have f4 : Tryz.prog.cellsOf 24 = 1 := by kernel_rfl
  obtain ⟨a4, q4, p4, r4⟩ := open_rowsM (p := fun c => blP c W) Tryz.underlying24 (by kernel_rfl) (by decide) trod_blE h4
  replace q4 : (cs.drop 35).take (Tryz.prog.cellsOf 24) = _ := q4
  rw [f4] at q4
  have f5 : Tryz.prog.cellsOf 25 = 1 := by kernel_rfl
  obtain ⟨a5, q5, p5, r5⟩ := open_rowsM (p := fun c => snP c W) Tryz.underlying25 (by kernel_rfl) (by decide) trod_snE h5
  replace q5 : (cs.drop 36).take (Tryz.prog.cellsOf 25) = _ := q5
  rw [f5] at q5
  have f6 : Tryz.prog.cellsOf 26 = 1 := by kernel_rfl
  obtain ⟨a6, q6, p6, r6⟩ := open_rowsM (p := fun c => dmP c W) Tryz.underlying26 (by kernel_rfl) (by decide) trod_dmE h6
  replace q6 : (cs.drop 37).take (Tryz.prog.cellsOf 26) = _ := q6
  rw [f6] at q6
  have s : ∀ k m k2 B, k + m = k2 → (cs.drop k).take m = B → cs.drop k = B ++ cs.drop k2 := fun k m k2 B h1 h2 => by rw [← h1, ← h2, ← List.drop_drop, List.take_append_drop]
  have z0 : cs.drop 38 = [] := List.drop_eq_nil_of_le (by omega)
  have z : cs.drop 0 = [.string a0] ++ (a1.map V8 ++ ([VI a2] ++ ([VI a3] ++ ([a4.v] ++ ([a5.v] ++ ([a6.v] ++ ([]))))))) := by
    rw [s 0 1 1 _ rfl q0, s 1 32 33 _ rfl q1, s 33 1 34 _ rfl q2, s 34 1 35 _ rfl q3, s 35 1 36 _ rfl q4, s 36 1 37 _ rfl q5, s 37 1 38 _ rfl q6, z0]
  rw [List.drop_zero] at z
  refine ⟨⟨a0.data.toList, ⟨a1, l1⟩, a2, a3, a4, a5, a6⟩, ?_, tnE_len _, ⟨⟨b2.1, b2.2⟩, ⟨b3.1, b3.2⟩, ⟨p4, r4⟩, ⟨p5, r5⟩, ⟨p6, r6⟩⟩⟩
  rw [z]
  first | rfl | (simp only [tnE, List.append_assoc, List.cons_append, List.nil_append, List.append_nil]; done)
theorem open_tnE {base0 : Nat} {v : Value} {d : DataW H} {p : List MemPlace} (_ : Value.okWide Tryz.prog W .any base0 28 v) (h : DataW.Trod enc Tryz.prog W base (fun _ => true) held 28 v d p) :
    ∃ c : Tn, v = .agg (tnE c).toArray ∧ tnP c W := by
  obtain ⟨fuel, hf⟩ := h
  obtain ⟨c, hc, hl, hp⟩ := trod_tnE _ _ _ hf
  exact ⟨c, open_aggM hc (by rw [tnE_len]; decide), hp⟩
end
end Go.Proofs.YthigalfaanccnaaGreat
