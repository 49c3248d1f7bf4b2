/- Lemmas for the statement AuditBack, part 2: rules of operations, walks through functions, plain laws. -/
import Derived.Test.YtjmbbhnpfmblpaaAuditBackG1
import Derived.Deep.Slices
import Derived.Laws.StructEq
import Derived.OpenShut
import Derived.ProofKit
import Derived.Test.YtjmbbhnpfmblpaaRows
namespace Go.Proofs.Ytjmbbhnpfmblpaa
open Go
set_option maxRecDepth 100000
theorem w_u64_p {a : Int} (h0 : 0 ≤ a) (h1 : a < 18446744073709551616) : IntKind.u64.wrap a = a := by rw [wrap_u64]; omega
/-- a byte of one's own written into a hash of one's own. -/
theorem write1 {w0 w : World} {S : List Nat} {L : List Ch} {b hb i : Nat} {s : HS} {x : UInt8} {T : TypeId} (H : Hp w0 w S (L ++ [.blk b [V8 x] T])) (hi : L[i]? = some (.blk hb (hashH s) 52)) (hwt : s.wt.length = 64) :
    Ret Try.prog 35 [.pointer (some ⟨hb, 0, none⟩), .slice (some ⟨b, 0, none⟩) 1 1] w fun v w' => v = .tuple #[] ∧ Hp w0 w' S (L.set i (.blk hb (hashH (absorb s [x])) 52)) := by
  have hlt : i < L.length := (List.getElem?_eq_some_iff.1 hi).1
  have hi' : (L ++ [Ch.blk b [V8 x] T])[i]? = some (.blk hb (hashH s) 52) := by rw [List.getElem?_append_left hlt]; exact hi
  have hb' : (Ch.blk b [V8 x] T).ok w := H.has _ (by simp)
  have hne : b ≠ hb := by
    intro e
    have := pw_ne H.nd (i := i) (j := L.length) (e := .blk b [V8 x] T) hi' (by simp) (by omega) (b := hb) rfl
    exact this (by rw [e]; rfl)
  refine (write_ret w hb s (some ⟨b, 0, none⟩) 1 1 [x] hwt (H.has _ (List.mem_of_getElem? hi')) (Ch.rd_all hb') rfl (Nat.le_refl _) (fun _ y hy => ?_) (by decide)).mono fun v w' ⟨hv, Hc⟩ => ⟨hv, ?_⟩
  · cases hy; simpa using hne
  · have := H.callAt hi' rfl rfl Hc
    rw [List.append_nil, List.set_append_left _ _ hlt] at this
    exact this.sub (List.sublist_append_left _ _)
theorem fill1 (z v : Value) (hv : v.oneCell' = true) : Instr.fill (fun i => some (i * 1, 1)) ((Array.range (1 * 1)).map (([z].toArray)[· % ([z].toArray).size]!)) [(0, v)] = some #[v] := by
  have : v.cells = #[v] := by cases v <;> simp_all [Value.cells, Value.oneCell']
  have e : Array.range (1 * 1) = #[0] := by decide
  rw [e]
  simp [Instr.fill, this, Array.zipIdx]
set_option maxHeartbeats 4000000 in
theorem sum_ret (w0 : World) (hb0 : Nat) (s : HS) (hwt : s.wt.length = 64) (hH : w0.heap[hb0]? = some (.cells (hashH s).toArray 52 (0, 0))) :
    Ret Try.prog 38 [.pointer (some ⟨hb0, 0, none⟩)] w0 fun v w' => v = .agg ((digest s).map V8).toArray ∧ Hp w0 w' [] [] := by
  refine ret_mk Try.func38 rfl Try.ntmps38 (by simp) ?_
  have H := Hp.start w0 (.blk hb0 (hashH s) 52) hb0 hH rfl
  repeat refine c_seq ?_
  refine c_region ?_
  refine l_op (o_alloc H zc31 (fun b2 w H hb2 => ?_))
  first | refine l_end ?_ | refine l_nil ?_
  repeat refine c_seq ?_
  refine c_region ?_
  refine l_op (o_alloc H zc31 (fun b3 w H hb3 => ?_))
  first | refine l_end ?_ | refine l_nil ?_
  repeat refine c_seq ?_
  refine c_region ?_
  refine l_op (o_mv ?_)
  refine l_op (o_callR Try.func104 rfl rfl rfl (none_at _ hb0 true _ _ (H.blk (i := 0) rfl) rfl) ?_)
  rintro _ w' ⟨rfl, hw⟩
  rw [hw]; clear hw w'
  first | refine l_end ?_ | refine l_nil ?_
  repeat refine c_seq ?_
  refine c_no rfl ?_
  refine c_skip ?_
  repeat refine c_seq ?_
  refine c_region ?_
  refine l_op (o_mv ?_)
  refine l_op (o_nilc rfl ?_)
  refine l_op (o_ldr H (i := 0) rfl rfl rt52 (by rw [hashH_len s hwt]; decide) ?_)
  rw [hashH_all s hwt]
  refine l_op (o_alloc H zc52 (fun b4 w H hb4 => ?_))
  refine l_op (o_stw H (i := 3) rfl rfl rfl (by rw [cs52]; simp [hashH_len s hwt]) (hashH_1 s) (by simp [hashH_len s hwt]) (fun w H => ?_))
  first | refine l_end ?_ | refine l_nil ?_
  repeat refine c_seq ?_
  refine c_region ?_
  refine l_op (o_mv ?_)
  refine l_op (o_nilc rfl ?_)
  refine l_op (o_fa rfl fo52_3 ?_)
  refine l_op (o_ld H (i := 0) rfl rfl ct35 (hashC_num _ _ _ hwt) ?_)
  refine l_op (o_shift rfl rfl (.inl rfl) (fun _ => b_shl_u64 (by decide) (by decide)) ?_)
  refine l_op (o_as ?_)
  first | refine l_end ?_ | refine l_nil ?_
  repeat refine c_seq ?_
  refine c_region ?_
  refine l_op (o_bsl H sl29 zc5 (by decide) rfl (by decide) (fill1 _ (V8 128) rfl) (fun b w H hb => ?_))
  refine l_op (o_callR Try.func35 rfl rfl rfl (write1 (x := 128) H (i := 3) rfl hwt) ?_)
  rintro _ w ⟨rfl, Hc⟩
  clear H
  have H := Hc; clear Hc
  first | refine l_end ?_ | refine l_nil ?_
  have e1 : s.m.toNat < 18446744073709551616 := u64_lt s.m
  repeat refine c_seq ?_
  refine c_block ?_
  refine c_loop (ι := Nat) (fun _ => [(5, V64 (s.m <<< 3)), (4, .pointer (some ⟨b4, 0, none⟩)), (3, .pointer (some ⟨b3, 0, none⟩)), (2, .pointer (some ⟨b2, 0, none⟩))])
    (fun j w => j ≤ zerosOf s.m ∧ Hp w0 w [hb0] [.blk hb0 (hashH s) 52, .blk b2 (List.replicate 32 (V8 0)) 31, .blk b3 (List.replicate 32 (V8 0)) 31, .blk b4 (hashH (absorb s (128 :: List.replicate j 0))) 52])
    (fun j => zerosOf s.m - j) 0 ⟨rfl, rfl, rfl, rfl, trivial⟩ ⟨Nat.zero_le _, H⟩ ?_
  clear H
  rintro j τ w ⟨hj, H⟩
  have hcw : (absorb s (128 :: List.replicate j 0)).wt.length = 64 := by rw [absorb_wt, hwt]
  have hcm : (absorb s (128 :: List.replicate j 0)).m.toNat % 64 = (s.m.toNat + 1 + j) % 64 := by
    rw [absorb_m, UInt64.toNat_add, UInt64.toNat_ofNat', List.length_cons, List.length_replicate]; omega
  repeat refine c_seq ?_
  refine c_region ?_
  refine l_op (o_fa rfl fo52_3 ?_)
  refine l_op (o_ld H (i := 3) rfl rfl ct35 (hashC_num _ _ _ hcw) ?_)
  refine l_op (o_bin rfl rfl (fun _ => b_rem (by omega) (by omega)) ?_)
  refine l_op (o_bin rfl rfl (fun _ => b_neq) ?_)
  first | refine l_end ?_ | refine l_nil ?_
  repeat refine c_seq ?_
  refine c_ifD rfl (fun hne => ?_) (fun hne => ?_)
  · have hjz : j < zerosOf s.m := by
      simp only [zerosOf] at hj ⊢
      omega
    clear hcm hne
    generalize hc : absorb s (128 :: List.replicate j 0) = c at H hcw
    refine c_skip ?_
    repeat refine c_seq ?_
    refine c_block ?_
    repeat refine c_seq ?_
    refine c_region ?_
    refine l_op (o_bsl H sl29 zc5 (by decide) rfl (by decide) (fill1 _ (V8 0) rfl) (fun b w H hb => ?_))
    refine l_op (o_callR Try.func35 rfl rfl rfl (write1 (x := 0) H (i := 3) rfl hcw) ?_)
    rintro _ w ⟨rfl, Hc⟩
    clear H
    have H := Hc; clear Hc
    first | refine l_end ?_ | refine l_nil ?_
    refine round_end (j + 1) ?_ ?_ ?_
    · exact ⟨rfl, rfl, rfl, rfl, trivial⟩
    · refine ⟨hjz, ?_⟩
      have e : absorb s (128 :: List.replicate (j + 1) 0) = absorb c [0] := by
        rw [List.replicate_succ', ← hc, ← absorb_append]; rfl
      rw [e]; exact H
    · show zerosOf s.m - (j + 1) < zerosOf s.m - j; omega
  · have hjz : j = zerosOf s.m := by
      simp only [zerosOf] at hj ⊢
      omega
    subst hjz
    clear hcm hne hj hcw
    refine c_exit ?_
    repeat refine c_seq ?_
    refine c_region ?_
    refine l_op (o_mv ?_)
    first | refine l_end ?_ | refine l_nil ?_
    repeat refine c_seq ?_
    refine c_block ?_
    refine c_loop (ι := Nat) (fun i => [(29, VI i), (5, V64 (s.m <<< 3)), (4, .pointer (some ⟨b4, 0, none⟩)), (3, .pointer (some ⟨b3, 0, none⟩)), (2, .pointer (some ⟨b2, 0, none⟩))])
      (fun i w => i ≤ 8 ∧ Hp w0 w [hb0] [.blk hb0 (hashH s) 52, .blk b2 (List.replicate 32 (V8 0)) 31, .blk b3 (List.replicate 32 (V8 0)) 31, .blk b4 (hashH (absorb s (128 :: (List.replicate (zerosOf s.m) 0 ++ (lenBytes s.m).take i)))) 52])
      (fun i => 8 - i) 0 ⟨rfl, rfl, rfl, rfl, rfl, trivial⟩ ⟨by omega, by rw [List.take_zero, List.append_nil]; exact H⟩ ?_
    clear H
    rintro i τ w ⟨hi, H⟩
    have hcw : (absorb s (128 :: (List.replicate (zerosOf s.m) 0 ++ (lenBytes s.m).take i))).wt.length = 64 := by rw [absorb_wt, hwt]
    repeat refine c_seq ?_
    refine c_region ?_
    refine l_op (o_bin rfl rfl (fun _ => b_lss) ?_)
    first | refine l_end ?_ | refine l_nil ?_
    repeat refine c_seq ?_
    refine c_ifD rfl (fun hlt => ?_) (fun hlt => ?_)
    · have hlt' : i < 8 := by omega
      generalize hc : absorb s (128 :: (List.replicate (zerosOf s.m) 0 ++ (lenBytes s.m).take i)) = c at H hcw
      have e2 : (56 - 8 * (i : Int)).toNat = 56 - 8 * i := by omega
      refine c_skip ?_
      repeat refine c_seq ?_
      refine c_block ?_
      repeat refine c_seq ?_
      refine c_region ?_
      refine l_op (o_mv ?_)
      refine l_op (o_as ?_)
      first | refine l_end ?_ | refine l_nil ?_
      repeat refine c_seq ?_
      refine c_region ?_
      refine l_op (o_mv ?_)
      refine l_op (o_mv ?_)
      refine l_op (o_bin rfl rfl (fun _ => b_mul (by omega) (by omega)) ?_)
      refine l_op (o_bin rfl rfl (fun _ => b_sub (by omega) (by omega)) ?_)
      refine l_op (o_conv Try.underlying3 Try.underlying118 rfl (w_u64_p (a := 56 - 8 * (i : Int)) (by omega) (by omega)) ?_)
      refine l_op (o_shift rfl rfl (.inr rfl) (fun _ => b_shr_u64 (by omega) (by omega)) ?_)
      rw [e2]
      refine l_op (o_conv Try.underlying35 Try.underlying5 rfl (w_u8_64 _) ?_)
      refine l_op (o_bsl H sl29 zc5 (by decide) rfl (by decide) (fill1 _ (V8 (((s.m <<< 3) >>> UInt64.ofNat (56 - 8 * i)).toUInt8)) rfl) (fun b w H hb => ?_))
      refine l_op (o_callR Try.func35 rfl rfl rfl (write1 (x := ((s.m <<< 3) >>> UInt64.ofNat (56 - 8 * i)).toUInt8) H (i := 3) rfl hcw) ?_)
      rintro _ w ⟨rfl, Hc⟩
      clear H
      have H := Hc; clear Hc
      first | refine l_end ?_ | refine l_nil ?_
      repeat refine c_seq ?_
      refine c_region ?_
      refine l_op (o_bin rfl rfl (fun _ => b_add (by omega) (by omega)) ?_)
      refine l_op (o_mv ?_)
      first | refine l_end ?_ | refine l_nil ?_
      refine round_end (i + 1) ?_ ?_ ?_
      · exact ⟨rfl, rfl, rfl, rfl, rfl, trivial⟩
      · refine ⟨hlt', ?_⟩
        have e : absorb s (128 :: (List.replicate (zerosOf s.m) 0 ++ (lenBytes s.m).take (i + 1))) = absorb c [((s.m <<< 3) >>> UInt64.ofNat (56 - 8 * i)).toUInt8] := by
          rw [lenBytes_succ s.m i hlt', ← hc, ← absorb_append, ← List.append_assoc]; rfl
        rw [e]; exact H
      · show 8 - (i + 1) < 8 - i; omega
    · have hi8 : i = 8 := by omega
      subst hi8
      have hcl : absorb s (128 :: (List.replicate (zerosOf s.m) 0 ++ (lenBytes s.m).take 8)) = closed s := by
        rw [List.take_of_length_le (Nat.le_of_eq (lenBytes_length _)), closed, tailOf]
      rw [hcl] at H hcw
      have hdg : digest s = wordBytes (closed s).st.l := rfl
      rw [hdg]
      generalize closed s = c at H hcw
      have hl8 : c.st.l.length = 8 := rfl
      have hld : ((hashH c).drop (0 + 1)).take 8 = c.st.l.map V32 := rfl
      refine c_exit ?_
      repeat refine c_seq ?_
      refine c_region ?_
      refine l_op (o_fa rfl fo52_1 ?_)
      refine l_op (o_ldr H (i := 3) rfl rfl rt49 (by rw [hashH_len c hcw]; decide) ?_)
      rw [hld]
      refine l_op (o_mv ?_)
      first | refine l_end ?_ | refine l_nil ?_
      generalize c.st.l = l at hl8
      have hW := wordBytes_length l
      repeat refine c_seq ?_
      refine c_block ?_
      refine c_loop (ι := Nat) (fun i => [(44, VI i), (43, .agg (l.map V32).toArray), (3, .pointer (some ⟨b3, 0, none⟩)), (2, .pointer (some ⟨b2, 0, none⟩))])
        (fun i w => i ≤ 8 ∧ Hp w0 w [hb0] [.blk hb0 (hashH s) 52, .blk b2 (List.replicate 32 (V8 0)) 31, .blk b3 (pad8 (wordBytes l) (4 * i) 32) 31])
        (fun i => 8 - i) 0 ⟨rfl, rfl, rfl, rfl, trivial⟩ ⟨by omega, by rw [pad8_zero]; exact H.sub (List.sublist_append_left _ [_])⟩ ?_
      clear H
      rintro i τ w ⟨hi, H⟩
      repeat refine c_seq ?_
      refine c_region ?_
      refine l_op (o_bin rfl rfl (fun _ => b_lss) ?_)
      first | refine l_end ?_ | refine l_nil ?_
      repeat refine c_seq ?_
      refine c_ifD rfl (fun hlt => ?_) (fun hlt => ?_)
      · have hlt' : i < 8 := by omega
        have hgi : (l.map V32).toArray[(i : Int).toNat]? = some (V32 (l.getD i 0)) := by
          have : i < l.length := by omega
          simp [this]
        refine c_skip ?_
        repeat refine c_seq ?_
        refine c_block ?_
        repeat refine c_seq ?_
        refine c_region ?_
        refine l_op (o_mv ?_)
        refine l_op (o_idxa (sz := 1) Try.underlying49 ct48 cs48 rfl rfl (by omega) (by omega) hgi ?_)
        refine l_op (o_as ?_)
        refine l_op (o_as ?_)
        first | refine l_end ?_ | refine l_nil ?_
        repeat refine c_seq ?_
        refine c_region ?_
        refine l_op (o_mv ?_)
        first | refine l_end ?_ | refine l_nil ?_
        repeat refine c_seq ?_
        refine c_block ?_
        refine c_loop (ι := Nat) (fun k => [(48, VI k), (44, VI i), (7, VI i), (8, V32 (l.getD i 0)), (43, .agg (l.map V32).toArray), (3, .pointer (some ⟨b3, 0, none⟩)), (2, .pointer (some ⟨b2, 0, none⟩))])
          (fun k w => k ≤ 4 ∧ Hp w0 w [hb0] [.blk hb0 (hashH s) 52, .blk b2 (List.replicate 32 (V8 0)) 31, .blk b3 (pad8 (wordBytes l) (4 * i + k) 32) 31])
          (fun k => 4 - k) 0 ⟨rfl, rfl, rfl, rfl, rfl, rfl, rfl, trivial⟩ ⟨by omega, H⟩ ?_
        clear H
        rintro k τ w ⟨hk, H⟩
        repeat refine c_seq ?_
        refine c_region ?_
        refine l_op (o_bin rfl rfl (fun _ => b_lss) ?_)
        first | refine l_end ?_ | refine l_nil ?_
        repeat refine c_seq ?_
        refine c_ifD rfl (fun hlk => ?_) (fun hlk => ?_)
        · have hlk' : k < 4 := by omega
          have e2 : (24 - 8 * (k : Int)).toNat = 24 - 8 * k := by omega
          have e3 : 0 + (4 * (i : Int) + (k : Int)).toNat * 1 = 4 * i + k := by omega
          have e4 := pad8_set (wordBytes l) (4 * i + k) 32 hW (by omega) _ (wordBytes_get l i k hlt' hlk')
          refine c_skip ?_
          repeat refine c_seq ?_
          refine c_block ?_
          repeat refine c_seq ?_
          refine c_region ?_
          refine l_op (o_mv ?_)
          refine l_op (o_as ?_)
          first | refine l_end ?_ | refine l_nil ?_
          repeat refine c_seq ?_
          refine c_region ?_
          refine l_op (o_mv ?_)
          refine l_op (o_bin rfl rfl (fun _ => b_mul (by omega) (by omega)) ?_)
          refine l_op (o_mv ?_)
          refine l_op (o_bin rfl rfl (fun _ => b_add (by omega) (by omega)) ?_)
          refine l_op (o_mv ?_)
          refine l_op (o_mv ?_)
          refine l_op (o_bin rfl rfl (fun _ => b_mul (by omega) (by omega)) ?_)
          refine l_op (o_bin rfl rfl (fun _ => b_sub (by omega) (by omega)) ?_)
          refine l_op (o_conv Try.underlying3 Try.underlying118 rfl (w_u64_p (a := 24 - 8 * (k : Int)) (by omega) (by omega)) ?_)
          refine l_op (o_shift rfl rfl (.inr rfl) (fun _ => b_shr_u32 (by omega) (by omega)) ?_)
          rw [e2]
          refine l_op (o_conv Try.underlying48 Try.underlying5 rfl (w_u8_32 _) ?_)
          refine l_op (o_ia rfl rfl ar31 (by omega) (by omega) ?_)
          refine l_op (o_st H (i := 2) (v := V8 ((l.getD i 0) >>> UInt32.ofNat (24 - 8 * k)).toUInt8) rfl rfl rfl cs5 rfl (by rw [pad8_length _ _ _ hW (by omega)]; omega) (fun w H => ?_))
          first | refine l_end ?_ | refine l_nil ?_
          rw [e3, e4] at H
          repeat refine c_seq ?_
          refine c_region ?_
          refine l_op (o_bin rfl rfl (fun _ => b_add (by omega) (by omega)) ?_)
          refine l_op (o_mv ?_)
          first | refine l_end ?_ | refine l_nil ?_
          refine round_end (k + 1) ?_ ?_ ?_
          · exact ⟨rfl, rfl, rfl, rfl, rfl, rfl, rfl, trivial⟩
          · exact ⟨hlk', H⟩
          · show 4 - (k + 1) < 4 - k; omega
        · have hk4 : k = 4 := by omega
          subst hk4
          refine c_exit ?_
          repeat refine c_seq ?_
          refine c_region ?_
          refine l_op (o_bin rfl rfl (fun _ => b_add (by omega) (by omega)) ?_)
          refine l_op (o_mv ?_)
          first | refine l_end ?_ | refine l_nil ?_
          refine round_end (i + 1) ?_ ?_ ?_
          · exact ⟨rfl, rfl, rfl, rfl, trivial⟩
          · exact ⟨hlt', H⟩
          · show 8 - (i + 1) < 8 - i; omega
      · have hi8 : i = 8 := by omega
        subst hi8
        rw [pad8_all _ _ hW] at H
        have hWa : ((wordBytes l).map V8).toArray.all (·.oneCell') = true := by rw [List.all_toArray]; simp [Value.oneCell']
        have hWt : (((wordBytes l).map V8).drop 0).take 32 = (wordBytes l).map V8 := by rw [List.drop_zero, List.take_of_length_le (by simp [hW])]
        refine c_exit ?_
        repeat refine c_seq ?_
        refine c_region ?_
        refine l_op (o_ldr H (i := 2) rfl rfl rt31 (by simp [hW]) ?_)
        rw [hWt]
        refine l_op (o_stw H (i := 1) rfl rfl rfl (by rw [cs31]; simp [hW]) hWa (by simp [hW]) (fun w H => ?_))
        first | refine l_end ?_ | refine l_nil ?_
        refine c_ret (e_retc Try.results38 H (i := 1) rfl rfl rt31 (by simp [hW]) ⟨_, rfl, rfl, ?_⟩)
        exact (H.unS hH).sub (List.nil_sublist _)
end Go.Proofs.Ytjmbbhnpfmblpaa
namespace Go.Proofs.Ytjmbbhnpfmblpaa
open Go
set_option maxRecDepth 100000
section
variable {P : Program} {Q : Exit → Act → World → Prop} {n : Nat} {σ : Nat → Value} {w w0 : World} {K : Act → World → Prop}
  {ty : TypeId} {pos : String} {aft : Array Edge} {g : Option (Nat × Bool)} {d : Nat} {t : TypeId} {x : Operand} {S : List Nat} {L : List Ch}
/-- a row that was written out as a constant text: marked. -/
def litO (C : List Value) (e : TypeId) : Obj := .cells C.toArray e (C.length, C.length + 1)
theorem o_lit {b i len cap : Nat} {C : List Value} {e : TypeId} (H : Hp w0 w S L) (hi : L[i]? = some (.blk b C e)) (hu : P.underlying t = some (.slice e)) (he : P.underlying e = some (.int .u8)) (hx : ev n σ x = .slice (some ⟨b, 0, none⟩) len cap)
    (h : ∀ w', Hp w0 w' S (L.set i (.obj b (litO C e))) → K (mk n (up σ d (.slice (some ⟨b, 0, none⟩) len cap))) w') :
    Oper.wp P ⟨some d, .convert t t x, ty, pos, aft, g⟩ (mk n σ) w K Q := by
  have hb := H.blk hi
  have hlt : b < w.heap.size := (Array.getElem?_eq_some_iff.1 hb).1
  have hsh : w.shape? b = some (e, C.length) := by simp [World.shape?, hb]
  refine o_val (v := .slice (some ⟨b, 0, none⟩) len cap) (w' := w.freeze ⟨b, C.length, none⟩ 1) ?_ (h _ ?_)
  · simp only [execOp, hx, Sem.run_bind, convert, run_underlying hu, Result.andThen_ok]
    simp [run_underlying he, markStringish, hsh]
  · have hf : ∀ k, (w.freeze ⟨b, C.length, none⟩ 1).heap[k]? = if b = k then some (litO C e) else w.heap[k]? := by
      intro k
      unfold World.freeze
      rw [if_neg (by decide)]
      simp only [Array.getElem?_modify]
      split
      · rename_i hk; subst hk
        rw [hb]; simp [litO]
      · rfl
    refine H.turn hi (c' := .obj b (litO C e)) ?_ (fun b' hb' => .inl hb') rfl rfl rfl ?_ (fun b' _ hne => ?_)
    · simp only [Ch.ok]; rw [hf, if_pos rfl]
    · unfold World.freeze; rw [if_neg (by decide)]; simp
    · rw [hf, if_neg]; intro e'; exact hne (by rw [e']; rfl)
theorem Ch.rd_lit {b : Nat} {C : List Value} {e : TypeId} {w : World} (h : (Ch.obj b (litO C e)).ok w) : RdS w (some ⟨b, 0, none⟩) C :=
  .inr ⟨b, 0, _, e, _, rfl, h, fun i v hv => by simpa using hv⟩
end
/-- a slice of bytes as a world has it. -/
structure Sl where
  a : Option Addr
  len : Nat
  cap : Nat
  l : List UInt8
def Sl.v (s : Sl) : Value := .slice s.a s.len s.cap
structure Sl.ok (s : Sl) (w : World) : Prop where
  rd : RdS w s.a (s.l.map V8)
  ln : s.l.length = s.len
  le : s.len ≤ s.cap
  mx : s.len ≤ 9223372036854775807
theorem Hp.rd' {w0 w : World} {S : List Nat} {L : List Ch} (h : Hp w0 w S L) {a : Option Addr} {vs : List Value} (hr : RdS w0 a vs) (hap : vs ≠ [] → Apart a S) : RdS w a vs := by
  by_cases hv : vs = []
  · exact .inl hv
  · exact h.rd hr (hap hv)
theorem Sl.ok.up {x : Sl} {w0 w : World} {S : List Nat} {L : List Ch} (hx : x.ok w0) (H : Hp w0 w S L) (hap : x.l ≠ [] → Apart x.a S) : x.ok w :=
  ⟨H.rd' hx.rd (fun h => hap (by simpa using h)), hx.ln, hx.le, hx.mx⟩
theorem Sl.ok.apart {x : Sl} {w0 : World} (hx : x.ok w0) {b : Nat} (hb : w0.heap.size ≤ b) : x.l ≠ [] → Apart x.a [b] := by
  intro hne y hy
  rcases hx.rd with h | ⟨b', o, C, T, fr, ha, hh, _⟩
  · exact absurd (by simpa using h) hne
  · rw [ha] at hy
    cases hy
    have := (Array.getElem?_eq_some_iff.1 hh).1
    simp only [List.mem_singleton]; omega
theorem Hp.newer {w0 w : World} {L : List Ch} (H : Hp w0 w [] L) {i b : Nat} {c : Ch} (hi : L[i]? = some c) (hk : c.key = some b) : w0.heap.size ≤ b := by
  rcases H.fresh c (List.mem_of_getElem? hi) b hk with h | h
  · simp at h
  · exact h
def cat (ps : List Sl) : List UInt8 := ps.flatMap (·.l)
theorem cat_succ (ps : List Sl) (i : Nat) (p : Sl) (h : ps[i]? = some p) : cat (ps.take (i + 1)) = cat (ps.take i) ++ p.l := by
  rw [List.take_add_one, h]; simp [cat]
/-- a write into a hash of one's own, of what was there ahead. -/
theorem writeS {w0 w : World} {S : List Nat} {L : List Ch} {hb i : Nat} {s : HS} {x : Sl} (H : Hp w0 w S L) (hi : L[i]? = some (.blk hb (hashH s) 52)) (hwt : s.wt.length = 64) (hx : x.ok w) (hap : x.l ≠ [] → Apart x.a [hb]) :
    Ret Try.prog 35 [.pointer (some ⟨hb, 0, none⟩), x.v] w fun v w' => v = .tuple #[] ∧ Hp w0 w' S (L.set i (.blk hb (hashH (absorb s x.l)) 52)) := by
  refine (write_ret w hb s x.a x.len x.cap x.l hwt (H.has _ (List.mem_of_getElem? hi)) hx.rd hx.ln hx.le hap hx.mx).mono fun v w' ⟨hv, Hc⟩ => ⟨hv, ?_⟩
  have := H.callAt hi rfl rfl Hc
  rw [List.append_nil] at this
  exact this
theorem initH : hashC initS (List.replicate 64 0) 0 = hashH HS.init := rfl
theorem absorb64 (l : List UInt8) : (absorb HS.init l).wt.length = 64 := by rw [absorb_wt]; rfl
theorem of_ret (w0 : World) (pa : Option Addr) (len cap : Nat) (ps : List Sl) (hr : RdS w0 pa (ps.map Sl.v)) (hl : ps.length = len) (hok : ∀ p ∈ ps, p.ok w0) (hmx : len < 9223372036854775807) :
    Ret Try.prog 37 [.slice pa len cap] w0 fun v w' => v = .agg ((digest (absorb HS.init (cat ps))).map V8).toArray ∧ Hp w0 w' [] [] := by
  refine ret_mk Try.func37 rfl Try.ntmps37 (by simp) ?_
  have H := Hp.refl w0 []
  repeat refine c_seq ?_
  refine c_region ?_
  refine l_op (o_alloc H zc31 (fun b2 w H hb2 => ?_))
  first | refine l_end ?_ | refine l_nil ?_
  repeat refine c_seq ?_
  refine c_region ?_
  refine l_op (o_callR Try.func34 rfl rfl rfl (new_ret _) ?_)
  rintro _ w ⟨hb, rfl, Hc⟩
  replace H := H.call Hc
  rw [initH] at H
  clear Hc
  refine l_op (o_as ?_)
  first | refine l_end ?_ | refine l_nil ?_
  repeat refine c_seq ?_
  refine c_region ?_
  refine l_op (o_mv ?_)
  refine l_op (o_lens el22 rfl ?_)
  refine l_op (o_mv ?_)
  first | refine l_end ?_ | refine l_nil ?_
  repeat refine c_seq ?_
  refine c_block ?_
  refine c_loop (ι := Nat) (fun i => [(9, VI i), (8, VI len), (7, .slice pa len cap), (3, .pointer (some ⟨hb, 0, none⟩)), (2, .pointer (some ⟨b2, 0, none⟩))])
    (fun i w => i ≤ len ∧ Hp w0 w [] [.blk b2 (List.replicate 32 (V8 0)) 31, .blk hb (hashH (absorb HS.init (cat (ps.take i)))) 52])
    (fun i => len - i) 0 ⟨rfl, rfl, rfl, rfl, rfl, trivial⟩ ⟨by omega, H⟩ ?_
  clear H
  rintro i τ w ⟨hi, H⟩
  repeat refine c_seq ?_
  refine c_region ?_
  refine l_op (o_bin rfl rfl (fun _ => b_lss) ?_)
  first | refine l_end ?_ | refine l_nil ?_
  repeat refine c_seq ?_
  refine c_ifD rfl (fun hlt => ?_) (fun hlt => ?_)
  · have hlt' : i < len := by omega
    have hgi : ps[i]? = some (ps[i]'(by omega)) := List.getElem?_eq_getElem _
    generalize (ps[i]'(by omega)) = p at hgi
    have hp := hok p (List.mem_of_getElem? hgi)
    have hv : (ps.map Sl.v)[(i : Int).toNat * 1]? = some p.v := by simp [hgi]
    refine c_skip ?_
    repeat refine c_seq ?_
    refine c_block ?_
    repeat refine c_seq ?_
    refine c_region ?_
    refine l_op (o_is rfl rfl el22 (by omega) (by omega) (by decide) (H.rd hr (apart_nil _)) (by simp [hl]) (fun b o ha => ?_))
    refine l_op (o_lds (H.rd hr (apart_nil _)) ha rfl ct29 hv ?_)
    refine l_op (o_as ?_)
    first | refine l_end ?_ | refine l_nil ?_
    repeat refine c_seq ?_
    refine c_region ?_
    refine l_op (o_mv ?_)
    refine l_op (o_mv ?_)
    refine l_op (o_callR Try.func35 rfl rfl rfl (writeS H (i := 1) rfl (absorb64 _) (hp.up H (fun _ => apart_nil _)) (hp.apart (H.newer (i := 1) rfl rfl))) ?_)
    rintro _ w ⟨rfl, Hc⟩
    clear H
    have H := Hc; clear Hc
    rw [← absorb_append, ← cat_succ ps i p hgi] at H
    first | refine l_end ?_ | refine l_nil ?_
    repeat refine c_seq ?_
    refine c_region ?_
    refine l_op (o_bin rfl rfl (fun _ => b_add (by omega) (by omega)) ?_)
    refine l_op (o_mv ?_)
    first | refine l_end ?_ | refine l_nil ?_
    refine round_end (i + 1) ?_ ?_ ?_
    · exact ⟨rfl, rfl, rfl, rfl, rfl, trivial⟩
    · exact ⟨hlt', H⟩
    · show len - (i + 1) < len - i; omega
  · have hi' : i = len := by omega
    subst hi'
    rw [List.take_of_length_le (Nat.le_of_eq hl)] at H
    have hd := digest_length (absorb HS.init (cat ps))
    refine c_exit ?_
    repeat refine c_seq ?_
    refine c_region ?_
    refine l_op (o_mv ?_)
    refine l_op (o_callR Try.func38 rfl rfl rfl (sum_ret _ hb _ (absorb64 _) (H.blk (i := 1) rfl)) ?_)
    rintro _ w ⟨rfl, Hc⟩
    replace H := H.call Hc
    rw [List.append_nil] at H
    refine l_op (o_stw H (i := 0) rfl rfl rfl (by rw [cs31]; simp [hd]) (by rw [List.all_toArray]; simp [Value.oneCell']) (by simp [hd]) (fun w H => ?_))
    first | refine l_end ?_ | refine l_nil ?_
    refine c_ret (e_retc Try.results37 H (i := 0) rfl rfl rt31 (by simp [hd]) ⟨_, rfl, rfl, ?_⟩)
    exact H.sub (List.nil_sublist _)
end Go.Proofs.Ytjmbbhnpfmblpaa
namespace Go.Proofs.Ytjmbbhnpfmblpaa
open Go Go.ChangeShapes Go.WideShapes Go.ChangeAt Go.RowKit
theorem Try.own : ownKnob Try.prog.godebug = none := by kernel_rfl
theorem Try.laidOut : laidOutB Try.prog = true := by kernel_rfl
section
variable {H : Type} {enc : TypeId × Value → H} {P : Program}
theorem trodAll_stays (hl : laidOutB P = true) {W W' : World} (hb : Below W.heap.size W W') :
    ∀ {ts : List TypeId} {vs : List Value} {ds : List (DataW H)} {ps : List MemPlace}, (∀ t ∈ ts, P.readableRec t = true ∧ t < P.types.size) → DataW.TrodAll enc P W 0 (fun _ => true) true ts vs ds ps → (∀ x ∈ ps, x.block < W.heap.size) →
      DataW.TrodAll enc P W' 0 (fun b => decide (b < W.heap.size)) true ts vs ds ps
  | [], _, _, _, _, h, _ => by
    obtain ⟨rfl, rfl, rfl⟩ := trodAll_nil h
    exact trodAll_mk0
  | t :: ts, _, _, _, ht, h, hlt => by
    obtain ⟨v, vs, d, ds, p, q, rfl, rfl, rfl, h1, h2⟩ := trodAll_cons h
    exact ⟨p, q, Below.trod hl (ht t (by simp)).1 (ht t (by simp)).2 h1 hb (fun x hx => hlt x (by simp [hx])), trodAll_stays hl hb (fun u hu => ht u (by simp [hu])) h2 (fun x hx => hlt x (by simp [hx])), rfl⟩
theorem trod_bool (tb : TypeId) (hb : P.underlying tb = some .bool) (w : World) (b : Bool) (base : Nat) (sp : Nat → Bool) (held : Bool) : DataW.Trod enc P w base sp held tb (.bool b) (.lit (.bool b)) [] := ⟨1, by simp [DataW.trod, hb, Value.cells]⟩
/-- what a law leaves: true, and all as it was. -/
theorem post_law {f : Func} {s : ChangeSpec} {apart fresh handsOn : Bool} {W W' : World} {args : Array Value} {ds gs : List (DataW H)} {before : List MemPlace} {tb : TypeId} (hl : laidOutB P = true)
    (hts : ∀ t ∈ f.params.toList, P.readableRec t = true ∧ t < P.types.size) (hW : DataW.Whole enc P f.params.toList s.vars apart W args.toList ds gs before) (hH : Hp W W' [] []) (hv : s.vars = [])
    (hs : s.fn H ds = { results := [.lit (.bool true)], args := ds }) (hr : f.resultTypes = #[tb]) (hb : P.underlying tb = some .bool) : s.post enc P f apart fresh handsOn false W args (.bool true) W' := by
  have hlt := hW.lt
  have hW' := hW
  obtain ⟨p, q, hA, hV, rfl, _, _⟩ := hW
  rw [hv] at hV
  cases gs with
  | cons g gs => simp [DataW.TrodVars] at hV
  | nil =>
    have hq : q = [] := by simpa [DataW.TrodVars] using hV
    subst hq
    have hbel := hH.below
    have hs' : s.fn H (ds ++ []) = { results := [.lit (.bool true)], args := ds } := by rw [List.append_nil]; exact hs
    have hvl : (Value.bool true).resultList f.resultTypes.size = [.bool true] := by rw [hr]; rfl
    refine ⟨ds, [], p ++ [], [], p, [], hW', ?_, ?_, ?_, hbel.frame _, fun h => by cases h⟩
    · rw [hs', hvl, hr]
      exact trodAll_mk1 (trod_bool tb hb W' true _ _ _)
    · rw [hs']
      exact trodAll_stays hl hbel hts hA (fun x hx => hlt x (by simp [hx]))
    · rw [hs', hv]; rfl
theorem law_calls {f : FuncId} {fn : Func} {s : ChangeSpec} {apart fresh handsOn : Bool} {W : World} {args : Array Value} {ds gs : List (DataW H)} {before : List MemPlace} {tb : TypeId} (hl : laidOutB P = true)
    (hts : ∀ t ∈ fn.params.toList, P.readableRec t = true ∧ t < P.types.size) (hW : DataW.Whole enc P fn.params.toList s.vars apart W args.toList ds gs before) (hv : s.vars = [])
    (hs : s.fn H ds = { results := [.lit (.bool true)], args := ds }) (hr : fn.resultTypes = #[tb]) (hb : P.underlying tb = some .bool)
    (h : Ret P f args.toList W fun v w' => v = .bool true ∧ Hp W w' [] []) : Calls P f args W fun e W' => ∃ v, e = .returned v ∧ s.post enc P fn apart fresh handsOn false W args v W' := by
  have h' : Calls P f args W fun e w' => ∃ v, e = .returned v ∧ v = .bool true ∧ Hp W w' [] [] := by simpa [Ret] using h
  exact Calls.mono h' fun e w' ⟨v, he, hv', hH⟩ => ⟨v, he, by subst hv'; exact post_law hl hts hW hH hv hs hr hb⟩
end
/-- the facts on the types of a law's parameters. -/
def tyOk (P : Program) (ts : List TypeId) : Bool := ts.all fun t => P.readableRec t && decide (t < P.types.size)
theorem tyOk_all {ts : List TypeId} (h : tyOk Try.prog ts = true) : ∀ t ∈ ts, Try.prog.readableRec t = true ∧ t < Try.prog.types.size := by
  intro t ht
  have := List.all_eq_true.1 h t ht
  simpa using this
theorem cut_of (P : Program) (cs : List Char) (h : P.initOrder = String.ofList cs) (hb : ((behindMainWord (wordsSigns cs)).head? == some "cut".toList) = true) : ∃ rest, behindMainWord (wordsSigns P.initOrder.toList) = "cut".toList :: rest := by
  rw [h, String.toList_ofList]
  generalize behindMainWord (wordsSigns cs) = l at hb
  cases l with
  | nil => simp at hb
  | cons c r => exact ⟨r, by simpa using hb⟩
set_option maxRecDepth 100000 in
theorem Try.cut : ∃ rest, behindMainWord (wordsSigns Try.prog.initOrder.toList) = "cut".toList :: rest := by
  refine cut_of Try.prog _ rfl ?_
  kernel_rfl
theorem strip_cut (rest : List (List Char)) : stripLifts liftWords ("cut".toList :: rest) = ([], "cut".toList :: rest) := by
  kernel_rfl
theorem headLifts_cut {P : Program} {rest : List (List Char)} (h : behindMainWord (wordsSigns P.initOrder.toList) = "cut".toList :: rest) : P.headLifts = [] := by
  unfold Program.headLifts
  rw [h, strip_cut]
  simp
theorem lifts_cut {P : Program} {rest : List (List Char)} (h : behindMainWord (wordsSigns P.initOrder.toList) = "cut".toList :: rest) : P.liftsFinal = false := by
  unfold Program.liftsFinal
  rw [h, headLifts_cut h]
  simp
theorem make_cut {P : Program} {rest : List (List Char)} (h : behindMainWord (wordsSigns P.initOrder.toList) = "cut".toList :: rest) : P.make = some .cut := by
  unfold Program.make
  rw [h]
  simp
theorem enter_cut {P : Program} {rest : List (List Char)} (h : behindMainWord (wordsSigns P.initOrder.toList) = "cut".toList :: rest) (h1 : P.laysLater = false) (h2 : P.bearsReflect = false) (h3 : P.doorFits [] = true) : P.mayEnter = true := by
  unfold Program.mayEnter
  rw [h]
  simp only [strip_cut, h1, h2, h3]
  simp
theorem joined_of (P : Program) (f : FuncId) (fn : Func) (s : ChangeSpec) (c : OpenClaim) (h1 : laidOutB P = true) (h2 : mapsRowed P = true) (h3 : P.stops = []) (h4 : P.stopKnobs = []) (h5 : P.stopsHeard = true) (h6 : P.mayEnter = true) (h7: P.liftsFinal = false) (h8 : P.make = some .cut) (pk : Bool) (h9 : P.plainKeys = pk)
    (r : (c.wf (OpenSpec.ofChange s) && fn.params.all (P.readableRec ·) && namedTie P c.named s.vars &&
  (c.stops == []) && (c.knobs == []) && 
  (c.inPlace == P.inPlace f) && (c.unfollowed == P.unfollowed f) && (c.recurses == P.recurses f) && (c.named == P.varsNamed f)) = true)
    (r2 : ((c.maps == (fn.params.toList ++ s.plain.varTypes P).any (P.mapsRec ·)) && (c.ifaces == (fn.params.toList ++ s.plain.varTypes P).any (P.ifacesRec ·)) && (c.mapsOut == P.mapsAmong fn.resultTypes.toList) &&
  (c.loops == (fn.params.toList ++ s.plain.varTypes P).any (P.loopsFrom ·)) && (c.wideKeys == (fn.params.toList ++ s.plain.varTypes P ++ fn.resultTypes.toList).any (P.wideKeysFrom ·)) &&
  s.vars.all (P.varReadable ·) && fn.resultTypes.all (fun t => P.readableRec t && decide (t < P.types.size)) && (c.ifacesOut == fn.resultTypes.toList.any (P.ifacesRec ·)) && (c.loopsOut == fn.resultTypes.toList.any (P.loopsFrom ·)) && (c.plainKeys == pk) && c.shortTexts.isNone && (c.lifted == false) && (some Make.cut == some c.make) && (c.kinds == (if c.domain.isEmpty then [] else fn.params.toList.map fun t => match P.underlying t with | some (.int k) => some k | _ => none)) && (c.pinned == c.pinnedBy) &&
  (c.veiled == (fn.params.toList ++ s.plain.varTypes P ++ fn.resultTypes.toList).any (P.veiledRec ·)) && c.veiledFits P fn.params.toList (fn.params.toList ++ s.plain.varTypes P ++ fn.resultTypes.toList)) = true) : joinedFacts P f fn s c = true := by
  simp only [Bool.and_eq_true] at r r2
  obtain ⟨⟨⟨⟨⟨⟨⟨⟨k1, k4⟩, k5⟩, k6⟩, k8⟩, k10⟩, k11⟩, k12⟩, k13⟩ := r
  obtain ⟨⟨⟨⟨⟨⟨⟨⟨⟨⟨⟨⟨⟨⟨⟨⟨m1, m2⟩, m3⟩, m4⟩, m5⟩, m6⟩, m7⟩, m8⟩, m9⟩, m10⟩, m11⟩, m12⟩, m13⟩, m14⟩, m15⟩, m16⟩, m17⟩ := r2
  unfold joinedFacts
  rw [h3, h4, h7, h8, h9]
  simp only [Bool.and_eq_true]
  exact ⟨⟨⟨⟨⟨⟨⟨⟨⟨⟨⟨⟨⟨⟨⟨⟨⟨⟨⟨⟨⟨⟨⟨⟨⟨⟨⟨⟨⟨⟨⟨k1, h1⟩, h2⟩, k4⟩, k5⟩, k6⟩, rfl⟩, k8⟩, rfl⟩, k10⟩, k11⟩, k12⟩, k13⟩, m1⟩, m2⟩, m3⟩, m4⟩, m5⟩, m6⟩, m7⟩, m8⟩, m9⟩, m10⟩, m11⟩, h5⟩, h6⟩, m12⟩, m13⟩, m14⟩, m15⟩, m16⟩, m17⟩
theorem Try.mapsRowed : mapsRowed Try.prog = true := by kernel_rfl
theorem Try.stops : Try.prog.stops = [] := by kernel_rfl
theorem Try.stopKnobs : Try.prog.stopKnobs = [] := by kernel_rfl
theorem Try.stopsHeard : Try.prog.stopsHeard = true := by kernel_rfl
theorem Try.laysLater : Try.prog.laysLater = false := by kernel_rfl
theorem Try.bearsReflect : Try.prog.bearsReflect = false := by kernel_rfl
theorem Try.doorFits : Try.prog.doorFits [] = true := by kernel_rfl
theorem Try.mayEnter : Try.prog.mayEnter = true := Try.cut.elim fun _ h => enter_cut h Try.laysLater Try.bearsReflect Try.doorFits
theorem Try.liftsFinal : Try.prog.liftsFinal = false := Try.cut.elim fun _ h => lifts_cut h
theorem Try.make : Try.prog.make = some .cut := Try.cut.elim fun _ h => make_cut h
theorem Try.plainKeys : Try.prog.plainKeys = true := by kernel_rfl
end Go.Proofs.Ytjmbbhnpfmblpaa
namespace Go.Proofs.Ytjmbbhnpfmblpaa
open Go Go.ChangeShapes Go.WideShapes Go.ChangeAt Go.RowKit Go.Deep
set_option maxRecDepth 100000
section
variable {H : Type} {enc : TypeId × Value → H} {W : World}
theorem rd_of_cells {a : Addr} {vs : List Value} (h : ∀ i v, vs[i]? = some v → W.cell? (a.add i) = some v) : RdS W (some a) vs := by
  cases vs with
  | nil => exact .inl rfl
  | cons v0 vs =>
    obtain ⟨b, o, spot⟩ := a
    have h0 := h 0 v0 rfl
    have hspot : spot = none := by simpa [Addr.add] using World.cell?_spot h0
    subst hspot
    have ha : ∀ i, (⟨b, o, none⟩ : Addr).add i = ⟨b, o + i, none⟩ := fun i => Addr.add_mid ..
    rw [ha] at h0
    cases hb : W.heap[b]? with
    | none => simp [World.cell?, hb] at h0
    | some ob =>
      cases ob with
      | cells C T fr =>
        refine .inr ⟨b, o, C, T, fr, rfl, hb, fun i v hv => ?_⟩
        have := h i v hv
        rw [ha] at this
        simpa [World.cell?, hb] using this
      | _ => simp [World.cell?, hb] at h0
theorem sl_of_ints {a : Addr} {len cap : Nat} {zs : List Int} (hl : len ≤ cap) (hm : cap ≤ maxLen) (hz : zs.length = cap) (hcell : ∀ i, i < zs.length → W.cell? (a.add i) = some (.int .u8 (zs.getD i 0))) (hwz : ∀ n ∈ zs, (Lit.int .u8 n).wf = true) :
    (⟨some a, len, cap, (zs.take len).map fun n => UInt8.ofNat n.toNat⟩ : Sl).ok W := by
  refine ⟨rd_of_cells fun i v hv => ?_, by simp; omega, hl, Nat.le_trans hl hm⟩
  simp only [List.getElem?_map, Option.map_map] at hv
  obtain ⟨n, hn, rfl⟩ := Option.map_eq_some_iff.1 hv
  have hi : i < zs.length := by
    have := (List.getElem?_eq_some_iff.1 hn).1
    simp at this; omega
  have hn' : zs[i]? = some n := by
    rw [List.getElem?_take] at hn
    split at hn
    · exact hn
    · cases hn
  have hmem : n ∈ zs := List.mem_of_getElem? hn'
  have hr := range_u8 hwz i
  rw [hn'] at hr
  simp only [Option.getD_some] at hr
  rw [hcell i hi]
  have e : zs.getD i 0 = n := by rw [List.getD_eq_getElem?_getD, hn']; rfl
  rw [e]
  simp only [Function.comp, V8, UInt8.toNat_ofNat']
  congr 2
  omega
theorem cells5 : Try.prog.cellsOf 5 = 1 := by kernel_rfl
theorem open_sl {base : Nat} {spare : Nat → Bool} {held : Bool} {fuel : Nat} {v : Value} {x : DataW H × List MemPlace} (hsp : spare = fun _ => true) (h : DataW.trod enc Try.prog W base spare held fuel 29 [v] = some x) : ∃ s : Sl, v = s.v ∧ s.ok W := by
  subst hsp
  rcases open_ints Try.underlying29 Try.underlying5 cells5 h with ⟨hcs, _⟩ | ⟨a, len, cap, zs, hcs, _, hl, hm, hz, _, hcell, hwz⟩
  · simp only [List.cons.injEq, and_true] at hcs
    exact ⟨⟨none, 0, 0, []⟩, hcs, .inl rfl, rfl, Nat.le_refl _, by decide⟩
  · simp only [List.cons.injEq, and_true] at hcs
    simp only [if_true] at hz
    exact ⟨⟨some a, len, cap, _⟩, hcs, sl_of_ints hl hm hz hcell hwz⟩
/-- a slice of bytes. -/
theorem open_u8s {base : Nat} {v : Value} {d : DataW H} {p : List MemPlace} (hval : Value.okWide Try.prog W .any base 29 v) (h : DataW.Trod enc Try.prog W 0 (fun _ => true) true 29 v d p) : ∃ s : Sl, v = s.v ∧ s.ok W := by
  obtain ⟨a, len, cap, rfl⟩ := okWide_slice Try.underlying29 hval
  obtain ⟨fuel, hf⟩ := h
  exact open_sl rfl hf
instance : Inhabited Sl := ⟨⟨none, 0, 0, []⟩⟩
end
end Go.Proofs.Ytjmbbhnpfmblpaa
namespace Go.Proofs.Ytjmbbhnpfmblpaa
open Go Go.ChangeShapes Go.WideShapes Go.ChangeAt Go.RowKit Go.Deep Go.ChangeMaps
set_option maxRecDepth 100000
section
variable {H : Type} {enc : TypeId × Value → H} {W : World} {base : Nat} {spare : Nat → Bool} {held : Bool}
theorem cellsId : Try.prog.cellsOf 31 = 32 := by kernel_rfl
def byteOf : Value → UInt8
  | .int _ n => UInt8.ofNat n.toNat
  | _ => 0
theorem byteOf_V8 {n : Int} (h : (Lit.int .u8 n).wf = true) : V8 (byteOf (.int .u8 n)) = .int .u8 n := by
  have := bounds_u8 h
  simp only [byteOf, V8, UInt8.toNat_ofNat']
  congr 1; omega
theorem trod_id {fuel : Nat} {cs : List Value} {x : DataW H × List MemPlace} (h : DataW.trod enc Try.prog W base spare held fuel 31 cs = some x) : ∃ l : List UInt8, cs = l.map V8 ∧ l.length = 32 := by
  obtain ⟨xs, m, _, _, hl, hx, hi⟩ := DataW.trod_array Try.underlying31 h
  rw [cellsId] at hl
  refine ⟨cs.map byteOf, ?_, by simp [hl]⟩
  apply List.ext_getElem?
  intro i
  by_cases hlt : i < 32
  · have h1 := hi i hlt
    rw [cells5, Nat.mul_one, List.getElem?_eq_getElem (by omega)] at h1
    obtain ⟨n, hn, _, hw⟩ := DataW.trod_int Try.underlying5 h1
    have h2 : cs[i]? = some (.int .u8 n) := by
      have := congrArg (·[0]?) hn
      simpa [List.getElem?_take, List.getElem?_drop] using this
    simp only [List.getElem?_map, h2, Option.map_some, byteOf_V8 hw]
  · rw [List.getElem?_eq_none (by omega), List.getElem?_eq_none (by simp; omega)]
end
end Go.Proofs.Ytjmbbhnpfmblpaa
namespace Go.Proofs.Ytjmbbhnpfmblpaa
open Go
section
variable {P : Program} {Q : Exit → Act → World → Prop} {n : Nat} {σ : Nat → Value} {w : World} {K : Act → World → Prop}
  {ty : TypeId} {pos : String} {aft : Array Edge} {g : Option (Nat × Bool)} {d : Nat} {t yt : TypeId} {x y : Operand}
theorem b_lssB {k : IntKind} {a b : Int} (v : Bool) (h : decide (a < b) = v) : (binOp .lss t (.int k a) (.int k b)).run P w = .ok (.bool v) w := by rw [← h]; exact b_lss
theorem b_gtrB {k : IntKind} {a b : Int} (v : Bool) (h : decide (b < a) = v) : (binOp .gtr t (.int k a) (.int k b)).run P w = .ok (.bool v) w := by rw [← h]; exact b_gtr
theorem b_eqlB {k : IntKind} {a b : Int} (v : Bool) (h : decide (a = b) = v) : (binOp .eql t (.int k a) (.int k b)).run P w = .ok (.bool v) w := by rw [← h]; exact b_eql
theorem b_neqB {k : IntKind} {a b : Int} (v : Bool) (h : decide (a ≠ b) = v) : (binOp .neq t (.int k a) (.int k b)).run P w = .ok (.bool v) w := by rw [← h]; exact b_neq
end
theorem all2 {α : Type} {p : α → Prop} {a b : α} (ha : p a) (hb : p b) : ∀ x ∈ [a, b], p x := by
  intro x hx
  simp only [List.mem_cons, List.not_mem_nil, or_false] at hx
  rcases hx with h | h <;> rw [h] <;> assumption
end Go.Proofs.Ytjmbbhnpfmblpaa
namespace Go.Proofs.Ytjmbbhnpfmblpaa
open Go
set_option maxRecDepth 100000
section
variable {P : Program} {t : TypeId} {w : World}
end
attribute [local irreducible] rnds
end Go.Proofs.Ytjmbbhnpfmblpaa
namespace Go.Proofs.Ytjmbbhnpfmblpaa
open Go
/-- the text with what stands behind it. -/
def padded (l : List UInt8) : List UInt8 := l ++ tailOf (UInt64.ofNat l.length)
end Go.Proofs.Ytjmbbhnpfmblpaa
namespace Go.Proofs.Ytjmbbhnpfmblpaa
open Go
set_option maxRecDepth 100000
theorem fills (z : Value) (vs : List Value) (len : Nat) (h1 : ∀ v ∈ vs, v.oneCell' = true) (hl : vs.length = len) : Instr.fill (fun i => some (i * 1, 1)) ((Array.range (len * 1)).map (([z].toArray)[· % ([z].toArray).size]!)) (en 0 vs) = some vs.toArray := by
  have := fill_en (zs := ((Array.range (len * 1)).map (([z].toArray)[· % ([z].toArray).size]!)).toList) vs (by rw [List.all_toArray, List.all_eq_true]; exact h1) (by simp [hl])
  rwa [Array.toArray_toList] at this
theorem Hp.apart {w0 w : World} {S : List Nat} {L : List Ch} (H : Hp w0 w S L) {i j b b' o : Nat} {c c' : Ch} (hi : L[i]? = some c) (hj : L[j]? = some c') (hij : i ≠ j) (hk : c.key = some b) (hk' : c'.key = some b') : Apart (some ⟨b, o, none⟩) [b'] := by
  intro x hx
  cases hx
  simp only [List.mem_singleton]
  intro e
  have := pw_ne H.nd hi hj hij hk
  exact this (by rw [hk', e])
theorem ok_lit {w0 w : World} {S : List Nat} {L : List Ch} (H : Hp w0 w S L) {i b cap len : Nat} {l : List UInt8} {C : List Value} {e : TypeId} (hi : L[i]? = some (.obj b (litO C e))) (hC : C = l.map V8) (hl : l.length = len) (hc : len ≤ cap) (hm : len ≤ 9223372036854775807) : (⟨some ⟨b, 0, none⟩, len, cap, l⟩ : Sl).ok w :=
  ⟨by rw [← hC]; exact Ch.rd_lit (H.has _ (List.mem_of_getElem? hi)), hl, hc, hm⟩
def abc : HS := absorb HS.init [97, 98, 99]
def abcD : List UInt8 := digest abc
attribute [local irreducible] abc abcD digest absorb
end Go.Proofs.Ytjmbbhnpfmblpaa
namespace Go.Proofs.Ytjmbbhnpfmblpaa
open Go
set_option maxRecDepth 100000
def sp (C : List Value) (i : Nat) : List Value := List.replicate i (V8 90) ++ C.drop i
end Go.Proofs.Ytjmbbhnpfmblpaa
namespace Go.Proofs.Ytjmbbhnpfmblpaa
open Go
set_option maxRecDepth 100000
theorem b_remT {P : Program} {t : TypeId} {w : World} {a b : Int} (h2 : 0 < b) : (binOp .rem t (VI a) (VI b)).run P w = .ok (VI (a.tmod b)) w := by
  simp [binOp, Op.intDiv, Int.ne_of_gt h2]
theorem tmod_lt (a b : Int) (h : 0 < b) : -b < a.tmod b ∧ a.tmod b < b := by
  have h1 := Int.tmod_lt_of_pos a h
  have h2 := Int.lt_tmod_of_pos a h
  exact ⟨h2, h1⟩
theorem place_ret (w : World) (k n : Int) (hn : 1 ≤ n) (hm : n ≤ 4611686018427387904) : Ret Try.prog 44 [VI k, VI n] w fun v w' => ∃ m : Nat, v = VI (m : Int) ∧ (m : Int) < n ∧ w' = w := by
  refine ret_mk Try.func44 rfl Try.ntmps44 (by simp) ?_
  have hb := tmod_lt k n (by omega)
  obtain ⟨r, hr⟩ : ∃ r, k.tmod n = r := ⟨_, rfl⟩
  rw [hr] at hb
  repeat refine c_seq ?_
  refine c_region ?_
  refine l_op (o_as ?_)
  first | refine l_end ?_ | refine l_nil ?_
  repeat refine c_seq ?_
  refine c_region ?_
  refine l_op (o_mv ?_)
  refine l_op (o_bin rfl rfl (fun _ => b_lssB false (decide_eq_false (by omega))) ?_)
  first | refine l_end ?_ | refine l_nil ?_
  repeat refine c_seq ?_
  refine c_no rfl ?_
  refine c_skip ?_
  repeat refine c_seq ?_
  refine c_region ?_
  refine l_op (o_mv ?_)
  refine l_op (o_mv ?_)
  refine l_op (o_bin (v := VI r) rfl rfl (fun _ => by rw [← hr]; exact b_remT (by omega)) ?_)
  refine l_op (o_as ?_)
  first | refine l_end ?_ | refine l_nil ?_
  by_cases h0 : r < 0
  · skip
    repeat refine c_seq ?_
    refine c_region ?_
    refine l_op (o_mv ?_)
    refine l_op (o_bin rfl rfl (fun _ => b_lssB true (decide_eq_true h0)) ?_)
    first | refine l_end ?_ | refine l_nil ?_
    repeat refine c_seq ?_
    refine c_yes rfl ?_
    repeat refine c_seq ?_
    refine c_region ?_
    refine l_op (o_mv ?_)
    refine l_op (o_mv ?_)
    refine l_op (o_bin rfl rfl (fun _ => b_add (by omega) (by omega)) ?_)
    refine l_op (o_as ?_)
    first | refine l_end ?_ | refine l_nil ?_
    repeat refine c_seq ?_
    refine c_region ?_
    refine l_op (o_mv ?_)
    refine l_op (o_as ?_)
    first | refine l_end ?_ | refine l_nil ?_
    refine c_ret (e_ret1 (v := VI ((r + n).toNat : Int)) Try.results44 ?_ ⟨_, rfl, (r + n).toNat, rfl, by omega, rfl⟩)
    have e : ((r + n).toNat : Int) = r + n := by omega
    rw [e]; rfl
  · skip
    repeat refine c_seq ?_
    refine c_region ?_
    refine l_op (o_mv ?_)
    refine l_op (o_bin rfl rfl (fun _ => b_lssB false (decide_eq_false h0)) ?_)
    first | refine l_end ?_ | refine l_nil ?_
    repeat refine c_seq ?_
    refine c_no rfl ?_
    refine c_skip ?_
    repeat refine c_seq ?_
    refine c_region ?_
    refine l_op (o_mv ?_)
    refine l_op (o_as ?_)
    first | refine l_end ?_ | refine l_nil ?_
    refine c_ret (e_ret1 (v := VI (r.toNat : Int)) Try.results44 ?_ ⟨_, rfl, r.toNat, rfl, by omega, rfl⟩)
    have e : (r.toNat : Int) = r := by omega
    rw [e]; rfl
theorem Sl.ok.take {s : Sl} {w : World} (h : s.ok w) (n : Nat) (hn : n ≤ s.len) : (⟨s.a, n, s.cap, s.l.take n⟩ : Sl).ok w :=
  ⟨by have := h.rd.take n; rwa [← List.map_take] at this, by simp only [List.length_take]; have := h.ln; omega, Nat.le_trans hn h.le, Nat.le_trans hn h.mx⟩
theorem Sl.ok.drop {s : Sl} {w : World} (h : s.ok w) (n : Nat) (hn : n ≤ s.len) : (⟨sa s.a n s.cap 1, s.len - n, s.cap - n, s.l.drop n⟩ : Sl).ok w :=
  ⟨by have := h.rd.sa n s.cap 1 (by have := h.ln; have := h.le; simp; omega); rwa [Nat.mul_one, ← List.map_drop] at this, by simp only [List.length_drop]; have := h.ln; omega, by have := h.le; simp only; omega, by have := h.mx; simp only; omega⟩
end Go.Proofs.Ytjmbbhnpfmblpaa
namespace Go.Proofs.Ytjmbbhnpfmblpaa
open Go
section
variable {P : Program} {Q : Exit → Act → World → Prop} {n : Nat} {σ : Nat → Value} {w w0 : World} {K : Act → World → Prop}
  {ty : TypeId} {pos : String} {aft : Array Edge} {g : Option (Nat × Bool)} {d : Nat} {t yt : TypeId} {x y z : Operand} {S : List Nat} {L : List Ch}
theorem Sl.ok.addr {s : Sl} (h : s.ok w) (hp : 0 < s.len) : ∃ b o, s.a = some ⟨b, o, none⟩ := by
  rcases h.rd with h' | ⟨b, o, C, T, fr, ha, hb, hc⟩
  · have := h.ln
    rw [List.map_eq_nil_iff.1 h'] at this
    simp at this; omega
  · exact ⟨b, o, ha⟩
theorem Sl.get (s : List UInt8) (k : Nat) (h : k < s.length) : (s.map V8)[k]? = some (V8 (s.getD k 0)) := by
  simp [List.getD_eq_getElem?_getD, h]
theorem RdS.addr {a : Option Addr} {vs : List Value} (h : RdS w a vs) (hp : 0 < vs.length) : ∃ b o, a = some ⟨b, o, none⟩ := by
  rcases h with rfl | ⟨b, o, C, T, fr, ha, hb, hc⟩
  · simp at hp
  · exact ⟨b, o, ha⟩
/-- an element's address. -/
theorem r_isN {a : Option Addr} {b o len cap sz : Nat} {kk : IntKind} {i : Int} (k : Nat) (hx : ev n σ x = .slice a len cap) (hy : ev n σ y = .int kk i) (ha : eltOf P t = some sz) (hb : a = some ⟨b, o, none⟩) (hi : i = (k : Int)) (h1 : k < len) :
    (execOp (ev n σ) ⟨some d, .indexAddr t x y, ty, pos, aft, g⟩).run P w = .ok (.value (.pointer (some ⟨b, o + k * sz, none⟩))) w := by
  subst hi
  exact r_is hx hy ha hb (by omega) (by omega)
theorem r_iaN {b o len sz : Nat} {kk : IntKind} {i : Int} (k : Nat) (hx : ev n σ x = .pointer (some ⟨b, o, none⟩)) (hy : ev n σ y = .int kk i) (ha : arrOf P t = some (len, sz)) (hi : i = (k : Int)) (h1 : k < len) :
    (execOp (ev n σ) ⟨some d, .indexAddr t x y, ty, pos, aft, g⟩).run P w = .ok (.value (.pointer (some ⟨b, o + k * sz, none⟩))) w := by
  subst hi
  exact r_ia hx hy ha (by omega) (by omega)
/-- a byte of a slice. -/
theorem r_ldB {s : Sl} {b o k : Nat} (hs : s.ok w) (ha : s.a = some ⟨b, o, none⟩) (hx : ev n σ x = .pointer (some ⟨b, o + k * 1, none⟩)) (ht : cellTy P t = true) (hk : k < s.len) :
    (execOp (ev n σ) ⟨some d, .load t x, ty, pos, aft, g⟩).run P w = .ok (.value (V8 (s.l.getD k 0))) w :=
  r_lds (i := k * 1) hs.rd ha hx ht (by rw [Nat.mul_one]; exact Sl.get _ _ (by rw [hs.ln]; exact hk))
/-- a whole array. -/
theorem r_ldA {b i k : Nat} {C : List Value} {T : TypeId} (H : Hp w0 w S L) (hi : L[i]? = some (.blk b C T)) (hx : ev n σ x = .pointer (some ⟨b, 0, none⟩)) (ht : rowTy P t = some k) (hk : C.length = k) :
    (execOp (ev n σ) ⟨some d, .load t x, ty, pos, aft, g⟩).run P w = .ok (.value (.agg C.toArray)) w := by
  have h := r_ldr (P := P) (t := t) (d := d) (ty := ty) (pos := pos) (aft := aft) (g := g) H hi hx ht (by omega)
  rw [h, List.drop_zero, List.take_of_length_le (Nat.le_of_eq hk)]
theorem r_ldAA {b i k : Nat} {l : List UInt8} {T : TypeId} (H : Hp w0 w S L) (hi : L[i]? = some (.blk b (l.map V8) T)) (hx : ev n σ x = .pointer (some ⟨b, 0, none⟩)) (ht : rowTy P t = some k) (hk : l.length = k) :
    (execOp (ev n σ) ⟨some d, .load t x, ty, pos, aft, g⟩).run P w = .ok (.value (.agg (l.map V8).toArray)) w :=
  r_ldA H hi hx ht (by rw [List.length_map, hk])
theorem o_stA {b i k : Nat} {l l' : List UInt8} {T : TypeId} (H : Hp w0 w S L) (hi : L[i]? = some (.blk b (l.map V8) T)) (hx : ev n σ x = .pointer (some ⟨b, 0, none⟩)) (hy : ev n σ y = .agg (l'.map V8).toArray)
    (hs : cellSz P t = some k) (h1 : l.length = k) (h2 : l'.length = k)
    (h : ∀ w', Hp w0 w' S (L.set i (.blk b (l'.map V8) T)) → K (mk n σ) w') : Oper.wp P ⟨none, .store t x y, ty, pos, aft, g⟩ (mk n σ) w K Q :=
  o_stw H hi hx hy (by rw [hs, List.size_toArray, List.length_map, h2]) (by rw [List.all_toArray]; simp [Value.oneCell']) (by rw [List.size_toArray, List.length_map, h2, List.length_map, h1]) fun w' H' => h w' H'
theorem r_asV {v : Value} (hx : ev n σ x = v) : (execOp (ev n σ) ⟨some d, .assign x, ty, pos, aft, g⟩).run P w = .ok (.value v) w := by rw [← hx]; exact r_as
/-- the array at a slice's head. -/
theorem r_ldSA {s : Sl} {b o k : Nat} (hs : s.ok w) (ha : s.a = some ⟨b, o, none⟩) (hx : ev n σ x = .pointer s.a) (ht : rowTy P t = some k) (hk0 : 0 < k) (hk : k ≤ s.len) :
    (execOp (ev n σ) ⟨some d, .load t x, ty, pos, aft, g⟩).run P w = .ok (.value (.agg ((s.l.take k).map V8).toArray)) w := by
  rw [ha] at hx
  have := r_ldsr (P := P) (w := w) (t := t) (d := d) (ty := ty) (pos := pos) (aft := aft) (g := g) (i := 0) hs.rd ha hx ht hk0 (by simp only [List.length_map]; have := hs.ln; omega)
  rwa [List.drop_zero, ← List.map_take] at this
theorem r_ldSE {s : Sl} {b o k : Nat} (hs : s.ok w) (ha : s.a = some ⟨b, o, none⟩) (hx : ev n σ x = .pointer s.a) (ht : rowTy P t = some k) (hk0 : 0 < k) (hk : s.len = k) :
    (execOp (ev n σ) ⟨some d, .load t x, ty, pos, aft, g⟩).run P w = .ok (.value (.agg (s.l.map V8).toArray)) w := by
  have := r_ldSA (P := P) (w := w) (t := t) (d := d) (ty := ty) (pos := pos) (aft := aft) (g := g) hs ha hx ht hk0 (Nat.le_of_eq hk.symm)
  rwa [List.take_of_length_le (by have := hs.ln; omega)] at this
/-- an array or struct literal. -/
theorem r_bld' {parts : Array (Nat × Operand)} {zs : Array Value} {places : Nat → Option (Nat × Nat)} {pv : List (Nat × Value)} {cells : Array Value} (hB : Bld P t zs places)
    (hp0 : pvs n σ parts.toList = pv) (hf : Instr.fill places zs pv = some cells) :
    (execOp (ev n σ) ⟨some d, .build t parts, ty, pos, aft, g⟩).run P w = .ok (.value (.agg cells)) w := by
  have hp : (parts.map fun (i, x) => (i, ev n σ x)).toList = pv := by rw [← hp0, pvs_eq, Array.toList_map]
  have := run_build (P := P) w t (parts.map fun (i, x) => (i, ev n σ x)) cells (by rw [hp, hB.eq]; exact hf)
  simp only [execOp, Sem.run_bind, this]
  simp
/-- an array as a slice: its first h bytes, room for m. -/
theorem r_slA {lo hi mx : Option Operand} {b len sz h m : Nat} {lv hv mv : Option Value} (hx : ev n σ x = .pointer (some ⟨b, 0, none⟩)) (ht : arrOf P t = some (len, sz))
    (hl : lo.map (ev n σ) = lv) (hh : hi.map (ev n σ) = hv) (hm : mx.map (ev n σ) = mv) (hb : ∀ w, (Instr.sliceBounds false len len lv hv mv).run P w = .ok (0, h, m) w) :
    (execOp (ev n σ) ⟨some d, .slice t x lo hi mx, ty, pos, aft, g⟩).run P w = .ok (.value (.slice (some ⟨b, 0, none⟩) h m)) w := by
  have := r_sla (P := P) (w := w) (d := d) (ty := ty) (pos := pos) (aft := aft) (g := g) hx ht hl hh hm hb
  rwa [sa_zero, Nat.sub_zero, Nat.sub_zero] at this
def Sl.cut (s : Sl) (l h m : Nat) : Sl := ⟨sa s.a l m 1, h - l, m - l, (s.l.drop l).take (h - l)⟩
theorem Sl.ok.cut {s : Sl} (hs : s.ok w) {l h m : Nat} (h1 : l ≤ h) (h2 : h ≤ s.len) (h3 : h ≤ m) (_h4 : m ≤ s.cap) : (s.cut l h m).ok w := by
  refine ⟨?_, ?_, by simp only [Sl.cut]; omega, by have := hs.mx; simp only [Sl.cut]; omega⟩
  · unfold Sl.cut
    simp only
    by_cases hml : m = l
    · have : (s.l.drop l).take (h - l) = [] := by rw [show h - l = 0 by omega, List.take_zero]
      rw [this]; exact .inl rfl
    · have e : sa s.a l m 1 = s.a.map (·.add (l * 1)) := by unfold sa; rw [if_neg hml]
      rw [e, Nat.mul_one, List.map_take, List.map_drop]
      exact (hs.rd.drop l).take _
  · have := hs.ln
    simp only [Sl.cut, List.length_take, List.length_drop]; omega
theorem r_slS {lo hi mx : Option Operand} {s : Sl} (l h m : Nat) {lv hv mv : Option Value} (hx : ev n σ x = s.v) (ht : eltOf P t = some 1)
    (hl : lo.map (ev n σ) = lv) (hh : hi.map (ev n σ) = hv) (hm : mx.map (ev n σ) = mv) (hb : ∀ w, (Instr.sliceBounds true s.len s.cap lv hv mv).run P w = .ok (l, h, m) w) :
    (execOp (ev n σ) ⟨some d, .slice t x lo hi mx, ty, pos, aft, g⟩).run P w = .ok (.value (s.cut l h m).v) w :=
  r_sl (P := P) (w := w) (d := d) (ty := ty) (pos := pos) (aft := aft) (g := g) hx ht hl hh hm hb
/-- bounds, by numbers. -/
theorem sbn {s : Bool} {len cap : Nat} (w : World) : (Instr.sliceBounds s len cap none none none).run P w = .ok (0, len, cap) w := sb_n w
theorem sbl {s : Bool} {len cap : Nat} {k : IntKind} {i : Int} (l : Nat) (e : i = (l : Int)) (h1 : l ≤ len) (w : World) : (Instr.sliceBounds s len cap (some (.int k i)) none none).run P w = .ok (l, len, cap) w := by
  subst e; exact sb_l (by omega) (by omega) w
theorem sbh {s : Bool} {len cap : Nat} {k : IntKind} {i : Int} (h : Nat) (e : i = (h : Int)) (h1 : h ≤ cap) (w : World) : (Instr.sliceBounds s len cap none (some (.int k i)) none).run P w = .ok (0, h, cap) w := by
  subst e; exact sb_h (by omega) (by omega) w
theorem sblh {s : Bool} {len cap : Nat} {k k' : IntKind} {i j : Int} (l h : Nat) (e : i = (l : Int)) (e' : j = (h : Int)) (h1 : l ≤ h) (h2 : h ≤ cap) (w : World) : (Instr.sliceBounds s len cap (some (.int k i)) (some (.int k' j)) none).run P w = .ok (l, h, cap) w := by
  subst e e'; exact sb_lh (by omega) (by omega) (by omega) w
theorem Hp.slOwn (H : Hp w0 w S L) {i : Nat} {a : Option Nat} {len cap : Nat} {l : List UInt8} {T : TypeId} (hi : L[i]? = some (.own a len cap (l.map V8) T 1)) : (⟨hd a, len, cap, l⟩ : Sl).ok w := by
  have h := H.has _ (List.mem_of_getElem? hi)
  refine ⟨Ch.rd_own h, ?_, ?_, ?_⟩
  · cases a with
    | none => obtain ⟨h1, h2, h3⟩ := h; simp only [List.map_eq_nil_iff] at h3; rw [h3, h1]; rfl
    | some b => obtain ⟨h1, _⟩ := h; simpa using h1
  · cases a with
    | none => obtain ⟨h1, h2, h3⟩ := h; simp only; omega
    | some b => exact h.2.1
  · cases a with
    | none => obtain ⟨h1, h2, h3⟩ := h; simp only; omega
    | some b => have := h.2.1; have := h.2.2.1; simp only [maxLen] at *; omega
theorem Hp.ownLen (H : Hp w0 w S L) {i : Nat} {a : Option Nat} {len cap : Nat} {xs : List Value} {T : TypeId} {sz : Nat} (hi : L[i]? = some (.own a len cap xs T sz)) : xs.length = len * sz ∧ len ≤ cap ∧ cap ≤ maxLen := by
  have h := H.has _ (List.mem_of_getElem? hi)
  cases a with
  | none => obtain ⟨rfl, rfl, rfl⟩ := h; simp [maxLen]
  | some b => exact ⟨h.1, h.2.1, h.2.2.1⟩
theorem Hp.slBlkA (H : Hp w0 w S L) {i b : Nat} {l : List UInt8} {T : TypeId} (hi : L[i]? = some (.blk b (l.map V8) T)) (len : Nat) (h1 : l.length = len) (h3 : len ≤ 9223372036854775807) : (⟨some ⟨b, 0, none⟩, len, len, l⟩ : Sl).ok w :=
  ⟨Ch.rd_all (H.has _ (List.mem_of_getElem? hi)), h1, Nat.le_refl _, h3⟩
/-- .. with room only. -/
theorem o_makeB0 {e : TypeId} {kx ky : IntKind} {li ci : Int} (c : Nat) (H : Hp w0 w S L) (hT : SlTy P t e 1 1) (hz : zeroCells P e = some [V8 0]) (hx : ev n σ x = .int kx li) (hy : ev n σ y = .int ky ci)
    (hl : li = 0) (hc : ci = (c : Int)) (hm : c ≤ 281474976710656)
    (h : ∀ b w', Hp w0 w' S (L ++ [.own (some b) 0 c (([] : List UInt8).map V8) e 1]) → w0.heap.size ≤ b → K (mk n (up σ d (.slice (hd (some b)) 0 c))) w') :
    Oper.wp P ⟨some d, .makeSlice t x y, ty, pos, aft, g⟩ (mk n σ) w K Q := by
  have hmx : c ≤ maxLen := Nat.le_trans hm (by decide)
  refine o_make (l := 0) (c := c) H hT hz hx hy hl hc (Nat.zero_le _) (by omega) hmx fun b w' H' hb => h b w' ?_ hb
  have := H'.toOwn (i := L.length) (len := 0) (cap := c) (sz := 1) (b := b) (C := List.replicate c (V8 0)) (T := e) (by simp) (Nat.zero_le _) hmx (by simp)
  rw [List.set_append_right _ _ (Nat.le_refl _), Nat.sub_self] at this
  simpa using this
/-- a literal of bytes. -/
theorem o_bslB {e : TypeId} {len : Nat} {parts : Array (Nat × Operand)} (l : List UInt8) (H : Hp w0 w S L) (hT : SlTy P t e 1 1) (hz : zeroCells P e = some [V8 0])
    (hp : pvs n σ parts.toList = en 0 (l.map V8)) (hlen : l.length = len) (hm : len ≤ 16777216)
    (h : ∀ b w', Hp w0 w' S (L ++ [.own (some b) len len (l.map V8) e 1]) → w0.heap.size ≤ b → K (mk n (up σ d (.slice (hd (some b)) len len))) w') :
    Oper.wp P ⟨some d, .buildSlice t len parts, ty, pos, aft, g⟩ (mk n σ) w K Q := by
  refine o_bsl H hT hz (by decide) hp (by omega) (fills _ (l.map V8) len (by simp [Value.oneCell']) (by simpa using hlen)) fun b w' H' hb => h b w' ?_ hb
  have := H'.toOwn (i := L.length) (len := len) (cap := len) (sz := 1) (b := b) (C := l.map V8) (T := e) (by simp) (Nat.le_refl _) (Nat.le_trans hm (by decide)) (by simpa using hlen)
  rw [List.set_append_right _ _ (Nat.le_refl _), Nat.sub_self, List.take_of_length_le (by simp; omega)] at this
  simpa using this
/-- a literal of values of one cell. -/
theorem o_bslV {e : TypeId} {len bytes : Nat} {parts : Array (Nat × Operand)} {zv : Value} (vs : List Value) (H : Hp w0 w S L) (hT : SlTy P t e 1 bytes) (hz : zeroCells P e = some [zv])
    (hp : pvs n σ parts.toList = en 0 vs) (h1 : vs.all (·.oneCell') = true) (hlen : vs.length = len) (hm : len ≤ 16777216)
    (h : ∀ b w', Hp w0 w' S (L ++ [.own (some b) len len vs e 1]) → w0.heap.size ≤ b → K (mk n (up σ d (.slice (hd (some b)) len len))) w') :
    Oper.wp P ⟨some d, .buildSlice t len parts, ty, pos, aft, g⟩ (mk n σ) w K Q := by
  refine o_bsl H hT hz (by decide) hp (by omega) (fills _ vs len (by simpa using h1) hlen) fun b w' H' hb => h b w' ?_ hb
  have := H'.toOwn (i := L.length) (len := len) (cap := len) (sz := 1) (b := b) (C := vs) (T := e) (by simp) (Nat.le_refl _) (Nat.le_trans hm (by decide)) (by simpa using hlen)
  rw [List.set_append_right _ _ (Nat.le_refl _), Nat.sub_self, List.take_of_length_le (by omega)] at this
  simpa using this
/-- bytes behind bytes of one's own. -/
theorem o_appB {i : Nat} {a : Option Nat} {len cap len' : Nat} {l l' : List UInt8} {e e' : TypeId} {tx : TypeId} {s : Sl} (el : l ++ s.l = l') (en : len + s.len = len') (H : Hp w0 w S L) (hi : L[i]? = some (.own a len cap (l.map V8) e 1)) (hT : SlTy P t e 1 1) (hu : P.underlying tx = some (.slice e'))
    (hx : ev n σ x = .slice (hd a) len cap) (hy : ev n σ y = s.v) (hs : s.ok w) (hm : len' ≤ 140737488355328)
    (h : ∀ a' cap' w', Hp w0 w' S (L.set i (.own a' len' cap' (l'.map V8) e 1)) → K (mk n (up σ d (.slice (hd a') len' cap'))) w') :
    Oper.wp P ⟨some d, .call ⟨.builtin .append, #[x, y], #[t, tx]⟩, ty, pos, aft, g⟩ (mk n σ) w K Q := by
  subst el en
  refine o_app (m := s.len) (news := s.l.map V8) H hi hT hx hy (RdS.src hu hs.rd (by simp [hs.ln]) (by decide) (by simp [Value.oneCell'])) (by decide) (by omega) (by omega) fun a' cap' w' H' => h a' cap' w' ?_
  rw [List.map_append]; exact H'
theorem Sl.ok_nil (w : World) : (⟨none, 0, 0, []⟩ : Sl).ok w := ⟨.inl rfl, rfl, Nat.le_refl _, by decide⟩
theorem Hp.toBlkB (H : Hp w0 w S L) {i b len : Nat} {l : List UInt8} {T : TypeId} (hi : L[i]? = some (.own (some b) len len (l.map V8) T 1)) : Hp w0 w S (L.set i (.blk b (l.map V8) T)) := by
  refine H.conv hi rfl fun hok => ?_
  obtain ⟨h1, h2, h3, rest, hw, h5⟩ := hok
  have : rest = [] := List.length_eq_zero_iff.1 (by simp only [List.length_append] at h5; omega)
  subst this
  rw [List.append_nil] at hw
  exact hw
theorem w_u64_N {a : Int} (k : Nat) (h : a = (k : Int)) : IntKind.u64.wrap a = ((UInt64.ofNat k).toNat : Int) := by
  subst h
  have := w_u64_i (a := (k : Int)) (by omega)
  rwa [Int.toNat_natCast] at this
theorem b_mul_u64N {t : TypeId} {a b : Nat} : (binOp .mul t (V64 (UInt64.ofNat a)) (V64 (UInt64.ofNat b))).run P w = .ok (V64 (UInt64.ofNat (a * b))) w := by
  rw [UInt64.ofNat_mul]; exact b_mul_u64
theorem sh_N (m : Nat) (h : m < 64) : (((UInt64.ofNat m).toNat : Nat) : Int).toNat = m := by
  rw [UInt64.toNat_ofNat']; omega
theorem b_shr_u64N {x : UInt64} (m : Nat) (h : m < 64) : (Op.shift .shr .u64 (x.toNat : Int) .u64 ((UInt64.ofNat m).toNat : Int)).run P w = .ok (V64 (x >>> UInt64.ofNat m)) w := by
  have := b_shr_u64 (P := P) (w := w) (x := x) (yk := .u64) (c := ((UInt64.ofNat m).toNat : Int)) (by omega) (by rw [UInt64.toNat_ofNat']; omega)
  rwa [sh_N m h] at this
theorem b_shl_u64N {x : UInt64} (m : Nat) (h : m < 64) : (Op.shift .shl .u64 (x.toNat : Int) .u64 ((UInt64.ofNat m).toNat : Int)).run P w = .ok (V64 (x <<< UInt64.ofNat m)) w := by
  have := b_shl_u64 (P := P) (w := w) (x := x) (yk := .u64) (c := ((UInt64.ofNat m).toNat : Int)) (by omega) (by rw [UInt64.toNat_ofNat']; omega)
  rwa [sh_N m h] at this
/-- bytes as they were given, with three marks behind them. -/
def Sl.full (x : Sl) : Sl := ⟨x.a, x.cap, x.cap, x.l ++ List.replicate 3 229⟩
structure Sl.kept (x : Sl) (w : World) : Prop where
  ok : x.ok w
  room : x.cap = x.len + 3
  all : x.full.ok w
theorem Sl.kept.up {x : Sl} (hx : x.kept w0) (H : Hp w0 w S L) (hap : Apart x.a S) : x.kept w :=
  ⟨hx.ok.up H (fun _ => hap), hx.room, hx.all.up H (fun _ => hap)⟩
theorem ba_loop (b : ByteArray) : ∀ (k i : Nat) (r : List UInt8), b.size - i = k → ByteArray.toList.loop b i r = r.reverse ++ b.data.toList.drop i := by
  intro k
  induction k with
  | zero =>
    intro i r h
    have hd : b.data.toList.drop i = [] := List.drop_of_length_le (by have : b.data.toList.length = b.size := rfl; omega)
    rw [ByteArray.toList.loop, if_neg (by omega), hd, List.append_nil]
  | succ k ih =>
    intro i r h
    have hlt : i < b.size := by omega
    have hl : i < b.data.toList.length := hlt
    rw [ByteArray.toList.loop, if_pos hlt, ih (i + 1) _ (by omega), List.drop_eq_getElem_cons hl]
    have : b.get! i = b.data.toList[i] := by
      show b.data[i]! = _
      rw [getElem!_pos b.data i hlt]; rfl
    rw [this]; simp
theorem ba_toList (l : List UInt8) : (⟨l.toArray⟩ : ByteArray).toList = l := by
  rw [ByteArray.toList, ba_loop _ _ 0 [] rfl]; simp
theorem beq_dec (a b : List UInt8) : (a == b) = decide (a = b) := by
  rw [Bool.eq_iff_iff]; simp
theorem r_strne {a b : List UInt8} (hx : ev n σ x = .string ⟨a.toArray⟩) (hy : ev n σ y = .string ⟨b.toArray⟩) :
    (execOp (ev n σ) ⟨some d, .binOp .neq t x y yt, ty, pos, aft, g⟩).run P w = .ok (.value (.bool (!decide (a = b)))) w :=
  r_str hx hy (fun w => by rw [b_sneq, ba_toList, ba_toList, beq_dec]) (by decide)
theorem r_b2S {s : Sl} {e : TypeId} (hs : P.underlying t = some (.slice e)) (he : P.underlying e = some (.int .u8)) (hd : P.underlying yt = some .string) (hx : ev n σ x = s.v) (hok : s.ok w) :
    (execOp (ev n σ) ⟨some d, .convert t yt x, ty, pos, aft, g⟩).run P w = .ok (.value (.string ⟨s.l.toArray⟩)) w :=
  r_b2s hs he hd hx hok.rd hok.ln
/-- bytes of a text. -/
theorem o_s2B {e : TypeId} {l : List UInt8} (H : Hp w0 w S L) (hs : P.underlying t = some .string) (hd : P.underlying yt = some (.slice e)) (he : P.underlying e = some (.int .u8)) (hx : ev n σ x = .string ⟨l.toArray⟩) (hm : l.length ≤ 1099511627776)
    (h : ∀ b cap ob w', Hp w0 w' S (L ++ [.obj b ob]) → w0.heap.size ≤ b → (∀ w'' : World, Ch.ok w'' (.obj b ob) → (⟨some ⟨b, 0, none⟩, l.length, cap, l⟩ : Sl).ok w'') → K (mk n (up σ d (.slice (some ⟨b, 0, none⟩) l.length cap))) w') :
    Oper.wp P ⟨some d, .convert t yt x, ty, pos, aft, g⟩ (mk n σ) w K Q := by
  refine o_s2b H hs hd he hx fun b cap ob w' H' hb hr hc => h b cap ob w' H' hb fun w'' hw => ⟨hr w'' hw, rfl, ?_, ?_⟩
  · exact hc
  · simp only; omega
end
def resF (tmps : Array Value) : ResultVar → Sem Value
  | .tmp t => pure (tmps.getD t undef)
  | .cell a t => do loadVar t (← asAddr (tmps.getD a undef))
def resOk (P : Program) (n : Nat) (σ : Nat → Value) (w : World) : List ResultVar → List Value → Prop
  | [], [] => True
  | .tmp t :: rs, v :: vs => ev n σ (.tmp t) = v ∧ resOk P n σ w rs vs
  | .cell a t :: rs, v :: vs => (∃ b C T k, ev n σ (.tmp a) = .pointer (some ⟨b, 0, none⟩) ∧ w.heap[b]? = some (.cells (List.toArray C) T (0, 0)) ∧ ((rowTy P t = some k ∧ C.length = k ∧ v = .agg C.toArray) ∨ (cellTy P t = true ∧ C[0]? = some v))) ∧ resOk P n σ w rs vs
  | _, _ => False
theorem run_resF {P : Program} {n : Nat} {σ : Nat → Value} {w : World} : ∀ (rs : List ResultVar) (vs : List Value) (acc : Array Value), resOk P n σ w rs vs →
    (rs.foldlM (fun acc r => do let v ← resF (mk n σ).tmps r; pure (acc.push v)) acc : Sem (Array Value)).run P w = .ok (acc ++ vs.toArray) w
  | [], [], acc, _ => by simp
  | .tmp t :: rs, v :: vs, acc, h => by
    have h1 : (mk n σ).tmps.getD t undef = v := by rw [mk_tmp]; exact h.1
    have e : (resF (mk n σ).tmps (.tmp t)).run P w = .ok v w := by simp [resF, h1]
    rw [List.foldlM_cons, Sem.run_bind, Sem.run_bind, e]
    simp only [Result.andThen_ok, Sem.run_pure]
    rw [run_resF rs vs _ h.2]
    congr 1
    simp
  | .cell a t :: rs, v :: vs, acc, h => by
    obtain ⟨⟨b, C, T, k, h1, h2, h3⟩, h4⟩ := h
    have e1 : (mk n σ).tmps.getD a undef = .pointer (some ⟨b, 0, none⟩) := by rw [mk_tmp]; exact h1
    have e2 : (loadVar t ⟨b, 0, none⟩).run P w = .ok v w := by
      rcases h3 with ⟨hr, hk, rfl⟩ | ⟨hc, hv⟩
      · have := run_loadAt_row (P := P) (t := t) (k := k) (o := 0) h2 hr (by omega)
        simp only [Instr.loadAt, Instr.sureAddr, Sem.run_bind, Sem.run_pure, Result.andThen_ok] at this
        rw [this, List.drop_zero, List.take_of_length_le (by omega)]
      · have := run_loadAt_cell (P := P) (t := t) (a := ⟨b, 0, none⟩) (v := v) (w := w) hc (by simp [World.cell?, h2, hv])
        simpa only [Instr.loadAt, Instr.sureAddr, Sem.run_bind, Sem.run_pure, Result.andThen_ok] using this
    have e : (resF (mk n σ).tmps (.cell a t)).run P w = .ok v w := by simp [resF, e1, asAddr, e2]
    rw [List.foldlM_cons, Sem.run_bind, Sem.run_bind, e]
    simp only [Result.andThen_ok, Sem.run_pure]
    rw [run_resF rs vs _ h4]
    congr 1
    simp
theorem e_retN {P : Program} {n : Nat} {σ : Nat → Value} {w : World} {fn : Func} {R : Ending → World → Prop} (rs : List ResultVar) (vs : List Value) (hres : fn.results = rs.toArray) (h1 : (vs.length == 1) = false) (hv : resOk P n σ w rs vs)
    (hR : R (.returned (.tuple vs.toArray)) w) : bodyPost P fn R .ret (mk n σ) w := by
  refine ⟨mk_defers n σ, .tuple vs.toArray, ?_, hR⟩
  have h2 := run_resF (P := P) (w := w) rs vs #[] hv
  have h3 : (fn.results.mapM (resF (mk n σ).tmps)).run P w = .ok vs.toArray w := by
    rw [hres, Array.mapM_eq_foldlM, List.foldlM_toArray]
    simpa using h2
  have h4 : results fn (mk n σ).tmps = (do let vs ← fn.results.mapM (resF (mk n σ).tmps); pure (if h : vs.size = 1 then vs[0] else .tuple vs)) := by
    unfold results
    congr 1
  rw [h4, Sem.run_bind, h3]
  have : ¬ vs.length = 1 := by simpa using h1
  simp [this]
theorem Hp.resA {P : Program} {n : Nat} {σ : Nat → Value} {w0 w : World} {S : List Nat} {L : List Ch} (H : Hp w0 w S L) {a t b i k : Nat} {l : List UInt8} {T : TypeId} {rs : List ResultVar} {vs : List Value} (hi : L[i]? = some (.blk b (l.map V8) T)) (hv : ev n σ (.tmp a) = .pointer (some ⟨b, 0, none⟩)) (hr : rowTy P t = some k) (hk : l.length = k)
    (h : resOk P n σ w rs vs) : resOk P n σ w (.cell a t :: rs) (.agg (l.map V8).toArray :: vs) :=
  ⟨⟨b, l.map V8, T, k, hv, H.blk hi, .inl ⟨hr, by rw [List.length_map, hk], rfl⟩⟩, h⟩
theorem Hp.resR {P : Program} {n : Nat} {σ : Nat → Value} {w0 w : World} {S : List Nat} {L : List Ch} (H : Hp w0 w S L) {a t b i k : Nat} {C : List Value} {T : TypeId} {rs : List ResultVar} {vs : List Value} (hi : L[i]? = some (.blk b C T)) (hv : ev n σ (.tmp a) = .pointer (some ⟨b, 0, none⟩)) (hr : rowTy P t = some k) (hk : C.length = k)
    (h : resOk P n σ w rs vs) : resOk P n σ w (.cell a t :: rs) (.agg C.toArray :: vs) :=
  ⟨⟨b, C, T, k, hv, H.blk hi, .inl ⟨hr, hk, rfl⟩⟩, h⟩
theorem resT {P : Program} {n : Nat} {σ : Nat → Value} {w : World} {t : Nat} {v : Value} {rs : List ResultVar} {vs : List Value} (hv : ev n σ (.tmp t) = v) (h : resOk P n σ w rs vs) : resOk P n σ w (.tmp t :: rs) (v :: vs) := ⟨hv, h⟩
theorem resZ {P : Program} {n : Nat} {σ : Nat → Value} {w : World} : resOk P n σ w [] [] := trivial
section
variable {P : Program} {Q : Exit → Act → World → Prop} {n : Nat} {σ : Nat → Value} {w : World} {c : Code} {ι κ ξ ο π : Type}
theorem c_loop2 (pat : ι → κ → List (Nat × Value)) (A : ι → κ → World → Prop) (μ : ι → κ → Nat) (i : ι) (k : κ) (hp : fits σ (pat i k)) (hA : A i k w)
    (h : ∀ i k τ w, A i k w → c.wp P (Exit.then (Rnd n (fun x : ι × κ => pat x.1 x.2) (fun x => A x.1 x.2) (fun x => μ x.1 x.2) (μ i k)) Q) (mk n (ups τ (pat i k))) w) : (Code.loop c).wp P Q (mk n σ) w :=
  c_loop (fun x : ι × κ => pat x.1 x.2) (fun x => A x.1 x.2) (fun x => μ x.1 x.2) (i, k) hp hA fun x τ w hA => h x.1 x.2 τ w hA
theorem c_loop4 (pat : ι → κ → ξ → ο → List (Nat × Value)) (A : ι → κ → ξ → ο → World → Prop) (μ : ι → κ → ξ → ο → Nat) (i : ι) (k : κ) (x : ξ) (o : ο) (hp : fits σ (pat i k x o)) (hA : A i k x o w)
    (h : ∀ i k x o τ w, A i k x o w → c.wp P (Exit.then (Rnd n (fun y : ι × κ × ξ × ο => pat y.1 y.2.1 y.2.2.1 y.2.2.2) (fun y => A y.1 y.2.1 y.2.2.1 y.2.2.2) (fun y => μ y.1 y.2.1 y.2.2.1 y.2.2.2) (μ i k x o)) Q) (mk n (ups τ (pat i k x o))) w) : (Code.loop c).wp P Q (mk n σ) w :=
  c_loop (fun y : ι × κ × ξ × ο => pat y.1 y.2.1 y.2.2.1 y.2.2.2) (fun y => A y.1 y.2.1 y.2.2.1 y.2.2.2) (fun y => μ y.1 y.2.1 y.2.2.1 y.2.2.2) (i, k, x, o) hp hA fun y τ w hA => h y.1 y.2.1 y.2.2.1 y.2.2.2 τ w hA
theorem c_loop5 (pat : ι → κ → ξ → ο → π → List (Nat × Value)) (A : ι → κ → ξ → ο → π → World → Prop) (μ : ι → κ → ξ → ο → π → Nat) (i : ι) (k : κ) (x : ξ) (o : ο) (p : π) (hp : fits σ (pat i k x o p)) (hA : A i k x o p w)
    (h : ∀ i k x o p τ w, A i k x o p w → c.wp P (Exit.then (Rnd n (fun y : ι × κ × ξ × ο × π => pat y.1 y.2.1 y.2.2.1 y.2.2.2.1 y.2.2.2.2) (fun y => A y.1 y.2.1 y.2.2.1 y.2.2.2.1 y.2.2.2.2) (fun y => μ y.1 y.2.1 y.2.2.1 y.2.2.2.1 y.2.2.2.2) (μ i k x o p)) Q) (mk n (ups τ (pat i k x o p))) w) : (Code.loop c).wp P Q (mk n σ) w :=
  c_loop (fun y : ι × κ × ξ × ο × π => pat y.1 y.2.1 y.2.2.1 y.2.2.2.1 y.2.2.2.2) (fun y => A y.1 y.2.1 y.2.2.1 y.2.2.2.1 y.2.2.2.2) (fun y => μ y.1 y.2.1 y.2.2.1 y.2.2.2.1 y.2.2.2.2) (i, k, x, o, p) hp hA fun y τ w hA => h y.1 y.2.1 y.2.2.1 y.2.2.2.1 y.2.2.2.2 τ w hA
end
end Go.Proofs.Ytjmbbhnpfmblpaa
namespace Go.Proofs.Ytjmbbhnpfmblpaa
open Go
set_option maxRecDepth 100000
/-- the hash of a text. -/
def sha256 (l : List UInt8) : List UInt8 := digest (absorb HS.init l)
theorem sha256_len (l : List UInt8) : (sha256 l).length = 32 := digest_length _
theorem sha2_ret (w0 : World) (a : Option Addr) (s u : Sl) (hr : RdS w0 a [s.v, u.v]) (hs : s.ok w0) (hu : u.ok w0) :
    Ret Try.prog 37 [.slice a 2 2] w0 fun v w' => v = .agg ((sha256 (s.l ++ u.l)).map V8).toArray ∧ Hp w0 w' [] [] := by
  have h := of_ret w0 a 2 2 [s, u] hr rfl (all2 hs hu) (by decide)
  rw [show cat [s, u] = s.l ++ u.l by simp [cat]] at h
  exact h
/-- a hash of which it is known what it was told. -/
def hashX (x : List UInt8) : List Value := hashH (absorb HS.init x)
attribute [irreducible] sha256 hashX
/-- v in n bytes, the highest first. -/
def be (v : Nat) : Nat → List UInt8
  | 0 => []
  | i + 1 => UInt8.ofNat (v / 256 ^ i) :: be v i
theorem be_len (v : Nat) : ∀ n, (be v n).length = n
  | 0 => rfl
  | n + 1 => by simp [be, be_len v n]
theorem shr_be (v : UInt64) (k : Nat) (h : k < 8) : (v >>> UInt64.ofNat (8 * k)).toUInt8 = UInt8.ofNat (v.toNat / 256 ^ k) := by
  apply UInt8.toNat_inj.1
  have e : (UInt64.ofNat (8 * k)).toNat % 64 = 8 * k := by rw [UInt64.toNat_ofNat']; omega
  rw [UInt64.toNat_toUInt8, UInt64.toNat_shiftRight, e, Nat.shiftRight_eq_div_pow, UInt8.toNat_ofNat', Nat.pow_mul]
theorem shr_fit (v : UInt64) (k : Nat) (h : k < 8) (hv : v.toNat < 256 ^ k) : v >>> UInt64.ofNat (8 * k) = 0 := by
  apply UInt64.toNat_inj.1
  have e : (UInt64.ofNat (8 * k)).toNat % 64 = 8 * k := by rw [UInt64.toNat_ofNat']; omega
  rw [UInt64.toNat_shiftRight, e, Nat.shiftRight_eq_div_pow, Nat.pow_mul]
  exact Nat.div_eq_of_lt hv
theorem own_ret (w0 : World) (s : Sl) (hs : s.ok w0) (n : Nat) (hm : s.len + n ≤ 1099511627776) :
    Ret Try.prog 140 [s.v, VI (n : Int)] w0 fun v w' => ∃ a cap, v = .slice (hd a) s.len cap ∧ Hp w0 w' [] [.own a s.len cap (s.l.map V8) 5 1] := by
  refine ret_mk Try.func140 rfl Try.ntmps140 (by simp) ?_
  have H := Hp.refl w0 []
  repeat refine c_seq ?_
  refine c_region ?_
  refine l_op (o_val (r_as) ?_)
  first | refine l_end ?_ | refine l_nil ?_
  repeat refine c_seq ?_
  refine c_region ?_
  refine l_op (o_val (r_mv) ?_)
  refine l_op (o_val (r_lens el29 rfl) ?_)
  refine l_op (o_val (r_mv) ?_)
  refine l_op (o_val (r_bin (a := (s.len : Int)) (b := (n : Int)) rfl rfl (fun _ => b_add (by omega) (by omega))) ?_)
  refine l_op (o_makeB0 (s.len + n) H sl29 zc5 rfl rfl rfl (by omega) (by omega) (fun b1 w H hb1 => ?_))
  replace H : Hp _ w _ ([.own (some b1) 0 (s.len + n) ((([] : List UInt8)).map V8) 5 1]) := H
  refine l_op (o_val (r_mv) ?_)
  refine l_op (o_appB (s := s) (l' := s.l) (len' := s.len) rfl (Nat.zero_add _) H (i := 0) rfl sl29 Try.underlying29 rfl rfl (hs.up H (fun _ => apart_nil _)) (by omega) (fun a2 c3 w H => ?_))
  replace H : Hp _ w _ ([.own a2 s.len c3 ((s.l).map V8) 5 1]) := H
  refine l_op (o_val (r_as) ?_)
  first | refine l_end ?_ | refine l_nil ?_
  refine c_ret ?_
  try dsimp only [Exit.then, Exit.inBlock]
  refine e_ret1 (v := .slice (hd a2) s.len c3) Try.results140 rfl ?_
  refine ⟨_, rfl, ?_⟩
  exact ⟨_, _, rfl, H⟩
theorem put_ret (w0 : World) (s : Sl) (hs : s.ok w0) (u : UInt64) (n : Nat) (h1 : 1 ≤ n) (h8 : n ≤ 8) (hf : n = 8 ∨ u.toNat < 256 ^ n) (hm : s.len ≤ 1048576) :
    Ret Try.prog 109 [s.v, V64 u, VI (n : Int)] w0 fun v w' => ∃ a cap, v = .tuple #[.slice (hd a) (s.len + n) cap, VI 0] ∧ Hp w0 w' [] [.own a (s.len + n) cap ((s.l ++ be u.toNat n).map V8) 5 1] := by
  refine ret_mk Try.func109 rfl Try.ntmps109 (by simp) ?_
  have H := Hp.refl w0 []
  repeat refine c_seq ?_
  refine c_region ?_
  refine l_op (o_val (r_as) ?_)
  refine l_op (o_val (r_as) ?_)
  first | refine l_end ?_ | refine l_nil ?_
  repeat refine c_seq ?_
  refine c_block ?_
  repeat refine c_seq ?_
  refine c_region ?_
  refine l_op (o_val (r_mv) ?_)
  refine l_op (o_val (r_bin (a := (n : Int)) (b := 1) rfl rfl (fun _ => b_lssB false (decide_eq_false (by omega)))) ?_)
  refine l_op (o_val (r_mv) ?_)
  refine l_yes rfl rfl rfl (o_val (r_mv) ?_)
  refine l_yes rfl rfl rfl (o_val (r_bin (a := (n : Int)) (b := 8) rfl rfl (fun _ => b_gtrB false (decide_eq_false (by omega)))) ?_)
  refine l_op (o_val (r_pick rfl) ?_)
  refine l_op (o_val (r_as) ?_)
  first | refine l_end ?_ | refine l_nil ?_
  repeat refine c_seq ?_
  refine c_no rfl ?_
  repeat refine c_seq ?_
  refine c_region ?_
  refine l_op (o_val (r_mv) ?_)
  refine l_op (o_val (r_bin (a := (n : Int)) (b := 8) rfl rfl (fun _ => b_lss)) ?_)
  refine l_op (o_val (r_mv) ?_)
  by_cases hc1 : (n : Int) < 8
  ·
   refine l_yes rfl rfl (by exact congrArg Value.bool (decide_eq_true hc1)) (o_val (r_mv) ?_)
   refine l_yes rfl rfl (by exact congrArg Value.bool (decide_eq_true hc1)) (o_val (r_mv) ?_)
   refine l_yes rfl rfl (by exact congrArg Value.bool (decide_eq_true hc1)) (o_val (r_conv (v := ((UInt64.ofNat n).toNat : Int)) Try.underlying3 Try.underlying118 rfl (w_u64_N n (by omega))) ?_)
   refine l_yes rfl rfl (by exact congrArg Value.bool (decide_eq_true hc1)) (o_val (r_bin (c64 8 (by decide)) rfl (fun _ => b_mul_u64N)) ?_)
   refine l_yes rfl rfl (by exact congrArg Value.bool (decide_eq_true hc1)) (o_val (r_shift rfl rfl (.inr rfl) (fun _ => b_shr_u64N (8 * n) (by omega))) ?_)
   refine l_yes rfl rfl (by exact congrArg Value.bool (decide_eq_true hc1)) (o_val (r_bin (a := ((u >>> UInt64.ofNat (8 * n)).toNat : Int)) (b := 0) rfl rfl (fun _ => b_neqB false (decide_eq_false (fun hne => hne (by rw [shr_fit u n (by omega) (by omega)]; rfl))))) ?_)
   refine l_op (o_val (r_pick (b := true) (congrArg Value.bool (decide_eq_true hc1))) ?_)
   refine l_op (o_val (r_as) ?_)
   first | refine l_end ?_ | refine l_nil ?_
   repeat refine c_seq ?_
   refine c_no rfl ?_
   refine c_skip ?_
   repeat refine c_seq ?_
   refine c_region ?_
   refine l_op (o_val (r_mv) ?_)
   refine l_op (o_val (r_mv) ?_)
   refine l_op (o_callR Try.func140 rfl rfl rfl (own_ret _ s (hs.up H (fun _ => apart_nil _)) n (by omega)) ?_)
   rintro _ w ⟨a2, c3, rfl, Hc⟩
   replace H : Hp _ w _ ([.own a2 s.len c3 ((s.l).map V8) 5 1]) := H.call Hc
   clear Hc
   refine l_op (o_val (r_as) ?_)
   first | refine l_end ?_ | refine l_nil ?_
   repeat refine c_seq ?_
   refine c_region ?_
   refine l_op (o_val (r_mv) ?_)
   refine l_op (o_val (r_bin (a := (n : Int)) (b := 1) rfl rfl (fun _ => b_sub (by omega) (by omega))) ?_)
   refine l_op (o_val (r_as) ?_)
   first | refine l_end ?_ | refine l_nil ?_
   repeat refine c_seq ?_
   refine c_block ?_
   repeat refine c_seq ?_
   refine c_loop5 (fun (k : Nat) (l : List UInt8) (a : Option Nat) (ln : Nat) (c : Nat) => [(1, V64 u), (8, .slice (hd a) ln c), (9, VI ((k : Int) - 1))])
     (fun (k : Nat) (l : List UInt8) (a : Option Nat) (ln : Nat) (c : Nat) w => (k ≤ n ∧ l ++ be u.toNat k = s.l ++ be u.toNat n ∧ ln + k = s.len + n) ∧ Hp w0 w [] ([.own a ln c ((l).map V8) 5 1]))
     (fun (k : Nat) (l : List UInt8) (a : Option Nat) (ln : Nat) (c : Nat) => k) n s.l _ s.len _ ⟨rfl, rfl, rfl, trivial⟩ ⟨⟨Nat.le_refl _, rfl, rfl⟩, H⟩ ?_
   clear H
   rintro k l a ln c τ w ⟨⟨hk, hl, hln⟩, H⟩
   repeat refine c_seq ?_
   refine c_region ?_
   refine l_op (o_val (r_mv) ?_)
   refine l_op (o_val (r_bin (a := ((k : Int) - 1)) (b := 0) rfl rfl (fun _ => b_geq)) ?_)
   first | refine l_end ?_ | refine l_nil ?_
   by_cases hc4 : 0 ≤ ((k : Int) - 1)
   ·
    repeat refine c_seq ?_
    refine c_yes (by exact congrArg Value.bool (decide_eq_true hc4)) ?_
    refine c_skip ?_
    repeat refine c_seq ?_
    refine c_block ?_
    have hk1 : k = (k - 1) + 1 := by omega
    rw [hk1, be] at hl
    repeat refine c_seq ?_
    refine c_region ?_
    refine l_op (o_val (r_mv) ?_)
    refine l_op (o_val (r_mv) ?_)
    refine l_op (o_val (r_mv) ?_)
    refine l_op (o_val (r_conv (v := ((UInt64.ofNat (k - 1)).toNat : Int)) Try.underlying3 Try.underlying118 rfl (w_u64_N (k - 1) (by omega))) ?_)
    refine l_op (o_val (r_bin (c64 8 (by decide)) rfl (fun _ => b_mul_u64N)) ?_)
    refine l_op (o_val (r_shift rfl rfl (.inr rfl) (fun _ => b_shr_u64N (8 * (k - 1)) (by omega))) ?_)
    refine l_op (o_val (r_conv Try.underlying35 Try.underlying5 rfl (w_u8_64 _)) ?_)
    refine l_op (o_bslB ([(u >>> UInt64.ofNat (8 * (k - 1))).toUInt8]) H sl29 zc5 rfl rfl (by decide) (fun b5 w H hb5 => ?_))
    replace H : Hp _ w _ ([_, .own (some b5) 1 1 (([(u >>> UInt64.ofNat (8 * (k - 1))).toUInt8]).map V8) 5 1]) := H
    refine l_op (o_appB (s := ⟨hd (some b5), 1, 1, [(u >>> UInt64.ofNat (8 * (k - 1))).toUInt8]⟩) (l' := l ++ [UInt8.ofNat (u.toNat / 256 ^ (k - 1))]) (len' := ln + 1) (by rw [← shr_be u (k - 1) (by omega)]) rfl H (i := 0) rfl sl29 Try.underlying29 rfl rfl (H.slOwn (i := 1) rfl) (by omega) (fun a6 c7 w H => ?_))
    replace H : Hp _ w _ ([.own a6 (ln + 1) c7 ((l ++ [UInt8.ofNat (u.toNat / 256 ^ (k - 1))]).map V8) 5 1, _]) := H
    refine l_op (o_val (r_as) ?_)
    first | refine l_end ?_ | refine l_nil ?_
    repeat refine c_seq ?_
    refine c_region ?_
    refine l_op (o_val (r_mv) ?_)
    refine l_op (o_val (r_bin (a := ((k : Int) - 1)) (b := 1) rfl rfl (fun _ => b_sub (by omega) (by omega))) ?_)
    refine l_op (o_val (r_as) ?_)
    first | refine l_end ?_ | refine l_nil ?_
    refine round_end (k - 1, l ++ [UInt8.ofNat (u.toNat / 256 ^ (k - 1))], a6, ln + 1, c7) ?_ ?_ ?_
    · exact ⟨rfl, rfl, show VI (((k : Int) - 1) - 1) = VI (((k - 1 : Nat) : Int) - 1) from congrArg VI (by omega), trivial⟩
    · refine ⟨?_, ?_⟩
      · try dsimp only
        exact ⟨by omega, by simpa using hl, by omega⟩
      · exact H.sub (.cons_cons _ (List.nil_sublist _))
    · show (k - 1 : Nat) < k; omega
   ·
    repeat refine c_seq ?_
    refine c_no (by exact congrArg Value.bool (decide_eq_false hc4)) ?_
    refine c_exit ?_
    repeat refine c_seq ?_
    refine c_region ?_
    refine l_op (o_val (r_mv) ?_)
    refine l_op (o_val (r_as) ?_)
    refine l_op (o_val (r_as) ?_)
    first | refine l_end ?_ | refine l_nil ?_
    refine c_ret ?_
    try dsimp only [Exit.then, Exit.inBlock]
    refine e_retN (vs := [.slice (hd a) ln c, VI 0]) _ Try.results109 rfl (resT (v := .slice (hd a) ln c) rfl (resT (v := VI 0) rfl (resZ))) ?_
    refine ⟨_, rfl, ?_⟩
    have hk0 : k = 0 := by omega
    subst hk0
    simp only [be, List.append_nil, Nat.add_zero] at hl hln
    subst hl hln
    exact ⟨_, _, rfl, H⟩
  ·
   refine l_no rfl rfl (by exact congrArg Value.bool (decide_eq_false hc1)) rfl ?_
   refine l_no rfl rfl (by exact congrArg Value.bool (decide_eq_false hc1)) rfl ?_
   refine l_no rfl rfl (by exact congrArg Value.bool (decide_eq_false hc1)) rfl ?_
   refine l_no rfl rfl (by exact congrArg Value.bool (decide_eq_false hc1)) rfl ?_
   refine l_no rfl rfl (by exact congrArg Value.bool (decide_eq_false hc1)) rfl ?_
   refine l_no rfl rfl (by exact congrArg Value.bool (decide_eq_false hc1)) rfl ?_
   refine l_op (o_val (r_pick (b := false) (congrArg Value.bool (decide_eq_false hc1))) ?_)
   refine l_op (o_val (r_as) ?_)
   first | refine l_end ?_ | refine l_nil ?_
   repeat refine c_seq ?_
   refine c_no rfl ?_
   refine c_skip ?_
   repeat refine c_seq ?_
   refine c_region ?_
   refine l_op (o_val (r_mv) ?_)
   refine l_op (o_val (r_mv) ?_)
   refine l_op (o_callR Try.func140 rfl rfl rfl (own_ret _ s (hs.up H (fun _ => apart_nil _)) n (by omega)) ?_)
   rintro _ w ⟨a8, c9, rfl, Hc⟩
   replace H : Hp _ w _ ([.own a8 s.len c9 ((s.l).map V8) 5 1]) := H.call Hc
   clear Hc
   refine l_op (o_val (r_as) ?_)
   first | refine l_end ?_ | refine l_nil ?_
   repeat refine c_seq ?_
   refine c_region ?_
   refine l_op (o_val (r_mv) ?_)
   refine l_op (o_val (r_bin (a := (n : Int)) (b := 1) rfl rfl (fun _ => b_sub (by omega) (by omega))) ?_)
   refine l_op (o_val (r_as) ?_)
   first | refine l_end ?_ | refine l_nil ?_
   repeat refine c_seq ?_
   refine c_block ?_
   repeat refine c_seq ?_
   refine c_loop5 (fun (k : Nat) (l : List UInt8) (a : Option Nat) (ln : Nat) (c : Nat) => [(1, V64 u), (8, .slice (hd a) ln c), (9, VI ((k : Int) - 1))])
     (fun (k : Nat) (l : List UInt8) (a : Option Nat) (ln : Nat) (c : Nat) w => (k ≤ n ∧ l ++ be u.toNat k = s.l ++ be u.toNat n ∧ ln + k = s.len + n) ∧ Hp w0 w [] ([.own a ln c ((l).map V8) 5 1]))
     (fun (k : Nat) (l : List UInt8) (a : Option Nat) (ln : Nat) (c : Nat) => k) n s.l _ s.len _ ⟨rfl, rfl, rfl, trivial⟩ ⟨⟨Nat.le_refl _, rfl, rfl⟩, H⟩ ?_
   clear H
   rintro k l a ln c τ w ⟨⟨hk, hl, hln⟩, H⟩
   repeat refine c_seq ?_
   refine c_region ?_
   refine l_op (o_val (r_mv) ?_)
   refine l_op (o_val (r_bin (a := ((k : Int) - 1)) (b := 0) rfl rfl (fun _ => b_geq)) ?_)
   first | refine l_end ?_ | refine l_nil ?_
   by_cases hc10 : 0 ≤ ((k : Int) - 1)
   ·
    repeat refine c_seq ?_
    refine c_yes (by exact congrArg Value.bool (decide_eq_true hc10)) ?_
    refine c_skip ?_
    repeat refine c_seq ?_
    refine c_block ?_
    have hk1 : k = (k - 1) + 1 := by omega
    rw [hk1, be] at hl
    repeat refine c_seq ?_
    refine c_region ?_
    refine l_op (o_val (r_mv) ?_)
    refine l_op (o_val (r_mv) ?_)
    refine l_op (o_val (r_mv) ?_)
    refine l_op (o_val (r_conv (v := ((UInt64.ofNat (k - 1)).toNat : Int)) Try.underlying3 Try.underlying118 rfl (w_u64_N (k - 1) (by omega))) ?_)
    refine l_op (o_val (r_bin (c64 8 (by decide)) rfl (fun _ => b_mul_u64N)) ?_)
    refine l_op (o_val (r_shift rfl rfl (.inr rfl) (fun _ => b_shr_u64N (8 * (k - 1)) (by omega))) ?_)
    refine l_op (o_val (r_conv Try.underlying35 Try.underlying5 rfl (w_u8_64 _)) ?_)
    refine l_op (o_bslB ([(u >>> UInt64.ofNat (8 * (k - 1))).toUInt8]) H sl29 zc5 rfl rfl (by decide) (fun b11 w H hb11 => ?_))
    replace H : Hp _ w _ ([_, .own (some b11) 1 1 (([(u >>> UInt64.ofNat (8 * (k - 1))).toUInt8]).map V8) 5 1]) := H
    refine l_op (o_appB (s := ⟨hd (some b11), 1, 1, [(u >>> UInt64.ofNat (8 * (k - 1))).toUInt8]⟩) (l' := l ++ [UInt8.ofNat (u.toNat / 256 ^ (k - 1))]) (len' := ln + 1) (by rw [← shr_be u (k - 1) (by omega)]) rfl H (i := 0) rfl sl29 Try.underlying29 rfl rfl (H.slOwn (i := 1) rfl) (by omega) (fun a12 c13 w H => ?_))
    replace H : Hp _ w _ ([.own a12 (ln + 1) c13 ((l ++ [UInt8.ofNat (u.toNat / 256 ^ (k - 1))]).map V8) 5 1, _]) := H
    refine l_op (o_val (r_as) ?_)
    first | refine l_end ?_ | refine l_nil ?_
    repeat refine c_seq ?_
    refine c_region ?_
    refine l_op (o_val (r_mv) ?_)
    refine l_op (o_val (r_bin (a := ((k : Int) - 1)) (b := 1) rfl rfl (fun _ => b_sub (by omega) (by omega))) ?_)
    refine l_op (o_val (r_as) ?_)
    first | refine l_end ?_ | refine l_nil ?_
    refine round_end (k - 1, l ++ [UInt8.ofNat (u.toNat / 256 ^ (k - 1))], a12, ln + 1, c13) ?_ ?_ ?_
    · exact ⟨rfl, rfl, show VI (((k : Int) - 1) - 1) = VI (((k - 1 : Nat) : Int) - 1) from congrArg VI (by omega), trivial⟩
    · refine ⟨?_, ?_⟩
      · try dsimp only
        exact ⟨by omega, by simpa using hl, by omega⟩
      · exact H.sub (.cons_cons _ (List.nil_sublist _))
    · show (k - 1 : Nat) < k; omega
   ·
    repeat refine c_seq ?_
    refine c_no (by exact congrArg Value.bool (decide_eq_false hc10)) ?_
    refine c_exit ?_
    repeat refine c_seq ?_
    refine c_region ?_
    refine l_op (o_val (r_mv) ?_)
    refine l_op (o_val (r_as) ?_)
    refine l_op (o_val (r_as) ?_)
    first | refine l_end ?_ | refine l_nil ?_
    refine c_ret ?_
    try dsimp only [Exit.then, Exit.inBlock]
    refine e_retN (vs := [.slice (hd a) ln c, VI 0]) _ Try.results109 rfl (resT (v := .slice (hd a) ln c) rfl (resT (v := VI 0) rfl (resZ))) ?_
    refine ⟨_, rfl, ?_⟩
    have hk0 : k = 0 := by omega
    subst hk0
    simp only [be, List.append_nil, Nat.add_zero] at hl hln
    subst hl hln
    exact ⟨_, _, rfl, H⟩
end Go.Proofs.Ytjmbbhnpfmblpaa
namespace Go.Proofs.Ytjmbbhnpfmblpaa
open Go
set_option maxRecDepth 100000
/-- the text, 128 and j zeros. -/
def pz (l : List UInt8) (j : Nat) : List UInt8 := l ++ 128 :: List.replicate j 0
def Zn (n : Nat) : Nat := (119 - n % 64) % 64
/-- the text, what is behind it, and i bytes of its length. -/
def plen (l : List UInt8) (n i : Nat) : List UInt8 := pz l (Zn n) ++ (lenBytes (UInt64.ofNat n)).take i
theorem u8_u64 (x : UInt8) : x.toUInt64 = UInt64.ofNat x.toNat := by
  apply UInt64.toNat_inj.1
  have := u8_lt x
  rw [UInt8.toNat_toUInt64, UInt64.toNat_ofNat']; omega
attribute [local irreducible] padded wordBytes lenBytes plen
end Go.Proofs.Ytjmbbhnpfmblpaa
namespace Go.Proofs.Ytjmbbhnpfmblpaa
open Go
set_option maxRecDepth 100000
theorem put0_ret (w0 : World) (u : UInt64) (n : Nat) (h1 : 1 ≤ n) (h8 : n ≤ 8) (hf : n = 8 ∨ u.toNat < 256 ^ n) :
    Ret Try.prog 109 [.slice none 0 0, V64 u, VI (n : Int)] w0 fun v w' => ∃ a cap, v = .tuple #[.slice (hd a) n cap, VI 0] ∧ Hp w0 w' [] [.own a n cap ((be u.toNat n).map V8) 5 1] :=
  (put_ret w0 ⟨none, 0, 0, []⟩ (Sl.ok_nil _) u n h1 h8 hf (by simp)).mono fun v w' ⟨a, c, hv, H⟩ => ⟨a, c, by simpa using hv, by simpa using H⟩
/-- each part behind its length. -/
def framed (l : List (List UInt8)) : List UInt8 := l.flatMap fun p => be p.length 8 ++ p
def fr (ps : List Sl) (i : Nat) : List UInt8 := framed ((ps.take i).map Sl.l)
theorem ofNat_nat (n : Nat) (h : n < 18446744073709551616) : (UInt64.ofNat n).toNat = n := by rw [UInt64.toNat_ofNat']; omega
end Go.Proofs.Ytjmbbhnpfmblpaa
namespace Go.Proofs.Ytjmbbhnpfmblpaa
open Go
section
variable {P : Program} {Q : Exit → Act → World → Prop} {n : Nat} {σ : Nat → Value} {w w0 : World} {K : Act → World → Prop}
  {ty : TypeId} {pos : String} {aft : Array Edge} {g : Option (Nat × Bool)} {d : Nat} {t yt : TypeId} {x y z : Operand} {S : List Nat} {L : List Ch}
theorem o_stT {b i o k : Nat} {pre : List Value} {l l' : List UInt8} {T : TypeId} (H : Hp w0 w S L) (hi : L[i]? = some (.blk b (pre ++ l.map V8) T)) (hx : ev n σ x = .pointer (some ⟨b, o, none⟩)) (hy : ev n σ y = .agg (l'.map V8).toArray)
    (hs : cellSz P t = some k) (ho : pre.length = o) (hk : l.length = k) (hk' : l'.length = k)
    (h : ∀ w', Hp w0 w' S (L.set i (.blk b (pre ++ l'.map V8) T)) → K (mk n σ) w') : Oper.wp P ⟨none, .store t x y, ty, pos, aft, g⟩ (mk n σ) w K Q := by
  refine o_sr H hi hx hy (by rw [hs, List.size_toArray, List.length_map, hk']) (by rw [List.all_toArray]; simp [Value.oneCell']) (by simp; omega) fun w' H' => h w' ?_
  have e : (pre ++ l.map V8).take o ++ (l'.map V8).toArray.toList ++ (pre ++ l.map V8).drop (o + (l'.map V8).toArray.size) = pre ++ l'.map V8 := by
    rw [← ho, List.take_left, List.drop_of_length_le (by simp; omega), List.append_nil]
  rwa [e] at H'
/-- a whole struct stored. -/
theorem o_stW {b i k : Nat} {C C' : List Value} {T : TypeId} (H : Hp w0 w S L) (hi : L[i]? = some (.blk b C T)) (hx : ev n σ x = .pointer (some ⟨b, 0, none⟩)) (hy : ev n σ y = .agg C'.toArray)
    (hs : cellSz P t = some k) (h1 : C'.all (·.oneCell') = true) (hk : C.length = k) (hk' : C'.length = k)
    (h : ∀ w', Hp w0 w' S (L.set i (.blk b C' T)) → K (mk n σ) w') : Oper.wp P ⟨none, .store t x y, ty, pos, aft, g⟩ (mk n σ) w K Q :=
  o_stw H hi hx hy (by rw [hs, List.size_toArray, hk']) (by rw [List.all_toArray]; exact h1) (by rw [List.size_toArray, hk, hk']) fun w' H' => h w' H'
/-- slices of structs: what stands there. -/
structure Gl (α : Type) where
  a : Option Addr
  len : Nat
  cap : Nat
  l : List α
def Gl.v {α : Type} (s : Gl α) : Value := .slice s.a s.len s.cap
structure Gl.ok {α : Type} (enc : α → List Value) (sz : Nat) (s : Gl α) (w : World) : Prop where
  rd : RdS w s.a (s.l.flatMap enc)
  ln : s.l.length = s.len
  le : s.len ≤ s.cap
  mx : s.cap ≤ maxLen
  sz : ∀ c ∈ s.l, (enc c).length = sz
theorem Gl.ok.up {α : Type} {enc : α → List Value} {sz : Nat} {s : Gl α} (hs : s.ok enc sz w0) (H : Hp w0 w [] L) : s.ok enc sz w := ⟨H.rd hs.rd (apart_nil _), hs.ln, hs.le, hs.mx, hs.sz⟩
theorem flat_len {α : Type} {enc : α → List Value} {sz : Nat} : ∀ {l : List α}, (∀ c ∈ l, (enc c).length = sz) → (l.flatMap enc).length = l.length * sz
  | [], _ => by simp
  | c :: l, h => by
    rw [List.flatMap_cons, List.length_append, h c (by simp), flat_len (l := l) (fun c hc => h c (by simp [hc])), List.length_cons, Nat.succ_mul, Nat.add_comm]
theorem flat_at {α : Type} {enc : α → List Value} {sz : Nat} {c : α} : ∀ {l : List α} {k : Nat}, (∀ c ∈ l, (enc c).length = sz) → l[k]? = some c → ((l.flatMap enc).drop (k * sz)).take sz = enc c
  | [], k, _, h => by simp at h
  | b :: l, 0, hs, h => by
    simp at h; subst h
    have := hs b (by simp)
    rw [Nat.zero_mul, List.drop_zero, List.flatMap_cons, ← this, List.take_left]
  | b :: l, k + 1, hs, h => by
    have hb := hs b (by simp)
    rw [Nat.succ_mul, Nat.add_comm, List.flatMap_cons, ← List.drop_drop, ← hb, List.drop_left, hb]
    exact flat_at (fun c hc => hs c (by simp [hc])) (by simpa using h)
theorem Gl.ok.addr {α : Type} {enc : α → List Value} {sz : Nat} {s : Gl α} (h : s.ok enc sz w) (hz : 0 < sz) (hp : 0 < s.len) : ∃ b o, s.a = some ⟨b, o, none⟩ :=
  h.rd.addr (by rw [flat_len h.sz, h.ln]; exact Nat.mul_pos hp hz)
theorem r_ldRow {α : Type} {enc : α → List Value} {sz : Nat} {s : Gl α} {b o k : Nat} {c : α} (hs : s.ok enc sz w) (ha : s.a = some ⟨b, o, none⟩) (hx : ev n σ x = .pointer (some ⟨b, o + k * sz, none⟩)) (ht : rowTy P t = some sz) (hz : 0 < sz) (hk : s.l[k]? = some c) :
    (execOp (ev n σ) ⟨some d, .load t x, ty, pos, aft, g⟩).run P w = .ok (.value (.agg (enc c).toArray)) w := by
  have hlt : k < s.l.length := (List.getElem?_eq_some_iff.1 hk).1
  have := r_ldsr (P := P) (w := w) (t := t) (d := d) (ty := ty) (pos := pos) (aft := aft) (g := g) hs.rd ha hx ht hz (by
    rw [flat_len hs.sz]
    have : (k + 1) * sz ≤ s.l.length * sz := Nat.mul_le_mul_right _ hlt
    rw [Nat.succ_mul] at this; exact this)
  rwa [flat_at hs.sz hk] at this
/-- a field of a struct of a slice. -/
theorem r_ldFld {α : Type} {enc : α → List Value} {sz off : Nat} {s : Gl α} {b o k : Nat} {c : α} {v : Value} (hs : s.ok enc sz w) (ha : s.a = some ⟨b, o, none⟩) (hx : ev n σ x = .pointer (some ⟨b, o + k * sz + off, none⟩)) (ht : cellTy P t = true) (hk : s.l[k]? = some c) (hoff : off < sz) (hv : (enc c)[off]? = some v) :
    (execOp (ev n σ) ⟨some d, .load t x, ty, pos, aft, g⟩).run P w = .ok (.value v) w := by
  refine r_lds (i := k * sz + off) hs.rd ha (by rw [hx, Nat.add_assoc]) ht ?_
  have h := flat_at hs.sz hk
  rw [← h, List.getElem?_take_of_lt hoff, List.getElem?_drop] at hv
  exact hv
theorem Hp.glOwn {α : Type} {enc : α → List Value} (H : Hp w0 w S L) {i : Nat} {a : Option Nat} {len cap sz : Nat} {l : List α} {T : TypeId} (hi : L[i]? = some (.own a len cap (l.flatMap enc) T sz)) (hz : 0 < sz) (hs : ∀ c ∈ l, (enc c).length = sz) : (⟨hd a, len, cap, l⟩ : Gl α).ok enc sz w := by
  have h := H.ownLen hi
  refine ⟨H.own hi, ?_, h.2.1, h.2.2, hs⟩
  have h1 := h.1
  rw [flat_len hs] at h1
  exact Nat.eq_of_mul_eq_mul_right hz h1
theorem fill_row (sz : Nat) (zs vs : List Value) (h1 : zs.length = sz) (h2 : vs.length = sz) : Instr.fill (fun i => some (i * sz, sz)) zs.toArray [(0, .agg vs.toArray)] = some vs.toArray := by
  have h : ∀ (vs done zs : List Value), zs.length = vs.length → (vs.zipIdx done.length).foldl (fun (acc : Array Value) (p : Value × Nat) => acc.setIfInBounds p.2 p.1) (done ++ zs).toArray = (done ++ vs).toArray := by
    intro vs
    induction vs with
    | nil => intro done zs hz; have : zs = [] := List.length_eq_zero_iff.1 (by simpa using hz); subst this; simp
    | cons v vs ih =>
      intro done zs hz
      cases zs with
      | nil => simp at hz
      | cons z zs =>
        have := ih (done ++ [v]) zs (by simpa using hz)
        simp only [List.length_append, List.length_singleton, List.append_assoc, List.singleton_append] at this
        rw [← this, List.zipIdx_cons, List.foldl_cons]
        congr 1
        simp []
  have := h vs [] zs (by omega)
  simp only [Instr.fill, Value.cells, Nat.zero_mul]
  rw [if_neg (by simp [h1, h2])]
  simpa [Nat.zero_add] using this
/-- a literal of one struct, or of none. -/
theorem o_bslG1 {α : Type} {enc : α → List Value} {e : TypeId} {sz bytes : Nat} {parts : Array (Nat × Operand)} {zs : List Value} (c : α) (H : Hp w0 w S L) (hT : SlTy P t e sz bytes) (hz : zeroCells P e = some zs) (_hzs : zs.length = sz) (h0 : 0 < sz) (hsm : sz ≤ 16777216)
    (hp : pvs n σ parts.toList = [(0, .agg (enc c).toArray)]) (hc : (enc c).length = sz)
    (h : ∀ b w', Hp w0 w' S (L ++ [.own (some b) 1 1 ([c].flatMap enc) e sz]) → w0.heap.size ≤ b → K (mk n (up σ d (.slice (hd (some b)) 1 1))) w') :
    Oper.wp P ⟨some d, .buildSlice t 1 parts, ty, pos, aft, g⟩ (mk n σ) w K Q := by
  refine o_bsl (cells := (enc c).toArray) H hT hz h0 hp (by omega) ?_ fun b w' H' hb => h b w' ?_ hb
  · have hzl : ((Array.range (1 * sz)).map (zs.toArray[· % zs.toArray.size]!)).toList.length = sz := by simp
    have := fill_row sz ((Array.range (1 * sz)).map (zs.toArray[· % zs.toArray.size]!)).toList (enc c) hzl hc
    rwa [Array.toArray_toList] at this
  · have := H'.toOwn (i := L.length) (len := 1) (cap := 1) (sz := sz) (b := b) (C := enc c) (T := e) (by simp) (Nat.le_refl _) (by decide) (by omega)
    rw [List.set_append_right _ _ (Nat.le_refl _), Nat.sub_self, List.take_of_length_le (by omega)] at this
    simpa using this
/-- an array within a struct as a slice. -/
theorem r_slAo {lo hi mx : Option Operand} {b o len sz h m : Nat} {lv hv mv : Option Value} (hx : ev n σ x = .pointer (some ⟨b, o, none⟩)) (ht : arrOf P t = some (len, sz))
    (hl : lo.map (ev n σ) = lv) (hh : hi.map (ev n σ) = hv) (hm : mx.map (ev n σ) = mv) (hb : ∀ w, (Instr.sliceBounds false len len lv hv mv).run P w = .ok (0, h, m) w) :
    (execOp (ev n σ) ⟨some d, .slice t x lo hi mx, ty, pos, aft, g⟩).run P w = .ok (.value (.slice (some ⟨b, o, none⟩) h m)) w := by
  have := r_sla (P := P) (w := w) (d := d) (ty := ty) (pos := pos) (aft := aft) (g := g) hx ht hl hh hm hb
  rwa [sa_zero, Nat.sub_zero, Nat.sub_zero] at this
theorem Hp.slTail (H : Hp w0 w S L) {i b o k : Nat} {pre : List Value} {l : List UInt8} {T : TypeId} (hi : L[i]? = some (.blk b (pre ++ l.map V8) T)) (ho : pre.length = o) (hk : l.length = k) (hm : k ≤ 9223372036854775807) : (⟨some ⟨b, o, none⟩, k, k, l⟩ : Sl).ok w := by
  have h := Ch.rd_blk (H.has _ (List.mem_of_getElem? hi)) o
  rw [← ho, List.drop_left] at h
  rw [← ho]
  exact ⟨h, hk, Nat.le_refl _, hm⟩
end
end Go.Proofs.Ytjmbbhnpfmblpaa
namespace Go.Proofs.Ytjmbbhnpfmblpaa
open Go
set_option maxRecDepth 100000
/-- a number in groups of seven bits. -/
def cnt (v : Nat) : List UInt8 := if 127 < v then (UInt8.ofNat v ||| 128) :: cnt (v / 128) else [UInt8.ofNat v]
termination_by v
decreasing_by omega
theorem cnt_more (v : UInt64) (h : 127 < v.toNat) : cnt v.toNat = (v.toUInt8 ||| 128) :: cnt (v >>> UInt64.ofNat 7).toNat := by
  have e : (v >>> UInt64.ofNat 7).toNat = v.toNat / 128 := by
    have e7 : (UInt64.ofNat 7).toNat % 64 = 7 := rfl
    rw [UInt64.toNat_shiftRight, e7, Nat.shiftRight_eq_div_pow]
  have e2 : v.toUInt8 = UInt8.ofNat v.toNat := by
    apply UInt8.toNat_inj.1; rw [UInt64.toNat_toUInt8, UInt8.toNat_ofNat']
  rw [cnt, if_pos h, e, e2]
theorem cnt_less (v : UInt64) (h : ¬ 127 < v.toNat) : cnt v.toNat = [v.toUInt8] := by
  have e2 : v.toUInt8 = UInt8.ofNat v.toNat := by
    apply UInt8.toNat_inj.1; rw [UInt64.toNat_toUInt8, UInt8.toNat_ofNat']
  rw [cnt, if_neg h, e2]
theorem shr7 (v : UInt64) : (v >>> UInt64.ofNat 7).toNat = v.toNat / 128 := by
  have e7 : (UInt64.ofNat 7).toNat % 64 = 7 := rfl
  rw [UInt64.toNat_shiftRight, e7, Nat.shiftRight_eq_div_pow]
def zigU (v : Int) : UInt64 := (UInt64.ofInt v <<< UInt64.ofNat 1) ^^^ UInt64.ofInt (v / 2 ^ (63 : Int).toNat)
theorem cnt_bound (x ln s : Nat) (hx : x < 2 ^ (64 - 7 * (ln - s))) (h : 127 < x) (h1 : s ≤ ln) (h2 : ln ≤ s + 10) : ln + 1 ≤ s + 10 ∧ x / 128 < 2 ^ (64 - 7 * (ln + 1 - s)) := by
  obtain ⟨k, rfl⟩ : ∃ k, ln = s + k := ⟨ln - s, by omega⟩
  rw [Nat.add_sub_cancel_left] at hx
  have hk : k < 9 := by
    refine Nat.lt_of_not_le fun hk => ?_
    have : 2 ^ (64 - 7 * k) ≤ 2 ^ 1 := Nat.pow_le_pow_right (by decide) (by omega)
    omega
  refine ⟨by omega, ?_⟩
  rw [show s + k + 1 - s = k + 1 by omega]
  have e : 2 ^ (64 - 7 * k) = 2 ^ (64 - 7 * (k + 1)) * 128 := by
    rw [show (128 : Nat) = 2 ^ 7 from rfl, ← Nat.pow_add]; congr 1; omega
  rw [e] at hx
  exact Nat.div_lt_of_lt_mul (by omega)
theorem count_ret (w0 : World) (s : Sl) (hs : s.ok w0) (u : UInt64) (hm : s.len ≤ 1048576) :
    Ret Try.prog 146 [s.v, V64 u] w0 fun v w' => ∃ a n c, v = .slice (hd a) n c ∧ n ≤ s.len + 11 ∧ Hp w0 w' [] [.own a n c ((s.l ++ cnt u.toNat).map V8) 5 1] := by
  refine ret_mk Try.func146 rfl Try.ntmps146 (by simp) ?_
  have H := Hp.refl w0 []
  repeat refine c_seq ?_
  refine c_region ?_
  refine l_op (o_val (r_as) ?_)
  first | refine l_end ?_ | refine l_nil ?_
  repeat refine c_seq ?_
  refine c_region ?_
  refine l_op (o_val (r_mv) ?_)
  refine l_op (o_callR Try.func140 rfl rfl rfl (own_ret _ s (hs.up H (fun _ => apart_nil _)) 10 (by omega)) ?_)
  rintro _ w ⟨a1, c2, rfl, Hc⟩
  replace H : Hp _ w _ ([.own a1 s.len c2 ((s.l).map V8) 5 1]) := H.call Hc
  clear Hc
  refine l_op (o_val (r_as) ?_)
  first | refine l_end ?_ | refine l_nil ?_
  repeat refine c_seq ?_
  refine c_block ?_
  repeat refine c_seq ?_
  refine c_loop5 (fun (x : UInt64) (l : List UInt8) (a : Option Nat) (ln : Nat) (c : Nat) => [(1, V64 x), (5, .slice (hd a) ln c)])
    (fun (x : UInt64) (l : List UInt8) (a : Option Nat) (ln : Nat) (c : Nat) w => (l ++ cnt x.toNat = s.l ++ cnt u.toNat ∧ ln ≤ s.len + 10 ∧ x.toNat < 2 ^ (64 - 7 * (ln - s.len)) ∧ s.len ≤ ln) ∧ Hp w0 w [] ([.own a ln c ((l).map V8) 5 1]))
    (fun (x : UInt64) (l : List UInt8) (a : Option Nat) (ln : Nat) (c : Nat) => x.toNat) u s.l a1 s.len c2 ⟨rfl, rfl, trivial⟩ ⟨⟨rfl, by omega, by rw [Nat.sub_self]; exact u.toNat_lt, Nat.le_refl _⟩, H⟩ ?_
  clear H
  rintro x l a ln c τ w ⟨⟨hl, hln, hx, hge⟩, H⟩
  repeat refine c_seq ?_
  refine c_region ?_
  refine l_op (o_val (r_mv) ?_)
  refine l_op (o_val (r_bin (a := (x.toNat : Int)) (b := 127) rfl rfl (fun _ => b_gtr)) ?_)
  first | refine l_end ?_ | refine l_nil ?_
  by_cases hc3 : 127 < (x.toNat : Int)
  ·
   repeat refine c_seq ?_
   refine c_yes (by exact congrArg Value.bool (decide_eq_true hc3)) ?_
   refine c_skip ?_
   repeat refine c_seq ?_
   refine c_block ?_
   repeat refine c_seq ?_
   refine c_region ?_
   refine l_op (o_val (r_mv) ?_)
   refine l_op (o_val (r_mv) ?_)
   refine l_op (o_val (r_conv Try.underlying35 Try.underlying5 rfl (w_u8_64 _)) ?_)
   refine l_op (o_val (r_bin rfl (c8 128 (by decide)) (fun _ => b_or_u8)) ?_)
   refine l_op (o_bslB ([x.toUInt8 ||| (128 : UInt8)]) H sl29 zc5 rfl rfl (by decide) (fun b4 w H hb4 => ?_))
   replace H : Hp _ w _ ([_, .own (some b4) 1 1 (([x.toUInt8 ||| (128 : UInt8)]).map V8) 5 1]) := H
   refine l_op (o_appB (s := ⟨hd (some b4), 1, 1, [x.toUInt8 ||| (128 : UInt8)]⟩) (l' := l ++ ([x.toUInt8 ||| (128 : UInt8)])) (len' := ln + 1) rfl rfl H (i := 0) rfl sl29 Try.underlying29 rfl rfl (H.slOwn (i := 1) rfl) (by omega) (fun a5 c6 w H => ?_))
   replace H : Hp _ w _ ([.own a5 (ln + 1) c6 ((l ++ ([x.toUInt8 ||| (128 : UInt8)])).map V8) 5 1, _]) := H
   refine l_op (o_val (r_as) ?_)
   first | refine l_end ?_ | refine l_nil ?_
   repeat refine c_seq ?_
   refine c_region ?_
   refine l_op (o_val (r_mv) ?_)
   refine l_op (o_val (r_shift rfl rfl (.inr rfl) (fun _ => b_shr_u64N 7 (by omega))) ?_)
   refine l_op (o_val (r_as) ?_)
   first | refine l_end ?_ | refine l_nil ?_
   have hb7 := cnt_bound x.toNat ln s.len hx (by omega) hge hln
   refine round_end (x >>> UInt64.ofNat 7, l ++ ([x.toUInt8 ||| (128 : UInt8)]), a5, ln + 1, c6) ?_ ?_ ?_
   · exact ⟨show V64 (x >>> UInt64.ofNat 7) = V64 (x >>> UInt64.ofNat 7 : UInt64) from congrArg V64 rfl, rfl, trivial⟩
   · refine ⟨?_, ?_⟩
     · try dsimp only
       exact ⟨by rw [cnt_more x (by omega)] at hl; simpa using hl, by omega, by rw [shr7]; exact hb7.2, by omega⟩
     · exact H.sub (.cons_cons _ (List.nil_sublist _))
   · show (x >>> UInt64.ofNat 7).toNat < x.toNat; rw [shr7]; omega
  ·
   repeat refine c_seq ?_
   refine c_no (by exact congrArg Value.bool (decide_eq_false hc3)) ?_
   refine c_exit ?_
   repeat refine c_seq ?_
   refine c_region ?_
   refine l_op (o_val (r_mv) ?_)
   refine l_op (o_val (r_mv) ?_)
   refine l_op (o_val (r_conv Try.underlying35 Try.underlying5 rfl (w_u8_64 _)) ?_)
   refine l_op (o_bslB ([x.toUInt8]) H sl29 zc5 rfl rfl (by decide) (fun b7 w H hb7 => ?_))
   replace H : Hp _ w _ ([_, .own (some b7) 1 1 (([x.toUInt8]).map V8) 5 1]) := H
   refine l_op (o_appB (s := ⟨hd (some b7), 1, 1, [x.toUInt8]⟩) (l' := l ++ ([x.toUInt8])) (len' := ln + 1) rfl rfl H (i := 0) rfl sl29 Try.underlying29 rfl rfl (H.slOwn (i := 1) rfl) (by omega) (fun a8 c9 w H => ?_))
   replace H : Hp _ w _ ([.own a8 (ln + 1) c9 ((l ++ ([x.toUInt8])).map V8) 5 1, _]) := H
   refine l_op (o_val (r_as) ?_)
   first | refine l_end ?_ | refine l_nil ?_
   refine c_ret ?_
   try dsimp only [Exit.then, Exit.inBlock]
   refine e_ret1 (v := .slice (hd a8) (ln + 1) c9) Try.results146 rfl ?_
   refine ⟨_, rfl, ?_⟩
   refine ⟨_, _, _, rfl, by omega, ?_⟩
   rw [cnt_less x (by omega)] at hl
   rw [← hl]
   exact H.sub (.cons_cons _ (List.nil_sublist _))
theorem text_ret (w0 : World) (s u : Sl) (hs : s.ok w0) (hu : u.ok w0) (hm : s.len ≤ 1048576) (hn : u.len ≤ 65536) :
    Ret Try.prog 127 [s.v, u.v] w0 fun v w' => ∃ a n c, v = .tuple #[.slice (hd a) n c, VI 0] ∧ n ≤ s.len + 11 + u.len ∧ Hp w0 w' [] [.own a n c ((s.l ++ cnt u.len ++ u.l).map V8) 5 1] := by
  refine ret_mk Try.func127 rfl Try.ntmps127 (by simp) ?_
  have H := Hp.refl w0 []
  repeat refine c_seq ?_
  refine c_region ?_
  refine l_op (o_val (r_as) ?_)
  refine l_op (o_val (r_as) ?_)
  first | refine l_end ?_ | refine l_nil ?_
  repeat refine c_seq ?_
  refine c_region ?_
  refine l_op (o_val (r_mv) ?_)
  refine l_op (o_val (r_lens el29 rfl) ?_)
  refine l_op (o_val (r_bin (a := (u.len : Int)) (b := 65536) rfl rfl (fun _ => b_gtrB false (decide_eq_false (by omega)))) ?_)
  first | refine l_end ?_ | refine l_nil ?_
  repeat refine c_seq ?_
  refine c_no rfl ?_
  refine c_skip ?_
  repeat refine c_seq ?_
  refine c_region ?_
  refine l_op (o_val (r_mv) ?_)
  refine l_op (o_val (r_mv) ?_)
  refine l_op (o_val (r_lens el29 rfl) ?_)
  refine l_op (o_val (r_conv (v := ((UInt64.ofNat u.len).toNat : Int)) Try.underlying3 Try.underlying35 rfl (w_u64_N u.len (by omega))) ?_)
  refine l_op (o_callR Try.func146 rfl rfl rfl (count_ret _ s (hs.up H (fun _ => apart_nil _)) (UInt64.ofNat u.len) (by (try simp only [Sl.cut]); omega)) ?_)
  rintro _ w ⟨a1, n2, c3, rfl, hn4, Hc⟩
  replace H : Hp _ w _ ([.own a1 n2 c3 ((s.l ++ cnt (UInt64.ofNat u.len).toNat).map V8) 5 1]) := H.call Hc
  clear Hc
  try dsimp only at hn4
  refine l_op (o_val (r_mv) ?_)
  refine l_op (o_appB (s := u) (l' := s.l ++ cnt (UInt64.ofNat u.len).toNat ++ u.l) (len' := n2 + u.len) rfl rfl H (i := 0) rfl sl29 Try.underlying29 rfl rfl (hu.up H (fun _ => apart_nil _)) (by omega) (fun a5 c6 w H => ?_))
  replace H : Hp _ w _ ([.own a5 (n2 + u.len) c6 ((s.l ++ cnt (UInt64.ofNat u.len).toNat ++ u.l).map V8) 5 1]) := H
  refine l_op (o_val (r_as) ?_)
  refine l_op (o_val (r_as) ?_)
  first | refine l_end ?_ | refine l_nil ?_
  refine c_ret ?_
  try dsimp only [Exit.then, Exit.inBlock]
  refine e_retN (vs := [.slice (hd a5) (n2 + u.len) c6, VI 0]) _ Try.results127 rfl (resT (v := .slice (hd a5) (n2 + u.len) c6) rfl (resT (v := VI 0) rfl (resZ))) ?_
  refine ⟨_, rfl, ?_⟩
  refine ⟨_, _, _, rfl, by omega, ?_⟩
  rw [ofNat_nat _ (by omega)] at H
  exact H
end Go.Proofs.Ytjmbbhnpfmblpaa
namespace Go.Proofs.Ytjmbbhnpfmblpaa
open Go
set_option maxRecDepth 100000
theorem Gl.ok_nil {α : Type} {enc : α → List Value} {sz : Nat} (w : World) : (⟨none, 0, 0, []⟩ : Gl α).ok enc sz w := ⟨.inl rfl, rfl, Nat.le_refl _, Nat.zero_le _, fun c hc => (by cases hc)⟩
def rMay (r : UInt8) : Bool := decide (((r &&& ~~~(15 : UInt8)).toNat : Int) = 0)
def nm1 (c : UInt8) : Bool := (decide (97 ≤ c.toNat) && decide (c.toNat ≤ 122)) || (decide (48 ≤ c.toNat) && decide (c.toNat ≤ 57)) || decide (c.toNat = 45)
/-- may these bytes be a tenant's name? -/
def nameMay (l : List UInt8) : Bool := decide (1 ≤ l.length) && decide (l.length ≤ 16) && decide (97 ≤ (l.getD 0 0).toNat) && decide ((l.getD 0 0).toNat ≤ 122) && l.all nm1
abbrev Cav := UInt8 × Int
/-- a token, as a world has it. -/
structure Tok where
  serial : UInt64
  tenant : List UInt8
  rights : UInt8
  from_ : Int
  until_ : Int
  cs : Gl Cav
  tag : List UInt8
def timeB (v : Int) : List UInt8 := be (zigU v).toNat 8
def cavB (c : Cav) : List UInt8 := [c.1] ++ timeB c.2
def headB (serial : UInt64) (tenant : List UInt8) (rights : UInt8) (from_ until_ : Int) : List UInt8 := be serial.toNat 8 ++ cnt tenant.length ++ tenant ++ [rights] ++ timeB from_ ++ timeB until_
def Tok.head (t : Tok) : List UInt8 := headB t.serial t.tenant t.rights t.from_ t.until_
end Go.Proofs.Ytjmbbhnpfmblpaa
namespace Go.Proofs.Ytjmbbhnpfmblpaa
open Go Go.ChangeShapes Go.WideShapes Go.ChangeAt Go.RowKit Go.Deep Go.ChangeMaps
set_option maxRecDepth 100000
section
variable {H : Type} {enc : TypeId × Value → H} {W : World} {base : Nat} {spare : Nat → Bool} {held : Bool}
instance : Inhabited Cav := ⟨(0, 0)⟩
theorem open_u64v {fuel : Nat} {cs : List Value} {x : DataW H × List MemPlace} {t : TypeId} (ht : Try.prog.underlying t = some (.int .u64)) (h : DataW.trod enc Try.prog W base spare held fuel t cs = some x) : ∃ u : UInt64, cs = [V64 u] := by
  obtain ⟨n, rfl, _, hw⟩ := DataW.trod_int ht h
  have hb := bounds_u64 hw
  refine ⟨UInt64.ofNat n.toNat, ?_⟩
  simp only [V64, UInt64.toNat_ofNat']
  congr 2; omega
theorem open_agg {v : Value} {cs : List Value} (h : v.cells.toList = cs) (hl : 1 < cs.length) : v = .agg cs.toArray := by
  cases v <;> simp only [Value.cells] at h <;> first | (subst h; simp at hl; done) | skip
  subst h; simp
end
end Go.Proofs.Ytjmbbhnpfmblpaa
namespace Go.Proofs.Ytjmbbhnpfmblpaa
open Go
set_option maxRecDepth 100000
def cavsB (cs : List Cav) : List UInt8 := cs.flatMap cavB
/-- a token's bytes. -/
def Tok.bytes (t : Tok) : List UInt8 := [1] ++ t.head ++ [UInt8.ofNat t.cs.len] ++ cavsB t.cs.l ++ t.tag
end Go.Proofs.Ytjmbbhnpfmblpaa
namespace Go.Proofs.Ytjmbbhnpfmblpaa
open Go
set_option maxRecDepth 100000
/-- numbers of a token are such as int64 has. -/
structure Tok.bd (t : Tok) : Prop where
  f : -9223372036854775808 ≤ t.from_ ∧ t.from_ ≤ 9223372036854775807
  u : -9223372036854775808 ≤ t.until_ ∧ t.until_ ≤ 9223372036854775807
  cs : ∀ c ∈ t.cs.l, -9223372036854775808 ≤ c.2 ∧ c.2 ≤ 9223372036854775807
end Go.Proofs.Ytjmbbhnpfmblpaa
namespace Go.Proofs.Ytjmbbhnpfmblpaa
open Go
set_option maxRecDepth 100000
/-- the number that bytes make, the highest first. -/
def ofbe (l : List UInt8) : Nat := l.foldl (fun a b => a * 256 + b.toNat) 0
theorem ofbe_snoc (l : List UInt8) (b : UInt8) : ofbe (l ++ [b]) = ofbe l * 256 + b.toNat := by simp [ofbe]
theorem ofbe_lt (l : List UInt8) : ofbe l < 256 ^ l.length := by
  suffices h : ∀ n (l : List UInt8), l.length = n → ofbe l < 256 ^ n from h _ l rfl
  intro n
  induction n with
  | zero => intro l hl; rw [List.length_eq_zero_iff.1 hl]; decide
  | succ n ih =>
    intro l hl
    obtain ⟨r, b, rfl⟩ : ∃ r b, l = r ++ [b] := by
      refine ⟨l.dropLast, l.getLast (by intro e; subst e; simp at hl), (List.dropLast_concat_getLast _).symm⟩
    have := ih r (by simpa using hl)
    have hb := u8_lt b
    rw [ofbe_snoc, Nat.pow_succ]; omega
theorem shl_or (v : UInt64) (x : UInt8) : (v <<< UInt64.ofNat 8) ||| x.toUInt64 = v * 256 + x.toUInt64 := by
  apply UInt64.toNat_inj.1
  have hx := u8_lt x
  have e8 : (UInt64.ofNat 8).toNat % 64 = 8 := rfl
  rw [UInt64.toNat_or, UInt64.toNat_add, UInt64.toNat_mul, UInt64.toNat_shiftLeft, e8, UInt8.toNat_toUInt64, Nat.shiftLeft_eq]
  have e1 : v.toNat * 2 ^ 8 % 2 ^ 64 = (v.toNat % 2 ^ 56) * 2 ^ 8 := by omega
  have e2 : (256 : UInt64).toNat = 256 := rfl
  rw [e1, ← Nat.shiftLeft_eq, ← Nat.shiftLeft_add_eq_or_of_lt (by omega), Nat.shiftLeft_eq, e2]
  omega
theorem num_step (m : Nat) (x : UInt8) : UInt64.ofNat m * 256 + x.toUInt64 = UInt64.ofNat (m * 256 + x.toNat) := by
  rw [UInt64.ofNat_add, UInt64.ofNat_mul, u8_u64]; rfl
theorem take_snoc (l : List UInt8) (i : Nat) (h : i < l.length) : l.take (i + 1) = l.take i ++ [l.getD i 0] := by
  rw [List.take_add_one, List.getD_eq_getElem?_getD]; simp [h]
def num (l : List UInt8) (at_ n : Nat) : UInt64 := UInt64.ofNat (ofbe ((l.drop at_).take n))
def nump (l : List UInt8) (at_ i : Nat) : UInt64 := UInt64.ofNat (ofbe ((l.drop at_).take i))
theorem nump_succ (l : List UInt8) (a i : Nat) (h : a + i < l.length) (x : UInt8) (hx : x = l.getD (a + i) 0) : nump l a i * 256 + x.toUInt64 = nump l a (i + 1) := by
  have e : (l.drop a).getD i 0 = x := by rw [hx, List.getD_eq_getElem?_getD, List.getD_eq_getElem?_getD, List.getElem?_drop]
  rw [nump, nump, num_step, take_snoc _ _ (by simp; omega), ofbe_snoc, e]
theorem getD_cut (l : List UInt8) (a n i : Nat) (hi : i < n) : ((l.drop a).take n).getD i 0 = l.getD (a + i) 0 := by
  rw [List.getD_eq_getElem?_getD, List.getD_eq_getElem?_getD, List.getElem?_take_of_lt hi, List.getElem?_drop]
theorem at_ok (w0 : World) (s : Sl) (hs : s.ok w0) (at_ n : Nat) (h1 : 1 ≤ n) (h8 : n ≤ 8) (hat : at_ ≤ 1099511627776) (hl : at_ + n ≤ s.len) :
    Ret Try.prog 112 [s.v, VI (at_ : Int), VI (n : Int)] w0 fun v w' => v = .tuple #[V64 (num s.l at_ n), VI 0] ∧ Hp w0 w' [] [] := by
  refine ret_mk Try.func112 rfl Try.ntmps112 (by simp) ?_
  have H := Hp.refl w0 []
  have hsl := hs.ln
  have hle := hs.le
  have hmx := hs.mx
  repeat refine c_seq ?_
  refine c_region ?_
  refine l_op (o_val (r_asV (c64 0 (by decide))) ?_)
  refine l_op (o_val (r_as) ?_)
  first | refine l_end ?_ | refine l_nil ?_
  repeat refine c_seq ?_
  refine c_block ?_
  repeat refine c_seq ?_
  refine c_region ?_
  refine l_op (o_val (r_mv) ?_)
  refine l_op (o_val (r_bin (a := (n : Int)) (b := 1) rfl rfl (fun _ => b_lssB false (decide_eq_false (by omega)))) ?_)
  refine l_op (o_val (r_mv) ?_)
  refine l_yes rfl rfl rfl (o_val (r_mv) ?_)
  refine l_yes rfl rfl rfl (o_val (r_bin (a := (n : Int)) (b := 8) rfl rfl (fun _ => b_gtrB false (decide_eq_false (by omega)))) ?_)
  refine l_op (o_val (r_pick rfl) ?_)
  refine l_op (o_val (r_mv) ?_)
  refine l_yes rfl rfl rfl (o_val (r_mv) ?_)
  refine l_yes rfl rfl rfl (o_val (r_bin (a := (at_ : Int)) (b := 0) rfl rfl (fun _ => b_lssB false (decide_eq_false (by omega)))) ?_)
  refine l_op (o_val (r_pick rfl) ?_)
  refine l_op (o_val (r_as) ?_)
  first | refine l_end ?_ | refine l_nil ?_
  repeat refine c_seq ?_
  refine c_no rfl ?_
  repeat refine c_seq ?_
  refine c_region ?_
  refine l_op (o_val (r_mv) ?_)
  refine l_op (o_val (r_mv) ?_)
  refine l_op (o_val (r_lens el29 rfl) ?_)
  refine l_op (o_val (r_mv) ?_)
  refine l_op (o_val (r_bin (a := (s.len : Int)) (b := (n : Int)) rfl rfl (fun _ => b_sub (by omega) (by omega))) ?_)
  refine l_op (o_val (r_bin (a := (at_ : Int)) (b := (s.len : Int) - (n : Int)) rfl rfl (fun _ => b_gtrB false (decide_eq_false (by omega)))) ?_)
  refine l_op (o_val (r_as) ?_)
  first | refine l_end ?_ | refine l_nil ?_
  repeat refine c_seq ?_
  refine c_no rfl ?_
  refine c_skip ?_
  repeat refine c_seq ?_
  refine c_region ?_
  refine l_op (o_val (r_asV (c64 0 (by decide))) ?_)
  first | refine l_end ?_ | refine l_nil ?_
  repeat refine c_seq ?_
  refine c_region ?_
  refine l_op (o_val (r_mv) ?_)
  refine l_op (o_val (r_mv) ?_)
  refine l_op (o_val (r_mv) ?_)
  refine l_op (o_val (r_mv) ?_)
  refine l_op (o_val (r_bin (a := (at_ : Int)) (b := (n : Int)) rfl rfl (fun _ => b_add (by omega) (by omega))) ?_)
  refine l_op (o_val (r_slS (s := s) at_ (at_ + n) s.cap (lv := some (VI (at_ : Int))) (hv := some (VI ((at_ : Int) + (n : Int)))) (mv := none) rfl el29 rfl rfl rfl (fun w => by exact sblh at_ (at_ + n) (by omega) (by omega) (by (try simp only [Sl.cut]); omega) (by (try simp only [Sl.cut]); omega) w)) ?_)
  refine l_op (o_val (r_lens el29 rfl) ?_)
  refine l_op (o_val (r_mv) ?_)
  first | refine l_end ?_ | refine l_nil ?_
  repeat refine c_seq ?_
  refine c_block ?_
  repeat refine c_seq ?_
  refine c_loop (fun (i : Nat) => [(8, V64 (nump s.l at_ i)), (34, (Sl.cut s at_ (at_ + n) s.cap).v), (35, VI ((at_ + n - at_ : Nat) : Int)), (36, VI (i : Int))])
    (fun (i : Nat) w => (i ≤ n) ∧ Hp w0 w [] ([]))
    (fun (i : Nat) => n - i) 0 ⟨rfl, rfl, rfl, rfl, trivial⟩ ⟨Nat.zero_le _, H⟩ ?_
  clear H
  rintro i τ w ⟨hi, H⟩
  repeat refine c_seq ?_
  refine c_region ?_
  refine l_op (o_val (r_bin (a := (i : Int)) (b := ((at_ + n - at_ : Nat) : Int)) rfl rfl (fun _ => b_lss)) ?_)
  first | refine l_end ?_ | refine l_nil ?_
  by_cases hc1 : (i : Int) < ((at_ + n - at_ : Nat) : Int)
  ·
   repeat refine c_seq ?_
   refine c_yes (by exact congrArg Value.bool (decide_eq_true hc1)) ?_
   refine c_skip ?_
   repeat refine c_seq ?_
   refine c_block ?_
   repeat refine c_seq ?_
   refine c_region ?_
   have ah4 := (((hs.up H (fun _ => apart_nil _)).cut (l := at_) (h := at_ + n) (m := s.cap) (by omega) (by (try simp only [Sl.cut]); omega) (by omega) (by (try simp only [Sl.cut]); omega))).addr (by (try simp only [Sl.cut]); omega)
   obtain ⟨ab2, ao3, ah4⟩ := ah4
   refine l_op (o_val (r_isN i rfl rfl el29 ah4 (by omega) (by (try simp only [Sl.cut]); omega)) ?_)
   refine l_op (o_val (r_ldB (s := (Sl.cut s at_ (at_ + n) s.cap)) (k := i) ((hs.up H (fun _ => apart_nil _)).cut (l := at_) (h := at_ + n) (m := s.cap) (by omega) (by (try simp only [Sl.cut]); omega) (by omega) (by (try simp only [Sl.cut]); omega)) ah4 rfl ct5 (by (try simp only [Sl.cut]); omega)) ?_)
   refine l_op (o_val (r_as) ?_)
   first | refine l_end ?_ | refine l_nil ?_
   repeat refine c_seq ?_
   refine c_region ?_
   refine l_op (o_val (r_mv) ?_)
   refine l_op (o_val (r_shift rfl rfl (.inl rfl) (fun _ => b_shl_u64N 8 (by omega))) ?_)
   refine l_op (o_val (r_mv) ?_)
   refine l_op (o_val (r_conv Try.underlying5 Try.underlying35 rfl (w_u64_8 _)) ?_)
   refine l_op (o_val (r_bin rfl rfl (fun _ => b_or_u64)) ?_)
   refine l_op (o_val (r_as) ?_)
   first | refine l_end ?_ | refine l_nil ?_
   repeat refine c_seq ?_
   refine c_region ?_
   refine l_op (o_val (r_bin (a := (i : Int)) (b := 1) rfl rfl (fun _ => b_add (by omega) (by omega))) ?_)
   refine l_op (o_val (r_mv) ?_)
   first | refine l_end ?_ | refine l_nil ?_
   refine round_end (i + 1) ?_ ?_ ?_
   · exact ⟨show V64 (((nump s.l at_ i) <<< UInt64.ofNat 8) ||| (((((s.l).drop at_).take (at_ + n - at_)).getD i 0).toUInt64)) = V64 (nump s.l at_ (i + 1 : Nat)) from congrArg V64 (by rw [shl_or, getD_cut _ _ _ _ (by omega)]; exact nump_succ _ _ _ (by omega) _ rfl), rfl, rfl, show VI ((i : Int) + 1) = VI ((i + 1 : Nat) : Int) from congrArg VI (by omega), trivial⟩
   · refine ⟨?_, ?_⟩
     · try dsimp only
       exact by omega
     · exact H
   · show n - (i + 1 : Nat) < n - i; omega
  ·
   repeat refine c_seq ?_
   refine c_no (by exact congrArg Value.bool (decide_eq_false hc1)) ?_
   refine c_exit ?_
   repeat refine c_seq ?_
   refine c_region ?_
   refine l_op (o_val (r_mv) ?_)
   refine l_op (o_val (r_as) ?_)
   refine l_op (o_val (r_as) ?_)
   first | refine l_end ?_ | refine l_nil ?_
   refine c_ret ?_
   try dsimp only [Exit.then, Exit.inBlock]
   refine e_retN (vs := [V64 (nump s.l at_ i), VI 0]) _ Try.results112 rfl (resT (v := V64 (nump s.l at_ i)) rfl (resT (v := VI 0) rfl (resZ))) ?_
   refine ⟨_, rfl, ?_⟩
   have hin : i = n := by omega
   subst hin
   exact ⟨by rw [num, ← nump], H⟩
theorem at_short (w0 : World) (s : Sl) (hs : s.ok w0) (at_ n : Nat) (h1 : 1 ≤ n) (h8 : n ≤ 8) (hat : at_ ≤ 1099511627776) (hl : s.len < at_ + n) :
    Ret Try.prog 112 [s.v, VI (at_ : Int), VI (n : Int)] w0 fun v w' => v = .tuple #[V64 0, VI 3] ∧ Hp w0 w' [] [] := by
  refine ret_mk Try.func112 rfl Try.ntmps112 (by simp) ?_
  have H := Hp.refl w0 []
  have hsl := hs.ln
  have hle := hs.le
  have hmx := hs.mx
  repeat refine c_seq ?_
  refine c_region ?_
  refine l_op (o_val (r_asV (c64 0 (by decide))) ?_)
  refine l_op (o_val (r_as) ?_)
  first | refine l_end ?_ | refine l_nil ?_
  repeat refine c_seq ?_
  refine c_block ?_
  repeat refine c_seq ?_
  refine c_region ?_
  refine l_op (o_val (r_mv) ?_)
  refine l_op (o_val (r_bin (a := (n : Int)) (b := 1) rfl rfl (fun _ => b_lssB false (decide_eq_false (by omega)))) ?_)
  refine l_op (o_val (r_mv) ?_)
  refine l_yes rfl rfl rfl (o_val (r_mv) ?_)
  refine l_yes rfl rfl rfl (o_val (r_bin (a := (n : Int)) (b := 8) rfl rfl (fun _ => b_gtrB false (decide_eq_false (by omega)))) ?_)
  refine l_op (o_val (r_pick rfl) ?_)
  refine l_op (o_val (r_mv) ?_)
  refine l_yes rfl rfl rfl (o_val (r_mv) ?_)
  refine l_yes rfl rfl rfl (o_val (r_bin (a := (at_ : Int)) (b := 0) rfl rfl (fun _ => b_lssB false (decide_eq_false (by omega)))) ?_)
  refine l_op (o_val (r_pick rfl) ?_)
  refine l_op (o_val (r_as) ?_)
  first | refine l_end ?_ | refine l_nil ?_
  repeat refine c_seq ?_
  refine c_no rfl ?_
  repeat refine c_seq ?_
  refine c_region ?_
  refine l_op (o_val (r_mv) ?_)
  refine l_op (o_val (r_mv) ?_)
  refine l_op (o_val (r_lens el29 rfl) ?_)
  refine l_op (o_val (r_mv) ?_)
  refine l_op (o_val (r_bin (a := (s.len : Int)) (b := (n : Int)) rfl rfl (fun _ => b_sub (by omega) (by omega))) ?_)
  refine l_op (o_val (r_bin (a := (at_ : Int)) (b := (s.len : Int) - (n : Int)) rfl rfl (fun _ => b_gtrB true (decide_eq_true (by omega)))) ?_)
  refine l_op (o_val (r_as) ?_)
  first | refine l_end ?_ | refine l_nil ?_
  repeat refine c_seq ?_
  refine c_yes rfl ?_
  repeat refine c_seq ?_
  refine c_region ?_
  refine l_op (o_val (r_asV (c64 0 (by decide))) ?_)
  refine l_op (o_val (r_as) ?_)
  first | refine l_end ?_ | refine l_nil ?_
  refine c_ret ?_
  try dsimp only [Exit.then, Exit.inBlock]
  refine e_retN (vs := [V64 (0 : UInt64), VI 3]) _ Try.results112 rfl (resT (v := V64 (0 : UInt64)) rfl (resT (v := VI 3) rfl (resZ))) ?_
  refine ⟨_, rfl, ?_⟩
  exact ⟨rfl, H⟩
end Go.Proofs.Ytjmbbhnpfmblpaa
namespace Go.Proofs.Ytjmbbhnpfmblpaa
open Go
set_option maxRecDepth 100000
/-- a token as data. -/
structure TV where
  serial : UInt64
  tenant : List UInt8
  rights : UInt8
  from_ : Int
  until_ : Int
  cs : List Cav
  tag : List UInt8
deriving DecidableEq
def TV.may (t : TV) : Bool := (decide (t.tenant = []) || nameMay t.tenant) && rMay t.rights && decide (t.cs.length ≤ 8) && t.cs.all fun c => rMay c.1
def TV.bytes (t : TV) : List UInt8 := [1] ++ headB t.serial t.tenant t.rights t.from_ t.until_ ++ [UInt8.ofNat t.cs.length] ++ cavsB t.cs ++ t.tag
def i64in (v : Int) : Prop := -9223372036854775808 ≤ v ∧ v ≤ 9223372036854775807
/-- what a token's data may be in a program. -/
structure TV.fits (t : TV) : Prop where
  f : i64in t.from_
  u : i64in t.until_
  c : ∀ c ∈ t.cs, i64in c.2
  tag : t.tag.length = 32
/-- where a token's parts stand. -/
def tkN (b : List UInt8) : Nat := (b.getD 9 0).toNat
def tkK (b : List UInt8) : Nat := (b.getD (27 + tkN b) 0).toNat
def tkShape (b : List UInt8) : Prop := tkN b ≤ 16 ∧ 60 + tkN b ≤ b.length ∧ tkK b ≤ 8 ∧ b.length = 60 + tkN b + 9 * tkK b
instance (b : List UInt8) : Decidable (tkShape b) := by unfold tkShape; infer_instance
end Go.Proofs.Ytjmbbhnpfmblpaa
namespace Go.Proofs.Ytjmbbhnpfmblpaa
open Go
section
variable {P : Program} {Q : Exit → Act → World → Prop} {n : Nat} {σ : Nat → Value} {w w0 : World} {K : Act → World → Prop}
  {ty : TypeId} {pos : String} {aft : Array Edge} {g : Option (Nat × Bool)} {d : Nat} {t yt : TypeId} {x y : Operand} {S : List Nat} {L : List Ch}
theorem part_cell {e : TypeId} (he : cellTy P e = true) {xs : Array Value} {off : Nat} {v : Value} (hx : xs[off]? = some v) : (part e xs off).run P w = .ok v w := by simp [part, run_isAgg_cell he, hx]
theorem part_row {e : TypeId} {k : Nat} (he : rowTy P e = some k) {xs : Array Value} {off : Nat} : (part e xs off).run P w = .ok (.agg (xs.extract off (off + k))) w := by
  simp [part, run_isAgg_row he, run_sizeOf_sz (sz_of_row he)]
theorem eqI_int {e : TypeId} {k : IntKind} (he : P.underlying e = some (.int k)) (dd : Nat) (a b : Int) : (Op.equalIn (dd + 1) e (.int k a) (.int k b)).run P w = .ok (decide (a = b)) w := by
  simp only [Op.equalIn, Sem.run_bind, run_underlying he, Result.andThen_ok]
  simp
  rw [Bool.eq_iff_iff]; simp
theorem eqI_str {e : TypeId} (he : P.underlying e = some .string) (dd : Nat) (a b : List UInt8) : (Op.equalIn (dd + 1) e (.string ⟨a.toArray⟩) (.string ⟨b.toArray⟩)).run P w = .ok (decide (a = b)) w := by
  simp only [Op.equalIn, Sem.run_bind, run_underlying he, Result.andThen_ok]
  simp only [Sem.run_pure]
  rw [beq_toListBytes, ba_toList, ba_toList, beq_dec]
theorem eqI_u8s {t e : TypeId} {m : Nat} (hu : P.underlying t = some (.array m e)) (he : P.underlying e = some (.int .u8)) (hc : cellSz P e = some 1) (dd : Nat) (a b : List UInt8) (ha : a.length = m) (hb : b.length = m) :
    (Op.equalIn (dd + 2) t (.agg (a.map V8).toArray) (.agg (b.map V8).toArray)).run P w = .ok (decide (a = b)) w := by
  cases hi : P.info? e with
  | none => simp [cellSz, hi] at hc
  | some i =>
    have hco : P.cellsOf e = 1 := by simpa [cellSz, hi, Program.cellsOf] using hc
    rw [run_equalIn_array w (dd + 1) _ _ hu hi, hco, eqItems_u8 he dd a b (by omega) w _ (by simp [ha])]
    congr 1
    rw [Bool.eq_iff_iff]
    simp only [List.all_eq_true, List.mem_range, beq_iff_eq, decide_eq_true_eq]
    constructor
    · intro h
      apply List.ext_getElem?
      intro j
      by_cases hj : j < m
      · exact h j hj
      · rw [List.getElem?_eq_none (by omega), List.getElem?_eq_none (by omega)]
    · rintro rfl j _; rfl
theorem eqF_nil (dd : Nat) (xs ys : Array Value) : (Op.eqFields dd xs ys []).run P w = .ok true w := by simp [Op.eqFields]
theorem eqF_cons {f : Field} {fs : List Field} {dd : Nat} {xs ys : Array Value} {a c : Value} {b r : Bool} (hn : f.name ≠ "_") (ha : (part f.type xs f.offset).run P w = .ok a w) (hc : (part f.type ys f.offset).run P w = .ok c w)
    (he : (Op.equalIn dd f.type a c).run P w = .ok b w) (h2 : (Op.eqFields dd xs ys fs).run P w = .ok r w) : (Op.eqFields dd xs ys (f :: fs)).run P w = .ok (b && r) w := by
  simp only [Op.eqFields, if_pos hn, Sem.run_bind, ha, hc, he, Result.andThen_ok]
  cases b <;> simp [h2]
theorem eqS_of {fs : Array Field} {xs ys : Array Value} {b : Bool} (ht : P.underlying t = some (.struct fs)) (hp : P.stoodInHeld t = false) (h : (Op.eqFields 9999 xs ys fs.toList).run P w = .ok b w) : (Op.equal t (.agg xs) (.agg ys)).run P w = .ok b w := by
  have hf : P.fieldsOf t = fs := by simp [Program.fieldsOf, ht]
  unfold Op.equal Op.maxDepth
  rw [run_equalIn_struct w 9999 t xs ys (by rw [hf]; exact ht) hp, hf]; exact h
theorem r_eqS {xs ys : Array Value} {b : Bool} (hg : P.eqGuardType P.depth t = false) (hx : ev n σ x = .agg xs) (hy : ev n σ y = .agg ys) (h : (Op.equal t (.agg xs) (.agg ys)).run P w = .ok b w) :
    (execOp (ev n σ) ⟨some d, .binOp .eql t x y yt, ty, pos, aft, g⟩).run P w = .ok (.value (.bool b)) w := by
  have e2 : binOp .eql t (.agg xs) (.agg ys) = (do pure (.bool (← Op.equal t (.agg xs) (.agg ys)))) := rfl
  have e3 : (eqGuard .eql t x y (.agg xs) (.agg ys)).run P w = .ok () w := by simp [eqGuard, hg]
  simp only [execOp, hx, hy, Sem.run_bind, e3, Result.andThen_ok, e2, h]
  simp
theorem all_tail {pre : List Value} {l : List UInt8} (h : pre.all (·.oneCell') = true) : (pre ++ l.map V8).all (·.oneCell') = true := by
  rw [List.all_append, h, Bool.true_and, List.all_eq_true]
  intro x hx
  obtain ⟨u, _, rfl⟩ := List.mem_map.1 hx
  rfl
end
end Go.Proofs.Ytjmbbhnpfmblpaa
namespace Go.Proofs.Ytjmbbhnpfmblpaa
open Go
section
variable {P : Program} {Q : Exit → Act → World → Prop} {n : Nat} {σ : Nat → Value} {w w0 : World} {K : Act → World → Prop}
  {ty : TypeId} {pos : String} {aft : Array Edge} {g : Option (Nat × Bool)} {d : Nat} {t yt : TypeId} {x y : Operand} {S : List Nat} {L : List Ch}
theorem b_shl_i64 {yk : IntKind} {a : Int} {c : Nat} (h0 : 0 ≤ a) (hc : c < 64) (h1 : a * 2 ^ c ≤ 9223372036854775807) : (Op.shift .shl .i64 a yk (c : Int)).run P w = .ok (VI (a * 2 ^ c)) w := by
  have hw := wrap_i64 (n := a * 2 ^ c) (by have : 0 ≤ a * 2 ^ c := Int.mul_nonneg h0 (Int.pow_nonneg (by decide)); omega) h1
  have e : Op.shift .shl .i64 a yk (c : Int) = Sem.pure (.int .i64 (IntKind.i64.wrap (a * 2 ^ c))) := by
    unfold Op.shift
    have hm : min (c : Int).toNat IntKind.i64.bits = c := by rw [Int.toNat_natCast]; exact Nat.min_eq_left (by show c ≤ 64; omega)
    rw [if_neg (by omega)]
    simp only [hm]
    rfl
  rw [e, hw]; rfl
theorem b_or_i64 {a b : Nat} {t : TypeId} (ha : a % 256 = 0) (hb : b < 256) (h : a < 9223372036854775808) : (binOp .or t (VI (a : Int)) (VI (b : Int))).run P w = .ok (VI ((a + b : Nat) : Int)) w := by
  have e : binOp .or t (VI (a : Int)) (VI (b : Int)) = Sem.pure (.int .i64 (IntKind.i64.wrap (((BitVec.ofInt 64 (a : Int) ||| BitVec.ofInt 64 (b : Int)).toNat : Nat) : Int))) := rfl
  have e1 : (BitVec.ofInt 64 (a : Int)).toNat = a := by rw [BitVec.toNat_ofInt]; omega
  have e2 : (BitVec.ofInt 64 (b : Int)).toNat = b := by rw [BitVec.toNat_ofInt]; omega
  have e3 : a ||| b = a + b := by
    have : a = (a / 256) <<< 8 := by rw [Nat.shiftLeft_eq]; omega
    rw [this, ← Nat.shiftLeft_add_eq_or_of_lt (by omega)]
  rw [e, BitVec.toNat_or, e1, e2, e3, wrap_i64 (by omega) (by omega)]; rfl
end
end Go.Proofs.Ytjmbbhnpfmblpaa
namespace Go.Proofs.Ytjmbbhnpfmblpaa
open Go
set_option maxRecDepth 100000
/-- an entry, as a world has it. -/
structure Ent where
  seq : Int
  tick : Int
  serial : UInt64
  tenant : List UInt8
  do_ : Int
  status : Int
  of_ : List UInt8
deriving DecidableEq
def entE (e : Ent) : List Value := [VI e.seq, VI e.tick, V64 e.serial, .string ⟨e.tenant.toArray⟩, VI e.do_, VI e.status] ++ e.of_.map V8
theorem entE_len (e : Ent) : (entE e).length = 38 ↔ e.of_.length = 32 := by simp [entE]
theorem ent_of {e : Ent} (h : (entE e).length = 38) : e.of_.length = 32 := (entE_len e).1 h
theorem ent_len {e : Ent} (h : e.of_.length = 32) : (entE e).length = 38 := (entE_len e).2 h
/-- numbers are such as int64 has. -/
def Ent.bd (e : Ent) : Prop := e.seq ≤ 9223372036854775807 ∧ e.tick ≤ 9223372036854775807
def mayE (e : Ent) : Bool := decide (0 ≤ e.seq ∧ 0 ≤ e.tick ∧ 0 ≤ e.do_ ∧ e.do_ ≤ 255 ∧ 0 ≤ e.status ∧ e.status ≤ 999 ∧ e.tenant.length ≤ 16)
theorem mayE_iff (e : Ent) : mayE e = true ↔ 0 ≤ e.seq ∧ 0 ≤ e.tick ∧ 0 ≤ e.do_ ∧ e.do_ ≤ 255 ∧ 0 ≤ e.status ∧ e.status ≤ 999 ∧ e.tenant.length ≤ 16 := by simp [mayE]
def entB (e : Ent) : List UInt8 := be e.seq.toNat 8 ++ be e.tick.toNat 8 ++ be e.serial.toNat 8 ++ [UInt8.ofNat e.tenant.length] ++ e.tenant ++ be e.do_.toNat 1 ++ be e.status.toNat 2 ++ e.of_
theorem entB_len (e : Ent) (h : e.of_.length = 32) : (entB e).length = 60 + e.tenant.length := by simp [entB, be_len, h]; omega
theorem au_cnt (n : Nat) (h : n ≤ 127) : cnt n = [UInt8.ofNat n] := by rw [cnt, if_neg (by omega)]
theorem au_be1 (n : Nat) (h : n ≤ 255) : be n 1 = [UInt8.ofNat n] := by simp [be]
theorem au_be2 (n : Nat) : be n 2 = [UInt8.ofNat (n / 256), UInt8.ofNat (n % 256)] := by
  have : UInt8.ofNat n = UInt8.ofNat (n % 256) := by apply UInt8.toNat_inj.1; rw [UInt8.toNat_ofNat', UInt8.toNat_ofNat']; omega
  have e : be n 2 = [UInt8.ofNat (n / 256 ^ 1), UInt8.ofNat (n / 256 ^ 0)] := rfl
  rw [e, Nat.pow_one, Nat.pow_zero, Nat.div_one, ← this]
def Z32a : List UInt8 := List.replicate 32 0
def linkF (h : List UInt8) (e : Ent) : List UInt8 := sha256 (h ++ entB e)
theorem linkF_len (h : List UInt8) (e : Ent) : (linkF h e).length = 32 := sha256_len _
theorem egEnt : Try.prog.eqGuardType Try.prog.depth 95 = false := by kernel_rfl
theorem eqEnt {w : World} (c e : Ent) (hc : c.of_.length = 32) (he : e.of_.length = 32) : (Op.equal 95 (.agg (entE c).toArray) (.agg (entE e).toArray)).run Try.prog w = .ok (decide (c = e)) w := by
  refine eqS_of Try.underlying95 (by kernel_rfl) ?_
  have hb : (decide (c.seq = e.seq) && (decide (c.tick = e.tick) && (decide ((c.serial.toNat : Int) = (e.serial.toNat : Int)) && (decide (c.tenant = e.tenant) && (decide (c.do_ = e.do_) && (decide (c.status = e.status) && (decide (c.of_ = e.of_) && true))))))) = decide (c = e) := by
    rw [Bool.eq_iff_iff]
    simp only [Bool.and_eq_true, decide_eq_true_eq, and_true]
    constructor
    · rintro ⟨h1, h2, h3, h4, h5, h6, h7⟩
      cases c; cases e
      simp only at *
      have h3' := UInt64.toNat_inj.1 (Int.ofNat_inj.1 h3)
      subst h1 h2 h3' h4 h5 h6 h7; rfl
    · rintro rfl; simp
  have ha : ∀ (x : Ent), x.of_.length = 32 → (part 31 (entE x).toArray 6).run Try.prog w = .ok (.agg (x.of_.map V8).toArray) w := by
    intro x hx
    rw [part_row (k := 32) (by kernel_rfl)]
    congr 2
    apply Array.ext'
    rw [Array.toList_extract]
    simp [entE, List.extract]
    exact List.take_of_length_le (by simp [hx])
  rw [← hb]
  exact eqF_cons (by decide) (part_cell (by kernel_rfl) rfl) (part_cell (by kernel_rfl) rfl) (eqI_int (by kernel_rfl) 9998 _ _)
    (eqF_cons (by decide) (part_cell (by kernel_rfl) rfl) (part_cell (by kernel_rfl) rfl) (eqI_int (by kernel_rfl) 9998 _ _)
    (eqF_cons (by decide) (part_cell (by kernel_rfl) rfl) (part_cell (by kernel_rfl) rfl) (eqI_int (by kernel_rfl) 9998 _ _)
    (eqF_cons (by decide) (part_cell (by kernel_rfl) rfl) (part_cell (by kernel_rfl) rfl) (eqI_str (by kernel_rfl) 9998 _ _)
    (eqF_cons (by decide) (part_cell (by kernel_rfl) rfl) (part_cell (by kernel_rfl) rfl) (eqI_int (by kernel_rfl) 9998 _ _)
    (eqF_cons (by decide) (part_cell (by kernel_rfl) rfl) (part_cell (by kernel_rfl) rfl) (eqI_int (by kernel_rfl) 9998 _ _)
    (eqF_cons (by decide) (ha c hc) (ha e he) (eqI_u8s (m := 32) (by kernel_rfl) (e := 5) (by kernel_rfl) (by kernel_rfl) 9997 _ _ hc he) (eqF_nil _ _ _)))))))
theorem aMay_ret (w0 : World) (e : Ent) (_he : e.of_.length = 32) :
    Ret Try.prog 89 [.agg ([VI e.seq, VI e.tick, V64 e.serial, .string ⟨(e.tenant).toArray⟩, VI e.do_, VI e.status] ++ (e.of_).map V8).toArray] w0 fun v w' => v = .bool (mayE e) ∧ Hp w0 w' [] [] := by
  refine ret_mk Try.func89 rfl Try.ntmps89 (by simp) ?_
  have H := Hp.refl w0 []
  repeat refine c_seq ?_
  refine c_region ?_
  refine l_op (o_box (v := .agg ([VI e.seq, VI e.tick, V64 e.serial, .string ⟨(e.tenant).toArray⟩, VI e.do_, VI e.status] ++ (e.of_).map V8).toArray) H rfl (fun b1 w H hb1 => ?_))
  replace H : Hp _ w _ ([.blk b1 ([VI e.seq, VI e.tick, V64 e.serial, .string ⟨(e.tenant).toArray⟩, VI e.do_, VI e.status] ++ (e.of_).map V8) 95]) := H
  refine l_op (o_val (r_as) ?_)
  first | refine l_end ?_ | refine l_nil ?_
  repeat refine c_seq ?_
  refine c_region ?_
  refine l_op (o_val (r_fa rfl fo95_0) ?_)
  refine l_op (o_val (r_ld (v := VI e.seq) H (i := 0) rfl rfl ct2 rfl) ?_)
  refine l_op (o_val (r_bin (a := e.seq) (b := 0) rfl rfl (fun _ => b_geq)) ?_)
  refine l_op (o_val (r_mv) ?_)
  by_cases hc2 : 0 ≤ e.seq
  ·
   refine l_yes rfl rfl (by exact congrArg Value.bool (decide_eq_true hc2)) (o_val (r_fa rfl fo95_1) ?_)
   refine l_yes rfl rfl (by exact congrArg Value.bool (decide_eq_true hc2)) (o_val (r_ld (v := VI e.tick) H (i := 0) rfl rfl ct2 rfl) ?_)
   refine l_yes rfl rfl (by exact congrArg Value.bool (decide_eq_true hc2)) (o_val (r_bin (a := e.tick) (b := 0) rfl rfl (fun _ => b_geq)) ?_)
   refine l_op (o_val (r_pick (b := true) (congrArg Value.bool (decide_eq_true hc2))) ?_)
   refine l_op (o_val (r_mv) ?_)
   by_cases hc3 : 0 ≤ e.tick
   ·
    refine l_yes rfl rfl (by exact congrArg Value.bool (decide_eq_true hc3)) (o_val (r_fa rfl fo95_4) ?_)
    refine l_yes rfl rfl (by exact congrArg Value.bool (decide_eq_true hc3)) (o_val (r_ld (v := VI e.do_) H (i := 0) rfl rfl ct3 rfl) ?_)
    refine l_yes rfl rfl (by exact congrArg Value.bool (decide_eq_true hc3)) (o_val (r_bin (a := e.do_) (b := 0) rfl rfl (fun _ => b_geq)) ?_)
    refine l_op (o_val (r_pick (b := true) (congrArg Value.bool (decide_eq_true hc3))) ?_)
    refine l_op (o_val (r_mv) ?_)
    by_cases hc4 : 0 ≤ e.do_
    ·
     refine l_yes rfl rfl (by exact congrArg Value.bool (decide_eq_true hc4)) (o_val (r_fa rfl fo95_4) ?_)
     refine l_yes rfl rfl (by exact congrArg Value.bool (decide_eq_true hc4)) (o_val (r_ld (v := VI e.do_) H (i := 0) rfl rfl ct3 rfl) ?_)
     refine l_yes rfl rfl (by exact congrArg Value.bool (decide_eq_true hc4)) (o_val (r_bin (a := e.do_) (b := 255) rfl rfl (fun _ => b_leq)) ?_)
     refine l_op (o_val (r_pick (b := true) (congrArg Value.bool (decide_eq_true hc4))) ?_)
     refine l_op (o_val (r_mv) ?_)
     by_cases hc5 : e.do_ ≤ 255
     ·
      refine l_yes rfl rfl (by exact congrArg Value.bool (decide_eq_true hc5)) (o_val (r_fa rfl fo95_5) ?_)
      refine l_yes rfl rfl (by exact congrArg Value.bool (decide_eq_true hc5)) (o_val (r_ld (v := VI e.status) H (i := 0) rfl rfl ct3 rfl) ?_)
      refine l_yes rfl rfl (by exact congrArg Value.bool (decide_eq_true hc5)) (o_val (r_bin (a := e.status) (b := 0) rfl rfl (fun _ => b_geq)) ?_)
      refine l_op (o_val (r_pick (b := true) (congrArg Value.bool (decide_eq_true hc5))) ?_)
      refine l_op (o_val (r_mv) ?_)
      by_cases hc6 : 0 ≤ e.status
      ·
       refine l_yes rfl rfl (by exact congrArg Value.bool (decide_eq_true hc6)) (o_val (r_fa rfl fo95_5) ?_)
       refine l_yes rfl rfl (by exact congrArg Value.bool (decide_eq_true hc6)) (o_val (r_ld (v := VI e.status) H (i := 0) rfl rfl ct3 rfl) ?_)
       refine l_yes rfl rfl (by exact congrArg Value.bool (decide_eq_true hc6)) (o_val (r_bin (a := e.status) (b := 999) rfl rfl (fun _ => b_leq)) ?_)
       refine l_op (o_val (r_pick (b := true) (congrArg Value.bool (decide_eq_true hc6))) ?_)
       refine l_op (o_val (r_mv) ?_)
       by_cases hc7 : e.status ≤ 999
       ·
        refine l_yes rfl rfl (by exact congrArg Value.bool (decide_eq_true hc7)) (o_val (r_fa rfl fo95_3) ?_)
        refine l_yes rfl rfl (by exact congrArg Value.bool (decide_eq_true hc7)) (o_val (r_ld (v := .string ⟨(e.tenant).toArray⟩) H (i := 0) rfl rfl ct9 rfl) ?_)
        refine l_yes rfl rfl (by exact congrArg Value.bool (decide_eq_true hc7)) (o_val (r_lenstr (s := ⟨(e.tenant).toArray⟩) Try.underlying9 rfl) ?_)
        refine l_yes rfl rfl (by exact congrArg Value.bool (decide_eq_true hc7)) (o_val (r_bin (a := ((e.tenant).length : Int)) (b := 16) rfl rfl (fun _ => b_leq)) ?_)
        refine l_op (o_val (r_pick (b := true) (congrArg Value.bool (decide_eq_true hc7))) ?_)
        refine l_op (o_val (r_as) ?_)
        first | refine l_end ?_ | refine l_nil ?_
        refine c_ret ?_
        try dsimp only [Exit.then, Exit.inBlock]
        refine e_ret1 (v := .bool (decide (((e.tenant).length : Int) ≤ 16))) Try.results89 rfl ?_
        refine ⟨_, rfl, ?_⟩
        refine ⟨?_, H.sub (List.nil_sublist _)⟩
        congr 1
        exact decide_eq_decide.2 (by omega)
       ·
        refine l_no rfl rfl (by exact congrArg Value.bool (decide_eq_false hc7)) rfl ?_
        refine l_no rfl rfl (by exact congrArg Value.bool (decide_eq_false hc7)) rfl ?_
        refine l_no rfl rfl (by exact congrArg Value.bool (decide_eq_false hc7)) rfl ?_
        refine l_no rfl rfl (by exact congrArg Value.bool (decide_eq_false hc7)) rfl ?_
        refine l_op (o_val (r_pick (b := false) (congrArg Value.bool (decide_eq_false hc7))) ?_)
        refine l_op (o_val (r_as) ?_)
        first | refine l_end ?_ | refine l_nil ?_
        refine c_ret ?_
        try dsimp only [Exit.then, Exit.inBlock]
        refine e_ret1 (v := .bool false) Try.results89 rfl ?_
        refine ⟨_, rfl, ?_⟩
        refine ⟨?_, H.sub (List.nil_sublist _)⟩
        have e1 : mayE e = false := decide_eq_false (by omega)
        rw [e1]
      ·
       refine l_no rfl rfl (by exact congrArg Value.bool (decide_eq_false hc6)) rfl ?_
       refine l_no rfl rfl (by exact congrArg Value.bool (decide_eq_false hc6)) rfl ?_
       refine l_no rfl rfl (by exact congrArg Value.bool (decide_eq_false hc6)) rfl ?_
       refine l_op (o_val (r_pick (b := false) (congrArg Value.bool (decide_eq_false hc6))) ?_)
       refine l_op (o_val (r_mv) ?_)
       refine l_no rfl rfl rfl rfl ?_
       refine l_no rfl rfl rfl rfl ?_
       refine l_no rfl rfl rfl rfl ?_
       refine l_no rfl rfl rfl rfl ?_
       refine l_op (o_val (r_pick rfl) ?_)
       refine l_op (o_val (r_as) ?_)
       first | refine l_end ?_ | refine l_nil ?_
       refine c_ret ?_
       try dsimp only [Exit.then, Exit.inBlock]
       refine e_ret1 (v := .bool false) Try.results89 rfl ?_
       refine ⟨_, rfl, ?_⟩
       refine ⟨?_, H.sub (List.nil_sublist _)⟩
       have e1 : mayE e = false := decide_eq_false (by omega)
       rw [e1]
     ·
      refine l_no rfl rfl (by exact congrArg Value.bool (decide_eq_false hc5)) rfl ?_
      refine l_no rfl rfl (by exact congrArg Value.bool (decide_eq_false hc5)) rfl ?_
      refine l_no rfl rfl (by exact congrArg Value.bool (decide_eq_false hc5)) rfl ?_
      refine l_op (o_val (r_pick (b := false) (congrArg Value.bool (decide_eq_false hc5))) ?_)
      refine l_op (o_val (r_mv) ?_)
      refine l_no rfl rfl rfl rfl ?_
      refine l_no rfl rfl rfl rfl ?_
      refine l_no rfl rfl rfl rfl ?_
      refine l_op (o_val (r_pick rfl) ?_)
      refine l_op (o_val (r_mv) ?_)
      refine l_no rfl rfl rfl rfl ?_
      refine l_no rfl rfl rfl rfl ?_
      refine l_no rfl rfl rfl rfl ?_
      refine l_no rfl rfl rfl rfl ?_
      refine l_op (o_val (r_pick rfl) ?_)
      refine l_op (o_val (r_as) ?_)
      first | refine l_end ?_ | refine l_nil ?_
      refine c_ret ?_
      try dsimp only [Exit.then, Exit.inBlock]
      refine e_ret1 (v := .bool false) Try.results89 rfl ?_
      refine ⟨_, rfl, ?_⟩
      refine ⟨?_, H.sub (List.nil_sublist _)⟩
      have e1 : mayE e = false := decide_eq_false (by omega)
      rw [e1]
    ·
     refine l_no rfl rfl (by exact congrArg Value.bool (decide_eq_false hc4)) rfl ?_
     refine l_no rfl rfl (by exact congrArg Value.bool (decide_eq_false hc4)) rfl ?_
     refine l_no rfl rfl (by exact congrArg Value.bool (decide_eq_false hc4)) rfl ?_
     refine l_op (o_val (r_pick (b := false) (congrArg Value.bool (decide_eq_false hc4))) ?_)
     refine l_op (o_val (r_mv) ?_)
     refine l_no rfl rfl rfl rfl ?_
     refine l_no rfl rfl rfl rfl ?_
     refine l_no rfl rfl rfl rfl ?_
     refine l_op (o_val (r_pick rfl) ?_)
     refine l_op (o_val (r_mv) ?_)
     refine l_no rfl rfl rfl rfl ?_
     refine l_no rfl rfl rfl rfl ?_
     refine l_no rfl rfl rfl rfl ?_
     refine l_op (o_val (r_pick rfl) ?_)
     refine l_op (o_val (r_mv) ?_)
     refine l_no rfl rfl rfl rfl ?_
     refine l_no rfl rfl rfl rfl ?_
     refine l_no rfl rfl rfl rfl ?_
     refine l_no rfl rfl rfl rfl ?_
     refine l_op (o_val (r_pick rfl) ?_)
     refine l_op (o_val (r_as) ?_)
     first | refine l_end ?_ | refine l_nil ?_
     refine c_ret ?_
     try dsimp only [Exit.then, Exit.inBlock]
     refine e_ret1 (v := .bool false) Try.results89 rfl ?_
     refine ⟨_, rfl, ?_⟩
     refine ⟨?_, H.sub (List.nil_sublist _)⟩
     have e1 : mayE e = false := decide_eq_false (by omega)
     rw [e1]
   ·
    refine l_no rfl rfl (by exact congrArg Value.bool (decide_eq_false hc3)) rfl ?_
    refine l_no rfl rfl (by exact congrArg Value.bool (decide_eq_false hc3)) rfl ?_
    refine l_no rfl rfl (by exact congrArg Value.bool (decide_eq_false hc3)) rfl ?_
    refine l_op (o_val (r_pick (b := false) (congrArg Value.bool (decide_eq_false hc3))) ?_)
    refine l_op (o_val (r_mv) ?_)
    refine l_no rfl rfl rfl rfl ?_
    refine l_no rfl rfl rfl rfl ?_
    refine l_no rfl rfl rfl rfl ?_
    refine l_op (o_val (r_pick rfl) ?_)
    refine l_op (o_val (r_mv) ?_)
    refine l_no rfl rfl rfl rfl ?_
    refine l_no rfl rfl rfl rfl ?_
    refine l_no rfl rfl rfl rfl ?_
    refine l_op (o_val (r_pick rfl) ?_)
    refine l_op (o_val (r_mv) ?_)
    refine l_no rfl rfl rfl rfl ?_
    refine l_no rfl rfl rfl rfl ?_
    refine l_no rfl rfl rfl rfl ?_
    refine l_op (o_val (r_pick rfl) ?_)
    refine l_op (o_val (r_mv) ?_)
    refine l_no rfl rfl rfl rfl ?_
    refine l_no rfl rfl rfl rfl ?_
    refine l_no rfl rfl rfl rfl ?_
    refine l_no rfl rfl rfl rfl ?_
    refine l_op (o_val (r_pick rfl) ?_)
    refine l_op (o_val (r_as) ?_)
    first | refine l_end ?_ | refine l_nil ?_
    refine c_ret ?_
    try dsimp only [Exit.then, Exit.inBlock]
    refine e_ret1 (v := .bool false) Try.results89 rfl ?_
    refine ⟨_, rfl, ?_⟩
    refine ⟨?_, H.sub (List.nil_sublist _)⟩
    have e1 : mayE e = false := decide_eq_false (by omega)
    rw [e1]
  ·
   refine l_no rfl rfl (by exact congrArg Value.bool (decide_eq_false hc2)) rfl ?_
   refine l_no rfl rfl (by exact congrArg Value.bool (decide_eq_false hc2)) rfl ?_
   refine l_no rfl rfl (by exact congrArg Value.bool (decide_eq_false hc2)) rfl ?_
   refine l_op (o_val (r_pick (b := false) (congrArg Value.bool (decide_eq_false hc2))) ?_)
   refine l_op (o_val (r_mv) ?_)
   refine l_no rfl rfl rfl rfl ?_
   refine l_no rfl rfl rfl rfl ?_
   refine l_no rfl rfl rfl rfl ?_
   refine l_op (o_val (r_pick rfl) ?_)
   refine l_op (o_val (r_mv) ?_)
   refine l_no rfl rfl rfl rfl ?_
   refine l_no rfl rfl rfl rfl ?_
   refine l_no rfl rfl rfl rfl ?_
   refine l_op (o_val (r_pick rfl) ?_)
   refine l_op (o_val (r_mv) ?_)
   refine l_no rfl rfl rfl rfl ?_
   refine l_no rfl rfl rfl rfl ?_
   refine l_no rfl rfl rfl rfl ?_
   refine l_op (o_val (r_pick rfl) ?_)
   refine l_op (o_val (r_mv) ?_)
   refine l_no rfl rfl rfl rfl ?_
   refine l_no rfl rfl rfl rfl ?_
   refine l_no rfl rfl rfl rfl ?_
   refine l_op (o_val (r_pick rfl) ?_)
   refine l_op (o_val (r_mv) ?_)
   refine l_no rfl rfl rfl rfl ?_
   refine l_no rfl rfl rfl rfl ?_
   refine l_no rfl rfl rfl rfl ?_
   refine l_no rfl rfl rfl rfl ?_
   refine l_op (o_val (r_pick rfl) ?_)
   refine l_op (o_val (r_as) ?_)
   first | refine l_end ?_ | refine l_nil ?_
   refine c_ret ?_
   try dsimp only [Exit.then, Exit.inBlock]
   refine e_ret1 (v := .bool false) Try.results89 rfl ?_
   refine ⟨_, rfl, ?_⟩
   refine ⟨?_, H.sub (List.nil_sublist _)⟩
   have e1 : mayE e = false := decide_eq_false (by omega)
   rw [e1]
theorem aBytes_ok (w0 : World) (e : Ent) (he : e.of_.length = 32) (hb : e.bd) (hm : mayE e = true) :
    Ret Try.prog 85 [.agg ([VI e.seq, VI e.tick, V64 e.serial, .string ⟨(e.tenant).toArray⟩, VI e.do_, VI e.status] ++ (e.of_).map V8).toArray] w0 fun v w' => ∃ a n k, v = .tuple #[.slice (hd a) n k, VI 0] ∧ (entB e).length = n ∧ Hp w0 w' [] [.own a n k ((entB e).map V8) 5 1] := by
  refine ret_mk Try.func85 rfl Try.ntmps85 (by simp) ?_
  have H := Hp.refl w0 []
  have hm2 := (mayE_iff e).1 hm
  have hb1 := hb.1
  have hb2 := hb.2
  have q1 : (UInt64.ofNat e.seq.toNat).toNat = e.seq.toNat := ofNat_nat _ (by omega)
  have q2 : (UInt64.ofNat e.tick.toNat).toNat = e.tick.toNat := ofNat_nat _ (by omega)
  have q3 : (UInt64.ofNat e.do_.toNat).toNat = e.do_.toNat := ofNat_nat _ (by omega)
  have q4 : (UInt64.ofNat e.status.toNat).toNat = e.status.toNat := ofNat_nat _ (by omega)
  repeat refine c_seq ?_
  refine c_region ?_
  refine l_op (o_box (v := .agg ([VI e.seq, VI e.tick, V64 e.serial, .string ⟨(e.tenant).toArray⟩, VI e.do_, VI e.status] ++ (e.of_).map V8).toArray) H rfl (fun b1 w H hb1 => ?_))
  replace H : Hp _ w _ ([.blk b1 ([VI e.seq, VI e.tick, V64 e.serial, .string ⟨(e.tenant).toArray⟩, VI e.do_, VI e.status] ++ (e.of_).map V8) 95]) := H
  refine l_op (o_val (r_as) ?_)
  refine l_op (o_val (r_as) ?_)
  first | refine l_end ?_ | refine l_nil ?_
  repeat refine c_seq ?_
  refine c_region ?_
  refine l_op (o_val (r_ldA (C := [VI e.seq, VI e.tick, V64 e.serial, .string ⟨(e.tenant).toArray⟩, VI e.do_, VI e.status] ++ (e.of_).map V8) H (i := 0) rfl rfl rt95 (by rw [List.length_append, List.length_map, (show (e.of_).length = 32 from he)]; rfl)) ?_)
  refine l_op (o_callR Try.func89 rfl rfl rfl (aMay_ret _ e (show (e.of_).length = 32 from he)) ?_)
  rintro _ w ⟨rfl, Hc⟩
  replace H : Hp _ w _ ([_]) := H.call Hc
  clear Hc
  have hk2 : (mayE e) = true := hm
  refine l_op (o_val (r_not rfl) ?_)
  first | refine l_end ?_ | refine l_nil ?_
  repeat refine c_seq ?_
  refine c_no (by exact congrArg Value.bool (congrArg not hk2)) ?_
  refine c_skip ?_
  repeat refine c_seq ?_
  refine c_region ?_
  refine l_op (o_val (r_fa rfl fo95_0) ?_)
  refine l_op (o_val (r_ld (v := VI e.seq) H (i := 0) rfl rfl ct2 rfl) ?_)
  refine l_op (o_val (r_conv (v := ((UInt64.ofNat (e.seq).toNat).toNat : Int)) Try.underlying2 Try.underlying35 rfl (w_u64_N (e.seq).toNat (by omega))) ?_)
  refine l_op (o_callR Try.func109 rfl rfl rfl (put0_ret _ (UInt64.ofNat (e.seq).toNat) 8 (by omega) (by omega) (.inl rfl)) ?_)
  rintro _ w ⟨a3, c4, rfl, Hc⟩
  replace H : Hp _ w _ ([_, .own a3 8 c4 ((be (UInt64.ofNat (e.seq).toNat).toNat 8).map V8) 5 1]) := H.call Hc
  clear Hc
  refine l_op (o_val (r_mv) ?_)
  refine l_op (o_val (r_ext rfl rfl) ?_)
  refine l_op (o_val (r_ext rfl rfl) ?_)
  refine l_op (o_val (r_as) ?_)
  refine l_op (o_val (r_as) ?_)
  first | refine l_end ?_ | refine l_nil ?_
  repeat refine c_seq ?_
  refine c_region ?_
  refine l_op (o_val (r_mv) ?_)
  refine l_op (o_val (r_fa rfl fo95_1) ?_)
  refine l_op (o_val (r_ld (v := VI e.tick) H (i := 0) rfl rfl ct2 rfl) ?_)
  refine l_op (o_val (r_conv (v := ((UInt64.ofNat (e.tick).toNat).toNat : Int)) Try.underlying2 Try.underlying35 rfl (w_u64_N (e.tick).toNat (by omega))) ?_)
  refine l_op (o_callR Try.func109 rfl rfl rfl (put_ret _ ⟨hd a3, 8, c4, be (UInt64.ofNat (e.seq).toNat).toNat 8⟩ (H.slOwn (i := 1) rfl) (UInt64.ofNat (e.tick).toNat) 8 (by omega) (by omega) (.inl rfl) (by (try dsimp only); omega)) ?_)
  rintro _ w ⟨a5, c6, rfl, Hc⟩
  replace H : Hp _ w _ ([_, _, .own a5 (8 + 8) c6 ((be (UInt64.ofNat (e.seq).toNat).toNat 8 ++ be (UInt64.ofNat (e.tick).toNat).toNat 8).map V8) 5 1]) := H.call Hc
  clear Hc
  refine l_op (o_val (r_mv) ?_)
  refine l_op (o_val (r_ext rfl rfl) ?_)
  refine l_op (o_val (r_ext rfl rfl) ?_)
  refine l_op (o_val (r_as) ?_)
  first | refine l_end ?_ | refine l_nil ?_
  repeat refine c_seq ?_
  refine c_region ?_
  refine l_op (o_val (r_mv) ?_)
  refine l_op (o_val (r_fa rfl fo95_2) ?_)
  refine l_op (o_val (r_ld (v := V64 e.serial) H (i := 0) rfl rfl ct35 rfl) ?_)
  refine l_op (o_callR Try.func109 rfl rfl rfl (put_ret _ ⟨hd a5, 8 + 8, c6, be (UInt64.ofNat (e.seq).toNat).toNat 8 ++ be (UInt64.ofNat (e.tick).toNat).toNat 8⟩ (H.slOwn (i := 2) rfl) (e.serial) 8 (by omega) (by omega) (.inl rfl) (by (try dsimp only); omega)) ?_)
  rintro _ w ⟨a7, c8, rfl, Hc⟩
  replace H : Hp _ w _ ([_, _, _, .own a7 (8 + 8 + 8) c8 ((be (UInt64.ofNat (e.seq).toNat).toNat 8 ++ be (UInt64.ofNat (e.tick).toNat).toNat 8 ++ be (e.serial).toNat 8).map V8) 5 1]) := H.call Hc
  clear Hc
  refine l_op (o_val (r_mv) ?_)
  refine l_op (o_val (r_ext rfl rfl) ?_)
  refine l_op (o_val (r_ext rfl rfl) ?_)
  refine l_op (o_val (r_as) ?_)
  first | refine l_end ?_ | refine l_nil ?_
  repeat refine c_seq ?_
  refine c_region ?_
  refine l_op (o_val (r_mv) ?_)
  refine l_op (o_val (r_fa rfl fo95_3) ?_)
  refine l_op (o_val (r_ld (v := .string ⟨(e.tenant).toArray⟩) H (i := 0) rfl rfl ct9 rfl) ?_)
  refine l_op (o_s2B (l := e.tenant) H Try.underlying9 Try.underlying29 Try.underlying5 rfl (by omega) (fun b9 c10 ob11 w H hb9 hr12 => ?_))
  replace H : Hp _ w _ ([_, _, _, _, .obj b9 ob11]) := H
  refine l_op (o_callR Try.func127 rfl rfl rfl (text_ret _ ⟨hd a7, 8 + 8 + 8, c8, be (UInt64.ofNat (e.seq).toNat).toNat 8 ++ be (UInt64.ofNat (e.tick).toNat).toNat 8 ++ be (e.serial).toNat 8⟩ (⟨some ⟨b9, 0, none⟩, (e.tenant).length, c10, e.tenant⟩ : Sl) (H.slOwn (i := 3) rfl) (hr12 _ (H.has (.obj b9 ob11) (by simp))) (by (try simp only []); omega) (by (try simp only []); omega)) ?_)
  rintro _ w ⟨a13, n14, c15, rfl, hn16, Hc⟩
  replace H : Hp _ w _ ([_, _, _, _, _, .own a13 n14 c15 ((be (UInt64.ofNat (e.seq).toNat).toNat 8 ++ be (UInt64.ofNat (e.tick).toNat).toNat 8 ++ be (e.serial).toNat 8 ++ cnt ((e.tenant).length) ++ e.tenant).map V8) 5 1]) := H.call Hc
  clear Hc
  try dsimp only at hn16
  refine l_op (o_val (r_mv) ?_)
  refine l_op (o_val (r_ext rfl rfl) ?_)
  refine l_op (o_val (r_ext rfl rfl) ?_)
  refine l_op (o_val (r_as) ?_)
  first | refine l_end ?_ | refine l_nil ?_
  repeat refine c_seq ?_
  refine c_region ?_
  refine l_op (o_val (r_mv) ?_)
  refine l_op (o_val (r_fa rfl fo95_4) ?_)
  refine l_op (o_val (r_ld (v := VI e.do_) H (i := 0) rfl rfl ct3 rfl) ?_)
  refine l_op (o_val (r_conv (v := ((UInt64.ofNat (e.do_).toNat).toNat : Int)) Try.underlying3 Try.underlying35 rfl (w_u64_N (e.do_).toNat (by omega))) ?_)
  refine l_op (o_callR Try.func109 rfl rfl rfl (put_ret _ ⟨hd a13, n14, c15, be (UInt64.ofNat (e.seq).toNat).toNat 8 ++ be (UInt64.ofNat (e.tick).toNat).toNat 8 ++ be (e.serial).toNat 8 ++ cnt ((e.tenant).length) ++ e.tenant⟩ (H.slOwn (i := 5) rfl) (UInt64.ofNat (e.do_).toNat) 1 (by omega) (by omega) (.inr (by rw [ofNat_nat _ (by omega)]; first | exact Nat.lt_of_le_of_lt (m := 255) (by omega) (by decide) | exact Nat.lt_of_le_of_lt (m := 999) (by omega) (by decide))) (by (try dsimp only); omega)) ?_)
  rintro _ w ⟨a17, c18, rfl, Hc⟩
  replace H : Hp _ w _ ([_, _, _, _, _, _, .own a17 (n14 + 1) c18 ((be (UInt64.ofNat (e.seq).toNat).toNat 8 ++ be (UInt64.ofNat (e.tick).toNat).toNat 8 ++ be (e.serial).toNat 8 ++ cnt ((e.tenant).length) ++ e.tenant ++ be (UInt64.ofNat (e.do_).toNat).toNat 1).map V8) 5 1]) := H.call Hc
  clear Hc
  refine l_op (o_val (r_mv) ?_)
  refine l_op (o_val (r_ext rfl rfl) ?_)
  refine l_op (o_val (r_ext rfl rfl) ?_)
  refine l_op (o_val (r_as) ?_)
  first | refine l_end ?_ | refine l_nil ?_
  repeat refine c_seq ?_
  refine c_region ?_
  refine l_op (o_val (r_mv) ?_)
  refine l_op (o_val (r_fa rfl fo95_5) ?_)
  refine l_op (o_val (r_ld (v := VI e.status) H (i := 0) rfl rfl ct3 rfl) ?_)
  refine l_op (o_val (r_conv (v := ((UInt64.ofNat (e.status).toNat).toNat : Int)) Try.underlying3 Try.underlying35 rfl (w_u64_N (e.status).toNat (by omega))) ?_)
  refine l_op (o_callR Try.func109 rfl rfl rfl (put_ret _ ⟨hd a17, n14 + 1, c18, be (UInt64.ofNat (e.seq).toNat).toNat 8 ++ be (UInt64.ofNat (e.tick).toNat).toNat 8 ++ be (e.serial).toNat 8 ++ cnt ((e.tenant).length) ++ e.tenant ++ be (UInt64.ofNat (e.do_).toNat).toNat 1⟩ (H.slOwn (i := 6) rfl) (UInt64.ofNat (e.status).toNat) 2 (by omega) (by omega) (.inr (by rw [ofNat_nat _ (by omega)]; first | exact Nat.lt_of_le_of_lt (m := 255) (by omega) (by decide) | exact Nat.lt_of_le_of_lt (m := 999) (by omega) (by decide))) (by (try dsimp only); omega)) ?_)
  rintro _ w ⟨a19, c20, rfl, Hc⟩
  replace H : Hp _ w _ ([_, _, _, _, _, _, _, .own a19 (n14 + 1 + 2) c20 ((be (UInt64.ofNat (e.seq).toNat).toNat 8 ++ be (UInt64.ofNat (e.tick).toNat).toNat 8 ++ be (e.serial).toNat 8 ++ cnt ((e.tenant).length) ++ e.tenant ++ be (UInt64.ofNat (e.do_).toNat).toNat 1 ++ be (UInt64.ofNat (e.status).toNat).toNat 2).map V8) 5 1]) := H.call Hc
  clear Hc
  refine l_op (o_val (r_mv) ?_)
  refine l_op (o_val (r_ext rfl rfl) ?_)
  refine l_op (o_val (r_ext rfl rfl) ?_)
  refine l_op (o_val (r_as) ?_)
  first | refine l_end ?_ | refine l_nil ?_
  repeat refine c_seq ?_
  refine c_region ?_
  refine l_op (o_val (r_mv) ?_)
  refine l_op (o_val (r_fa rfl fo95_6) ?_)
  refine l_op (o_val (r_slAo (o := 6) (h := 32) (m := 32) (lv := none) (hv := none) (mv := none) rfl ar31 rfl rfl rfl (fun w => sbn w)) ?_)
  refine l_op (o_appB (s := (⟨some ⟨b1, 6, none⟩, 32, 32, e.of_⟩ : Sl)) (l' := be (UInt64.ofNat (e.seq).toNat).toNat 8 ++ be (UInt64.ofNat (e.tick).toNat).toNat 8 ++ be (e.serial).toNat 8 ++ cnt ((e.tenant).length) ++ e.tenant ++ be (UInt64.ofNat (e.do_).toNat).toNat 1 ++ be (UInt64.ofNat (e.status).toNat).toNat 2 ++ e.of_) (len' := n14 + 1 + 2 + 32) rfl rfl H (i := 7) rfl sl29 Try.underlying29 rfl rfl (H.slTail (i := 0) (o := 6) (pre := [VI e.seq, VI e.tick, V64 e.serial, .string ⟨(e.tenant).toArray⟩, VI e.do_, VI e.status]) rfl rfl (show (e.of_).length = 32 from he) (by decide)) (by omega) (fun a21 c22 w H => ?_))
  replace H : Hp _ w _ ([_, _, _, _, _, _, _, .own a21 (n14 + 1 + 2 + 32) c22 ((be (UInt64.ofNat (e.seq).toNat).toNat 8 ++ be (UInt64.ofNat (e.tick).toNat).toNat 8 ++ be (e.serial).toNat 8 ++ cnt ((e.tenant).length) ++ e.tenant ++ be (UInt64.ofNat (e.do_).toNat).toNat 1 ++ be (UInt64.ofNat (e.status).toNat).toNat 2 ++ e.of_).map V8) 5 1]) := H
  refine l_op (o_val (r_as) ?_)
  refine l_op (o_val (r_as) ?_)
  first | refine l_end ?_ | refine l_nil ?_
  refine c_ret ?_
  try dsimp only [Exit.then, Exit.inBlock]
  refine e_retN (vs := [.slice (hd a21) (n14 + 1 + 2 + 32) c22, VI 0]) _ Try.results85 rfl (resT (v := .slice (hd a21) (n14 + 1 + 2 + 32) c22) rfl (resT (v := VI 0) rfl (resZ))) ?_
  refine ⟨_, rfl, ?_⟩
  have e1 : be (UInt64.ofNat (e.seq).toNat).toNat 8 ++ be (UInt64.ofNat (e.tick).toNat).toNat 8 ++ be (e.serial).toNat 8 ++ cnt ((e.tenant).length) ++ e.tenant ++ be (UInt64.ofNat (e.do_).toNat).toNat 1 ++ be (UInt64.ofNat (e.status).toNat).toNat 2 ++ e.of_ = entB e := by
    rw [q1, q2, q3, q4, au_cnt _ (show e.tenant.length ≤ 127 by omega), entB] <;> simp
  rw [e1] at H
  have hh := (H.ownLen (i := 7) rfl).1
  exact ⟨_, _, _, rfl, by simpa using hh, H.sub (.cons _ (.cons _ (.cons _ (.cons _ (.cons _ (.cons _ (.cons _ (.cons_cons _ (List.nil_sublist _)))))))))⟩
theorem aLink_ok (w0 : World) (h : List UInt8) (hh : h.length = 32) (e : Ent) (he : e.of_.length = 32) (hb : e.bd) (hm : mayE e = true) :
    Ret Try.prog 87 [.agg ((h).map V8).toArray, .agg ([VI e.seq, VI e.tick, V64 e.serial, .string ⟨(e.tenant).toArray⟩, VI e.do_, VI e.status] ++ (e.of_).map V8).toArray] w0 fun v w' => v = .tuple #[.agg ((linkF h e).map V8).toArray, VI 0] ∧ Hp w0 w' [] [] := by
  refine ret_mk Try.func87 rfl Try.ntmps87 (by simp) ?_
  have H := Hp.refl w0 []
  have hm2 := (mayE_iff e).1 hm
  have hbl := entB_len e he
  repeat refine c_seq ?_
  refine c_region ?_
  refine l_op (o_box (v := .agg ((h).map V8).toArray) H rfl (fun b1 w H hb1 => ?_))
  replace H : Hp _ w _ ([.blk b1 ((h).map V8) 31]) := H
  refine l_op (o_box (v := .agg ([VI e.seq, VI e.tick, V64 e.serial, .string ⟨(e.tenant).toArray⟩, VI e.do_, VI e.status] ++ (e.of_).map V8).toArray) H rfl (fun b2 w H hb2 => ?_))
  replace H : Hp _ w _ ([_, .blk b2 ([VI e.seq, VI e.tick, V64 e.serial, .string ⟨(e.tenant).toArray⟩, VI e.do_, VI e.status] ++ (e.of_).map V8) 95]) := H
  refine l_op (o_alloc H zc31 (fun b3 w H hb3 => ?_))
  replace H : Hp _ w _ ([_, _, .blk b3 ((List.replicate 32 (0 : UInt8)).map V8) 31]) := H
  refine l_op (o_val (r_as) ?_)
  first | refine l_end ?_ | refine l_nil ?_
  repeat refine c_seq ?_
  refine c_region ?_
  refine l_op (o_val (r_ldA (C := [VI e.seq, VI e.tick, V64 e.serial, .string ⟨(e.tenant).toArray⟩, VI e.do_, VI e.status] ++ (e.of_).map V8) H (i := 1) rfl rfl rt95 (by rw [List.length_append, List.length_map, (show (e.of_).length = 32 from he)]; rfl)) ?_)
  have hk4 : (mayE e) = true := hm
  refine l_op (o_callR Try.func85 rfl rfl rfl (aBytes_ok _ e (show (e.of_).length = 32 from he) hb hk4) ?_)
  rintro _ w ⟨a5, n6, c7, rfl, hn8, Hc⟩
  replace H : Hp _ w _ ([_, _, _, .own a5 n6 c7 ((entB e).map V8) 5 1]) := H.call Hc
  clear Hc
  refine l_op (o_val (r_mv) ?_)
  refine l_op (o_val (r_ext rfl rfl) ?_)
  refine l_op (o_val (r_ext rfl rfl) ?_)
  refine l_op (o_val (r_as) ?_)
  refine l_op (o_val (r_as) ?_)
  first | refine l_end ?_ | refine l_nil ?_
  repeat refine c_seq ?_
  refine c_region ?_
  refine l_op (o_val (r_mv) ?_)
  refine l_op (o_val (r_bin (a := 0) (b := 0) rfl rfl (fun _ => b_neqB false (decide_eq_false (by decide)))) ?_)
  first | refine l_end ?_ | refine l_nil ?_
  repeat refine c_seq ?_
  refine c_no rfl ?_
  refine c_skip ?_
  repeat refine c_seq ?_
  refine c_region ?_
  refine l_op (o_val (r_slA (h := 32) (m := 32) (lv := none) (hv := none) (mv := none) rfl ar31 rfl rfl rfl (fun w => sbn w)) ?_)
  refine l_op (o_val (r_mv) ?_)
  refine l_op (o_bslV ([(⟨some ⟨b1, 0, none⟩, 32, 32, h⟩ : Sl).v, .slice (hd a5) n6 c7]) H sl22 zc29 rfl (by simp [Value.oneCell', Sl.v]) rfl (by decide) (fun b9 w H hb9 => ?_))
  replace H : Hp _ w _ ([_, _, _, _, .own (some b9) 2 2 ([(⟨some ⟨b1, 0, none⟩, 32, 32, h⟩ : Sl).v, .slice (hd a5) n6 c7]) 29 1]) := H
  refine l_op (o_callR Try.func37 rfl rfl rfl (sha2_ret _ _ (⟨some ⟨b1, 0, none⟩, 32, 32, h⟩ : Sl) (⟨hd a5, n6, c7, entB e⟩) (H.own (i := 4) rfl) (H.slBlkA (i := 0) rfl 32 (show (h).length = 32 from hh) (by decide)) (H.slOwn (i := 3) rfl)) ?_)
  rintro _ w ⟨rfl, Hc⟩
  replace H : Hp _ w _ ([_, _, _, _, _]) := H.call Hc
  clear Hc
  refine l_op (o_stA (l' := sha256 (h ++ (entB e))) H (i := 2) rfl rfl rfl cs31 (show (List.replicate 32 (0 : UInt8)).length = 32 from (List.length_replicate ..)) (show (sha256 (h ++ (entB e))).length = 32 from sha256_len _) (fun w H => ?_))
  replace H : Hp _ w _ ([_, _, .blk b3 ((sha256 (h ++ (entB e))).map V8) 31, _, _]) := H
  refine l_op (o_val (r_as) ?_)
  first | refine l_end ?_ | refine l_nil ?_
  refine c_ret ?_
  try dsimp only [Exit.then, Exit.inBlock]
  refine e_retN (vs := [.agg ((sha256 (h ++ (entB e))).map V8).toArray, VI 0]) _ Try.results87 rfl (H.resA (l := sha256 (h ++ (entB e))) (i := 2) rfl rfl rt31 (show (sha256 (h ++ (entB e))).length = 32 from sha256_len _) (resT (v := VI 0) rfl (resZ))) ?_
  refine ⟨_, rfl, ?_⟩
  exact ⟨rfl, H.sub (List.nil_sublist _)⟩
end Go.Proofs.Ytjmbbhnpfmblpaa
namespace Go.Proofs.Ytjmbbhnpfmblpaa
open Go Go.ChangeShapes Go.WideShapes Go.ChangeAt Go.RowKit Go.Deep Go.ChangeMaps
set_option maxRecDepth 100000
section
variable {H : Type} {enc : TypeId × Value → H} {W : World} {base : Nat} {spare : Nat → Bool} {held : Bool}
instance : Inhabited Ent := ⟨⟨0, 0, 0, [], 0, 0, []⟩⟩
theorem cellsEnt : Try.prog.cellsOf 95 = 38 := by kernel_rfl
theorem trod_ent (fuel : Nat) (cs : List Value) (x : DataW H × List MemPlace) (h : DataW.trod enc Try.prog W base spare held fuel 95 cs = some x) :
    ∃ c : Ent, cs = entE c ∧ (entE c).length = 38 ∧ c.bd := by
  obtain ⟨xs, n, _, _, hl, hx, hi⟩ := DataW.trod_struct Try.underlying95 h
  have hs : ∀ i, i < 7 → ∃ y, xs[i]? = some y := fun i hi => ⟨_, List.getElem?_eq_getElem (by rw [hx]; exact hi)⟩
  obtain ⟨y0, e0⟩ := hs 0 (by decide)
  obtain ⟨y1, e1⟩ := hs 1 (by decide)
  obtain ⟨y2, e2⟩ := hs 2 (by decide)
  obtain ⟨y3, e3⟩ := hs 3 (by decide)
  obtain ⟨y4, e4⟩ := hs 4 (by decide)
  obtain ⟨y5, e5⟩ := hs 5 (by decide)
  obtain ⟨y6, e6⟩ := hs 6 (by decide)
  have h0 := (hi 0 _ rfl).trans e0
  have h1 := (hi 1 _ rfl).trans e1
  have h2 := (hi 2 _ rfl).trans e2
  have h3 := (hi 3 _ rfl).trans e3
  have h4 := (hi 4 _ rfl).trans e4
  have h5 := (hi 5 _ rfl).trans e5
  have h6 := (hi 6 _ rfl).trans e6
  obtain ⟨a0, q0, _, w0⟩ := DataW.trod_int (t := 2) (k := .i64) (by kernel_rfl) h0
  obtain ⟨a1, q1, _, w1⟩ := DataW.trod_int (t := 2) (k := .i64) (by kernel_rfl) h1
  obtain ⟨a2, q2⟩ := open_u64v (t := 35) (by kernel_rfl) h2
  obtain ⟨a3, q3, _, _⟩ := DataW.trod_string (t := 9) (by kernel_rfl) h3
  obtain ⟨a4, q4, _, _⟩ := DataW.trod_int (t := 3) (k := .i64) (by kernel_rfl) h4
  obtain ⟨a5, q5, _, _⟩ := DataW.trod_int (t := 3) (k := .i64) (by kernel_rfl) h5
  obtain ⟨a6, q6, l6⟩ := trod_id h6
  have f1 : Try.prog.cellsOf 35 = 1 := by kernel_rfl
  have f2 : Try.prog.cellsOf 9 = 1 := by kernel_rfl
  have f3 : Try.prog.cellsOf 3 = 1 := by kernel_rfl
  have f4 : Try.prog.cellsOf 2 = 1 := by kernel_rfl
  replace q0 : (cs.drop 0).take (Try.prog.cellsOf 2) = _ := q0
  rw [f4] at q0
  replace q1 : (cs.drop 1).take (Try.prog.cellsOf 2) = _ := q1
  rw [f4] at q1
  replace q2 : (cs.drop 2).take (Try.prog.cellsOf 35) = _ := q2
  rw [f1] at q2
  replace q3 : (cs.drop 3).take (Try.prog.cellsOf 9) = _ := q3
  rw [f2] at q3
  replace q4 : (cs.drop 4).take (Try.prog.cellsOf 3) = _ := q4
  rw [f3] at q4
  replace q5 : (cs.drop 5).take (Try.prog.cellsOf 3) = _ := q5
  rw [f3] at q5
  replace q6 : (cs.drop 6).take (Try.prog.cellsOf 31) = _ := q6
  rw [cellsId] at q6
  rw [cellsEnt] at hl
  have s : ∀ k v, (cs.drop k).take 1 = [v] → cs.drop k = v :: cs.drop (k + 1) := fun k v h => by
    have := List.take_append_drop 1 (cs.drop k)
    rw [h, List.drop_drop] at this
    exact this.symm
  have b0 := bounds_i64 w0
  have b1 := bounds_i64 w1
  refine ⟨⟨a0, a1, a2, a3.data.toList, a4, a5, a6⟩, ?_, ent_len l6, ⟨b0.2, b1.2⟩⟩
  have z : cs.drop 0 = [VI a0, VI a1, V64 a2, .string a3, VI a4, VI a5] ++ a6.map V8 := by
    rw [s 0 _ q0, s (0 + 1) _ q1, s (0 + 1 + 1) _ q2, s (0 + 1 + 1 + 1) _ q3, s (0 + 1 + 1 + 1 + 1) _ q4, s (0 + 1 + 1 + 1 + 1 + 1) _ q5, ← q6, List.take_of_length_le (by simp; omega)]
    rfl
  rw [List.drop_zero] at z
  exact z
theorem open_ent {base0 : Nat} {v : Value} {d : DataW H} {p : List MemPlace} (_ : Value.okWide Try.prog W .any base0 95 v) (h : DataW.Trod enc Try.prog W base spare held 95 v d p) :
    ∃ e : Ent, v = .agg (entE e).toArray ∧ e.of_.length = 32 ∧ e.bd := by
  obtain ⟨fuel, hf⟩ := h
  obtain ⟨e, he, h1, h2⟩ := trod_ent _ _ _ hf
  exact ⟨e, open_agg he (by rw [h1]; decide), ent_of h1, h2⟩
end
end Go.Proofs.Ytjmbbhnpfmblpaa
namespace Go.Proofs.Ytjmbbhnpfmblpaa
open Go
set_option maxRecDepth 100000
theorem b_shl8 {P : Program} {w : World} {yk : IntKind} {x : Nat} (h : x < 256) : (Op.shift .shl .i64 (x : Int) yk 8).run P w = .ok (VI ((x * 256 : Nat) : Int)) w := by
  have := b_shl_i64 (P := P) (w := w) (yk := yk) (a := (x : Int)) (c := 8) (by omega) (by omega) (by omega)
  rw [show (x : Int) * 2 ^ 8 = ((x * 256 : Nat) : Int) by omega] at this
  exact this
theorem au_hb : ∀ n x (b : UInt8), be (x * 256 + b.toNat) (n + 1) = be x n ++ [b] := by
  intro n
  induction n with
  | zero => intro x b; simp [be]
  | succ n ih =>
    intro x b
    rw [be, ih x b, be, List.cons_append]
    congr 2
    have := u8_lt b
    rw [Nat.pow_succ, Nat.mul_comm (256 ^ n) 256, ← Nat.div_div_eq_div_mul]
    congr 1; omega
theorem au_be_ofbe : ∀ l : List UInt8, be (ofbe l) l.length = l := by
  suffices h : ∀ n (l : List UInt8), l.length = n → be (ofbe l) n = l from fun l => h _ l rfl
  intro n
  induction n with
  | zero => intro l hl; rw [List.length_eq_zero_iff.1 hl]; rfl
  | succ n ih =>
    intro l hl
    obtain ⟨r, b, rfl⟩ : ∃ r b, l = r ++ [b] := ⟨l.dropLast, l.getLast (by intro e; subst e; simp at hl), (List.dropLast_concat_getLast _).symm⟩
    rw [ofbe_snoc, au_hb, ih r (by simpa using hl)]
theorem au_ofbe_be (v : Nat) : ∀ n, v < 256 ^ n → ofbe (be v n) = v := by
  intro n
  induction n generalizing v with
  | zero => intro h; simp at h; subst h; rfl
  | succ n ih =>
    intro h
    have e : v = v / 256 * 256 + (UInt8.ofNat v).toNat := by rw [UInt8.toNat_ofNat']; omega
    rw [e, au_hb, ofbe_snoc, ih (v / 256) (by rw [Nat.pow_succ] at h; omega)]
theorem au_num_be (v : Nat) (r : List UInt8) (h : v < 18446744073709551616) : (num (be v 8 ++ r) 0 8).toNat = v := by
  rw [num, List.drop_zero, List.take_left' (be_len _ _), au_ofbe_be _ 8 (by omega), ofNat_nat _ h]
theorem au_num_cut (l : List UInt8) (a : Nat) (h : a + 8 ≤ l.length) : be (num l a 8).toNat 8 = (l.drop a).take 8 := by
  have hl : ((l.drop a).take 8).length = 8 := by simp; omega
  have h2 := ofbe_lt ((l.drop a).take 8)
  rw [hl] at h2
  have e := au_be_ofbe ((l.drop a).take 8)
  rw [hl] at e
  rw [num, ofNat_nat _ (by omega), e]
theorem au_num_drop (l : List UInt8) (a n : Nat) : num l a n = num (l.drop a) 0 n := by rw [num, num, List.drop_zero]
theorem au_getD (l : List UInt8) (a : Nat) (h : a < l.length) : l.drop a = l.getD a 0 :: l.drop (a + 1) := by
  rw [List.drop_eq_getElem_cons h, List.getD_eq_getElem?_getD, List.getElem?_eq_getElem h]; rfl
theorem au_ofbe_cons (l : List UInt8) (c : UInt8) : ofbe (c :: l) = c.toNat * 256 ^ l.length + ofbe l := by
  suffices h : ∀ n (l : List UInt8), l.length = n → ofbe (c :: l) = c.toNat * 256 ^ l.length + ofbe l from h _ l rfl
  intro n
  induction n with
  | zero => intro l hl; rw [List.length_eq_zero_iff.1 hl]; simp [ofbe]
  | succ n ih =>
    intro l hl
    obtain ⟨r, b, rfl⟩ : ∃ r b, l = r ++ [b] := ⟨l.dropLast, l.getLast (by intro e; subst e; simp at hl), (List.dropLast_concat_getLast _).symm⟩
    rw [← List.cons_append, ofbe_snoc, ih r (by simpa using hl), ofbe_snoc, List.length_append, List.length_singleton, Nat.pow_succ, Nat.add_mul, Nat.mul_assoc]
    omega
theorem small_aux (K x y : Nat) (h1 : x * K ≤ 127 * K) (h2 : y < K) (h3 : K = 72057594037927936) : x * K + y ≤ 9223372036854775807 := by
  generalize x * K = z at *
  omega
/-- a number of eight bytes whose first is below 128. -/
theorem num_small (l : List UInt8) (a : Nat) (h : a + 8 ≤ l.length) (h1 : (l.getD a 0).toNat ≤ 127) : (num l a 8).toNat ≤ 9223372036854775807 := by
  have e : (l.drop a).take 8 = l.getD a 0 :: (l.drop (a + 1)).take 7 := by rw [au_getD l a (by omega)]; rfl
  have hl : ((l.drop (a + 1)).take 7).length = 7 := by simp; omega
  have h2 := ofbe_lt ((l.drop (a + 1)).take 7)
  rw [hl] at h2
  have hm : (l.getD a 0).toNat * 256 ^ 7 ≤ 127 * 256 ^ 7 := Nat.mul_le_mul_right _ h1
  have e7 : (256 : Nat) ^ 7 = 72057594037927936 := by decide
  have hx : ofbe (l.getD a 0 :: (l.drop (a + 1)).take 7) ≤ 9223372036854775807 := by rw [au_ofbe_cons, hl]; exact small_aux _ _ _ hm h2 e7
  rw [num, e, ofNat_nat _ (by omega)]
  exact hx
theorem num_small' (v : Nat) (r : List UInt8) (h : v ≤ 9223372036854775807) : ((be v 8 ++ r).getD 0 0).toNat ≤ 127 := by
  have e : be v 8 = UInt8.ofNat (v / 256 ^ 7) :: be v 7 := by rw [be]
  have e7 : (256 : Nat) ^ 7 = 72057594037927936 := by decide
  rw [e, List.cons_append, List.getD_cons_zero, UInt8.toNat_ofNat', e7]; omega
def aN (b : List UInt8) : Nat := (b.getD 24 0).toNat
/-- no entry's bytes begin so. -/
def badE (b : List UInt8) : Prop := (0 < b.length ∧ 127 < (b.getD 0 0).toNat) ∨ (8 < b.length ∧ 127 < (b.getD 8 0).toNat) ∨ (24 < b.length ∧ 16 < aN b) ∨ (24 < b.length ∧ 26 + aN b < b.length ∧ 3 < (b.getD (26 + aN b) 0).toNat) ∨ (24 < b.length ∧ 27 + aN b < b.length ∧ 999 < (b.getD (26 + aN b) 0).toNat * 256 + (b.getD (27 + aN b) 0).toNat)
instance (b : List UInt8) : Decidable (badE b) := by unfold badE; infer_instance
def entAt (b : List UInt8) : Ent := ⟨((num b 0 8).toNat : Int), ((num b 8 8).toNat : Int), num b 16 8, (b.drop 25).take (aN b), ((b.getD (25 + aN b) 0).toNat : Int), (((b.getD (26 + aN b) 0).toNat * 256 + (b.getD (27 + aN b) 0).toNat : Nat) : Int), (b.drop (28 + aN b)).take 32⟩
def E0 : Ent := ⟨0, 0, 0, [], 0, 0, List.replicate 32 0⟩
def takeC (b : List UInt8) : Nat := if badE b then 4 else if b.length < 25 ∨ b.length < 60 + aN b then 3 else 0
def takeE (b : List UInt8) : Ent := if takeC b = 0 then entAt b else E0
def takeN (b : List UInt8) : Nat := if takeC b = 0 then 60 + aN b else 0
theorem takeC_ok (b : List UInt8) : takeC b = 0 ↔ ¬ badE b ∧ 25 ≤ b.length ∧ 60 + aN b ≤ b.length := by
  unfold takeC
  split
  · rename_i h; simp [h]
  · rename_i h
    split
    · rename_i h2; constructor
      · intro h3; cases h3
      · rintro ⟨_, h3, h4⟩; omega
    · rename_i h2; exact ⟨fun _ => ⟨h, by omega, by omega⟩, fun _ => rfl⟩
theorem takeE_of (b : List UInt8) : (takeE b).of_.length = 32 := by
  unfold takeE
  split
  · rename_i h
    have := (takeC_ok b).1 h
    simp only [entAt]; simp; omega
  · simp [E0]
theorem takeN_le (b : List UInt8) : takeN b ≤ b.length := by
  unfold takeN
  split
  · rename_i h; exact ((takeC_ok b).1 h).2.2
  · exact Nat.zero_le _
theorem take_ok (b : List UInt8) (h : takeC b = 0) : takeE b = entAt b ∧ takeN b = 60 + aN b ∧ mayE (entAt b) = true ∧ (entAt b).bd ∧ entB (entAt b) = b.take (60 + aN b) ∧ (entAt b).tenant.length = aN b := by
  obtain ⟨h1, h2, h3⟩ := (takeC_ok b).1 h
  unfold badE at h1
  have hten : ((b.drop 25).take (aN b)).length = aN b := by simp; omega
  have k0 := num_small b 0 (by omega) (by omega)
  have k8 := num_small b 8 (by omega) (by omega)
  have hd := u8_lt (b.getD (25 + aN b) 0)
  have hd2 := u8_lt (b.getD (27 + aN b) 0)
  refine ⟨by rw [takeE, if_pos h], by rw [takeN, if_pos h], ?_, ⟨?_, ?_⟩, ?_, hten⟩
  · rw [mayE_iff]; simp only [entAt]; rw [hten]; omega
  · simp only [entAt]; omega
  · simp only [entAt]; omega
  · simp only [entB, entAt, hten, Int.toNat_natCast]
    have ts : ∀ a n m, a + n = m → b.drop a = (b.drop a).take n ++ b.drop m := fun a n m e => by rw [← e, ← List.drop_drop, List.take_append_drop]
    have o24 : UInt8.ofNat (aN b) = b.getD 24 0 := UInt8.ofNat_toNat
    have o25 : be (b.getD (25 + aN b) 0).toNat 1 = [b.getD (25 + aN b) 0] := by rw [au_be1 _ (by omega), UInt8.ofNat_toNat]
    have o26 : be ((b.getD (26 + aN b) 0).toNat * 256 + (b.getD (27 + aN b) 0).toNat) 2 = [b.getD (26 + aN b) 0, b.getD (27 + aN b) 0] := by
      rw [au_be2, show ((b.getD (26 + aN b) 0).toNat * 256 + (b.getD (27 + aN b) 0).toNat) / 256 = (b.getD (26 + aN b) 0).toNat by omega, show ((b.getD (26 + aN b) 0).toNat * 256 + (b.getD (27 + aN b) 0).toNat) % 256 = (b.getD (27 + aN b) 0).toNat by omega, UInt8.ofNat_toNat, UInt8.ofNat_toNat]
    have e : b.take (60 + aN b) = (b.drop 0).take 8 ++ ((b.drop 8).take 8 ++ ((b.drop 16).take 8 ++ (b.getD 24 0 :: ((b.drop 25).take (aN b) ++ (b.getD (25 + aN b) 0 :: b.getD (26 + aN b) 0 :: b.getD (27 + aN b) 0 :: (b.drop (28 + aN b)).take 32))))) := by
      have s : b = (b.drop 0).take 8 ++ ((b.drop 8).take 8 ++ ((b.drop 16).take 8 ++ (b.getD 24 0 :: ((b.drop 25).take (aN b) ++ (b.getD (25 + aN b) 0 :: b.getD (26 + aN b) 0 :: b.getD (27 + aN b) 0 :: ((b.drop (28 + aN b)).take 32 ++ b.drop (60 + aN b))))))) := by
        have s0 := ts 0 8 8 rfl
        have s1 := ts 8 8 16 rfl
        have s2 := ts 16 8 24 rfl
        have s3 := au_getD b 24 (by omega)
        have s4 := ts 25 (aN b) (25 + aN b) rfl
        have s5 := au_getD b (25 + aN b) (by omega)
        have s6 := au_getD b (26 + aN b) (by omega)
        have s7 := au_getD b (27 + aN b) (by omega)
        have s8 := ts (28 + aN b) 32 (60 + aN b) (by omega)
        rw [show 25 + aN b + 1 = 26 + aN b by omega] at s5
        rw [show 26 + aN b + 1 = 27 + aN b by omega] at s6
        rw [show 27 + aN b + 1 = 28 + aN b by omega] at s7
        rw [← s8, ← s7, ← s6, ← s5, ← s4, ← s3, ← s2, ← s1, ← s0, List.drop_zero]
      refine List.append_cancel_right (bs := b.drop (60 + aN b)) ?_
      rw [List.take_append_drop]
      conv => lhs; rw [s]
      simp
    rw [au_num_cut b 0 (by omega), au_num_cut b 8 (by omega), au_num_cut b 16 (by omega), o24, o25, o26, e]
    simp
theorem take_of (e : Ent) (r : List UInt8) (hm : mayE e = true) (hb : e.bd) (he : e.of_.length = 32) : takeC (entB e ++ r) = 0 ∧ entAt (entB e ++ r) = e ∧ aN (entB e ++ r) = e.tenant.length := by
  have hm2 := (mayE_iff e).1 hm
  have hb1 := hb.1
  have hb2 := hb.2
  have d0 : entB e ++ r = be e.seq.toNat 8 ++ (be e.tick.toNat 8 ++ (be e.serial.toNat 8 ++ (UInt8.ofNat e.tenant.length :: (e.tenant ++ (UInt8.ofNat e.do_.toNat :: UInt8.ofNat (e.status.toNat / 256) :: UInt8.ofNat (e.status.toNat % 256) :: (e.of_ ++ r)))))) := by
    simp [entB, au_be1 _ (show e.do_.toNat ≤ 255 by omega), au_be2]
  have d8 : (entB e ++ r).drop 8 = be e.tick.toNat 8 ++ (be e.serial.toNat 8 ++ (UInt8.ofNat e.tenant.length :: (e.tenant ++ (UInt8.ofNat e.do_.toNat :: UInt8.ofNat (e.status.toNat / 256) :: UInt8.ofNat (e.status.toNat % 256) :: (e.of_ ++ r))))) := by rw [d0, List.drop_left' (be_len _ _)]
  have d16 : (entB e ++ r).drop 16 = be e.serial.toNat 8 ++ (UInt8.ofNat e.tenant.length :: (e.tenant ++ (UInt8.ofNat e.do_.toNat :: UInt8.ofNat (e.status.toNat / 256) :: UInt8.ofNat (e.status.toNat % 256) :: (e.of_ ++ r)))) := by rw [show 16 = 8 + 8 from rfl, ← List.drop_drop, d8, List.drop_left' (be_len _ _)]
  have d24 : (entB e ++ r).drop 24 = UInt8.ofNat e.tenant.length :: (e.tenant ++ (UInt8.ofNat e.do_.toNat :: UInt8.ofNat (e.status.toNat / 256) :: UInt8.ofNat (e.status.toNat % 256) :: (e.of_ ++ r))) := by rw [show 24 = 16 + 8 from rfl, ← List.drop_drop, d16, List.drop_left' (be_len _ _)]
  have hget : ∀ (l : List UInt8) (a : Nat) (c : UInt8) (q : List UInt8), l.drop a = c :: q → l.getD a 0 = c := by
    intro l a c q h
    have : (l.drop a)[0]? = some c := by rw [h]; rfl
    rw [List.getElem?_drop, Nat.add_zero] at this
    rw [List.getD_eq_getElem?_getD, this]; rfl
  have hN : aN (entB e ++ r) = e.tenant.length := by rw [aN, hget _ _ _ _ d24, UInt8.toNat_ofNat']; omega
  have d25 : (entB e ++ r).drop 25 = e.tenant ++ (UInt8.ofNat e.do_.toNat :: UInt8.ofNat (e.status.toNat / 256) :: UInt8.ofNat (e.status.toNat % 256) :: (e.of_ ++ r)) := by rw [show 25 = 24 + 1 from rfl, ← List.drop_drop, d24]; rfl
  have da : (entB e ++ r).drop (25 + aN (entB e ++ r)) = UInt8.ofNat e.do_.toNat :: UInt8.ofNat (e.status.toNat / 256) :: UInt8.ofNat (e.status.toNat % 256) :: (e.of_ ++ r) := by rw [← List.drop_drop, d25, List.drop_left' hN.symm]
  have db : (entB e ++ r).drop (26 + aN (entB e ++ r)) = UInt8.ofNat (e.status.toNat / 256) :: UInt8.ofNat (e.status.toNat % 256) :: (e.of_ ++ r) := by rw [show 26 + aN (entB e ++ r) = 25 + aN (entB e ++ r) + 1 by omega, ← List.drop_drop, da]; rfl
  have dc : (entB e ++ r).drop (27 + aN (entB e ++ r)) = UInt8.ofNat (e.status.toNat % 256) :: (e.of_ ++ r) := by rw [show 27 + aN (entB e ++ r) = 26 + aN (entB e ++ r) + 1 by omega, ← List.drop_drop, db]; rfl
  have dd : (entB e ++ r).drop (28 + aN (entB e ++ r)) = e.of_ ++ r := by rw [show 28 + aN (entB e ++ r) = 27 + aN (entB e ++ r) + 1 by omega, ← List.drop_drop, dc]; rfl
  have hl : (entB e ++ r).length = 60 + e.tenant.length + r.length := by rw [List.length_append, entB_len e he]
  have g0 : ((entB e ++ r).getD 0 0).toNat ≤ 127 := by rw [d0]; exact num_small' _ _ (by omega)
  have g8 : ((entB e ++ r).getD 8 0).toNat ≤ 127 := by
    have : (entB e ++ r).getD 8 0 = ((entB e ++ r).drop 8).getD 0 0 := by rw [List.getD_eq_getElem?_getD, List.getD_eq_getElem?_getD, List.getElem?_drop]
    rw [this, d8]; exact num_small' _ _ (by omega)
  have g26 : ((entB e ++ r).getD (26 + aN (entB e ++ r)) 0).toNat = e.status.toNat / 256 := by rw [hget _ _ _ _ db, UInt8.toNat_ofNat']; omega
  have g27 : ((entB e ++ r).getD (27 + aN (entB e ++ r)) 0).toNat = e.status.toNat % 256 := by rw [hget _ _ _ _ dc, UInt8.toNat_ofNat']; omega
  have g25 : ((entB e ++ r).getD (25 + aN (entB e ++ r)) 0).toNat = e.do_.toNat := by rw [hget _ _ _ _ da, UInt8.toNat_ofNat']; omega
  refine ⟨(takeC_ok _).2 ⟨?_, by omega, by omega⟩, ?_, hN⟩
  · unfold badE; omega
  · have n0 : (num (entB e ++ r) 0 8).toNat = e.seq.toNat := by rw [d0, au_num_be _ _ (by omega)]
    have n8 : (num (entB e ++ r) 8 8).toNat = e.tick.toNat := by rw [au_num_drop, d8, au_num_be _ _ (by omega)]
    have n16 : num (entB e ++ r) 16 8 = e.serial := by apply UInt64.toNat_inj.1; rw [au_num_drop, d16, au_num_be _ _ (u64_lt _)]
    rw [entAt, n0, n8, n16, g25, g26, g27, d25, dd, hN, List.take_left' rfl, List.take_left' he]
    have q1 : (e.seq.toNat : Int) = e.seq := by omega
    have q2 : (e.tick.toNat : Int) = e.tick := by omega
    have q3 : (e.do_.toNat : Int) = e.do_ := by omega
    have q4 : ((e.status.toNat / 256 * 256 + e.status.toNat % 256 : Nat) : Int) = e.status := by omega
    rw [q1, q2, q3, q4]
theorem getD_take (b : List UInt8) (m i : Nat) (h : i < m) : (b.take m).getD i 0 = b.getD i 0 := by
  rw [List.getD_eq_getElem?_getD, List.getD_eq_getElem?_getD, List.getElem?_take_of_lt h]
theorem bad_take (b : List UInt8) (m : Nat) (h : badE (b.take m)) : badE b := by
  have hl : (b.take m).length ≤ m := by simp; omega
  have hl2 : (b.take m).length ≤ b.length := by simp; omega
  have hn : 24 < (b.take m).length → aN (b.take m) = aN b := fun h => by rw [aN, aN, getD_take b m 24 (by omega)]
  unfold badE at h ⊢
  rcases h with ⟨h1, h2⟩ | ⟨h1, h2⟩ | ⟨h1, h2⟩ | ⟨h1, h2, h3⟩ | ⟨h1, h2, h3⟩
  · rw [getD_take b m 0 (by omega)] at h2; exact .inl ⟨by omega, h2⟩
  · rw [getD_take b m 8 (by omega)] at h2; exact .inr (.inl ⟨by omega, h2⟩)
  · rw [hn h1] at h2; exact .inr (.inr (.inl ⟨by omega, h2⟩))
  · rw [hn h1] at h2 h3; rw [getD_take b m _ (by omega)] at h3; exact .inr (.inr (.inr (.inl ⟨by omega, by omega, h3⟩)))
  · rw [hn h1] at h2 h3; rw [getD_take b m _ (by omega), getD_take b m _ (by omega)] at h3; exact .inr (.inr (.inr (.inr ⟨by omega, by omega, h3⟩)))
/-- cut off anywhere it is short. -/
theorem take_cut (e : Ent) (m : Nat) (hm : mayE e = true) (hb : e.bd) (he : e.of_.length = 32) (h : m < (entB e).length) : takeC ((entB e).take m) = 3 := by
  have h0 := take_of e [] hm hb he
  rw [List.append_nil] at h0
  have h1 := (takeC_ok _).1 h0.1
  have hl := entB_len e he
  have hlm : ((entB e).take m).length = m := by simp; omega
  rw [takeC, if_neg (fun hbad => h1.1 (bad_take _ _ hbad)), if_pos]
  by_cases h25 : m < 25
  · exact .inl (by omega)
  · right
    have : aN ((entB e).take m) = aN (entB e) := by rw [aN, aN, getD_take _ _ _ (by omega)]
    omega
end Go.Proofs.Ytjmbbhnpfmblpaa
namespace Go.Proofs.Ytjmbbhnpfmblpaa
open Go
set_option maxRecDepth 100000
def v3 (l : List UInt8) (i : Nat) : List Value := (List.range 3).map fun j => V64 (if j < i then num l (8 * j) 8 else 0)
theorem v3_set (l : List UInt8) (i : Nat) (h : i < 3) : (v3 l i).set i (V64 (num l (8 * i) 8)) = v3 l (i + 1) := by
  apply List.ext_getElem
  · simp [v3]
  · intro j h1 h2
    simp only [v3, List.getElem_set, List.getElem_map, List.getElem_range]
    by_cases hji : i = j
    · subst hji; rw [if_pos rfl, if_pos (by omega)]
    · rw [if_neg hji]
      by_cases hlt : j < i
      · rw [if_pos hlt, if_pos (by omega)]
      · rw [if_neg hlt, if_neg (by omega)]
theorem v3_three (l : List UInt8) : v3 l 3 = [V64 (num l 0 8), V64 (num l 8 8), V64 (num l 16 8)] := by rfl
theorem begins_ret (w0 : World) (s : Sl) (hs : s.ok w0) :
    Ret Try.prog 128 [s.v] w0 fun v w' => v = .bool (decide (¬ badE s.l)) ∧ Hp w0 w' [] [] := by
  refine ret_mk Try.func128 rfl Try.ntmps128 (by simp) ?_
  have H := Hp.refl w0 []
  have hsl := hs.ln
  have hse := hs.le
  have hNlt : aN s.l < 256 := u8_lt _
  have hAN : aN s.l = (s.l.getD 24 0).toNat := rfl
  repeat refine c_seq ?_
  refine c_region ?_
  refine l_op (o_val (r_as) ?_)
  first | refine l_end ?_ | refine l_nil ?_
  repeat refine c_seq ?_
  refine c_region ?_
  refine l_op (o_val (r_bld' (cells := #[VI 0, VI 8]) (pv := [(0, VI 0), (1, VI 8)]) bd162 rfl rfl) ?_)
  refine l_op (o_val (r_mv) ?_)
  first | refine l_end ?_ | refine l_nil ?_
  repeat refine c_seq ?_
  refine c_block ?_
  repeat refine c_seq ?_
  refine c_loop (fun (i : Nat) => [(0, s.v), (6, .agg #[VI 0, VI 8]), (7, VI (i : Int))])
    (fun (i : Nat) w => (i ≤ 2 ∧ ∀ j, j < i → ¬ (8 * j < s.len ∧ 127 < (s.l.getD (8 * j) 0).toNat)) ∧ Hp w0 w [] ([]))
    (fun (i : Nat) => 2 - i) 0 ⟨rfl, rfl, rfl, trivial⟩ ⟨⟨by omega, fun j hj => absurd hj (by omega)⟩, H⟩ ?_
  clear H
  rintro i τ w ⟨⟨hi, hall⟩, H⟩
  repeat refine c_seq ?_
  refine c_region ?_
  refine l_op (o_val (r_bin (a := (i : Int)) (b := 2) rfl rfl (fun _ => b_lss)) ?_)
  first | refine l_end ?_ | refine l_nil ?_
  by_cases hc1 : (i : Int) < 2
  ·
   repeat refine c_seq ?_
   refine c_yes (by exact congrArg Value.bool (decide_eq_true hc1)) ?_
   refine c_skip ?_
   repeat refine c_seq ?_
   refine c_block ?_
   repeat refine c_seq ?_
   refine c_region ?_
   refine l_op (o_val (r_idxa (sz := 1) (v := VI (8 * (i : Int))) Try.underlying162 (by kernel_rfl) (by kernel_rfl) rfl rfl (by omega) (by omega) (by rw [Int.toNat_natCast]; rcases (show i = 0 ∨ i = 1 by omega) with rfl | rfl <;> rfl)) ?_)
   refine l_op (o_val (r_as) ?_)
   first | refine l_end ?_ | refine l_nil ?_
   repeat refine c_seq ?_
   refine c_region ?_
   refine l_op (o_val (r_mv) ?_)
   refine l_op (o_val (r_mv) ?_)
   refine l_op (o_val (r_lens el29 rfl) ?_)
   refine l_op (o_val (r_bin (a := 8 * (i : Int)) (b := (s.len : Int)) rfl rfl (fun _ => b_lss)) ?_)
   refine l_op (o_val (r_mv) ?_)
   by_cases hc2 : 8 * (i : Int) < (s.len : Int)
   ·
    refine l_yes rfl rfl (by exact congrArg Value.bool (decide_eq_true hc2)) (o_val (r_mv) ?_)
    refine l_yes rfl rfl (by exact congrArg Value.bool (decide_eq_true hc2)) (o_val (r_mv) ?_)
    have ah5 := ((hs.up H (fun _ => apart_nil _))).addr (by (try simp only [Sl.cut]); omega)
    obtain ⟨ab3, ao4, ah5⟩ := ah5
    refine l_yes rfl rfl (by exact congrArg Value.bool (decide_eq_true hc2)) (o_val (r_isN (8 * i) rfl rfl el29 ah5 (by omega) (by (try simp only [Sl.cut]); omega)) ?_)
    refine l_yes rfl rfl (by exact congrArg Value.bool (decide_eq_true hc2)) (o_val (r_ldB (s := s) (k := 8 * i) (hs.up H (fun _ => apart_nil _)) ah5 rfl ct5 (by (try simp only [Sl.cut]); omega)) ?_)
    refine l_yes rfl rfl (by exact congrArg Value.bool (decide_eq_true hc2)) (o_val (r_bin (a := (((s.l).getD (8 * i) 0).toNat : Int)) (b := 127) rfl rfl (fun _ => b_gtr)) ?_)
    refine l_op (o_val (r_pick (b := true) (congrArg Value.bool (decide_eq_true hc2))) ?_)
    first | refine l_end ?_ | refine l_nil ?_
    by_cases hc6 : 127 < (((s.l).getD (8 * i) 0).toNat : Int)
    ·
     repeat refine c_seq ?_
     refine c_yes (by exact congrArg Value.bool (decide_eq_true hc6)) ?_
     repeat refine c_seq ?_
     refine c_region ?_
     refine l_op (o_val (r_as) ?_)
     first | refine l_end ?_ | refine l_nil ?_
     refine c_ret ?_
     try dsimp only [Exit.then, Exit.inBlock]
     refine e_ret1 (v := .bool false) Try.results128 rfl ?_
     refine ⟨_, rfl, ?_⟩
     refine ⟨?_, H⟩
     have hbad : badE s.l := by
       unfold badE
       rcases (show i = 0 ∨ i = 1 by omega) with rfl | rfl
       · rw [show 8 * 0 = 0 from rfl] at *; omega
       · rw [show 8 * 1 = 8 from rfl] at *; omega
     rw [decide_eq_false (not_not_intro hbad)]
    ·
     repeat refine c_seq ?_
     refine c_no (by exact congrArg Value.bool (decide_eq_false hc6)) ?_
     refine c_skip ?_
     repeat refine c_seq ?_
     refine c_region ?_
     refine l_op (o_val (r_bin (a := (i : Int)) (b := 1) rfl rfl (fun _ => b_add (by omega) (by omega))) ?_)
     refine l_op (o_val (r_mv) ?_)
     first | refine l_end ?_ | refine l_nil ?_
     refine round_end (i + 1) ?_ ?_ ?_
     · exact ⟨rfl, rfl, show VI ((i : Int) + 1) = VI ((i + 1 : Nat) : Int) from congrArg VI (by omega), trivial⟩
     · refine ⟨?_, ?_⟩
       · try dsimp only
         exact ⟨by omega, fun j hj => by
           by_cases hji : j < i
           · exact hall j hji
           · have e : j = i := by omega
             rw [e]; omega⟩
       · exact H
     · show 2 - (i + 1 : Nat) < 2 - i; omega
   ·
    refine l_no rfl rfl (by exact congrArg Value.bool (decide_eq_false hc2)) rfl ?_
    refine l_no rfl rfl (by exact congrArg Value.bool (decide_eq_false hc2)) rfl ?_
    refine l_no rfl rfl (by exact congrArg Value.bool (decide_eq_false hc2)) rfl ?_
    refine l_no rfl rfl (by exact congrArg Value.bool (decide_eq_false hc2)) rfl ?_
    refine l_no rfl rfl (by exact congrArg Value.bool (decide_eq_false hc2)) rfl ?_
    refine l_op (o_val (r_pick (b := false) (congrArg Value.bool (decide_eq_false hc2))) ?_)
    first | refine l_end ?_ | refine l_nil ?_
    repeat refine c_seq ?_
    refine c_no rfl ?_
    refine c_skip ?_
    repeat refine c_seq ?_
    refine c_region ?_
    refine l_op (o_val (r_bin (a := (i : Int)) (b := 1) rfl rfl (fun _ => b_add (by omega) (by omega))) ?_)
    refine l_op (o_val (r_mv) ?_)
    first | refine l_end ?_ | refine l_nil ?_
    refine round_end (i + 1) ?_ ?_ ?_
    · exact ⟨rfl, rfl, show VI ((i : Int) + 1) = VI ((i + 1 : Nat) : Int) from congrArg VI (by omega), trivial⟩
    · refine ⟨?_, ?_⟩
      · try dsimp only
        exact ⟨by omega, fun j hj => by
          by_cases hji : j < i
          · exact hall j hji
          · have e : j = i := by omega
            rw [e]; omega⟩
      · exact H
    · show 2 - (i + 1 : Nat) < 2 - i; omega
  ·
   repeat refine c_seq ?_
   refine c_no (by exact congrArg Value.bool (decide_eq_false hc1)) ?_
   refine c_exit ?_
   repeat refine c_seq ?_
   refine c_region ?_
   refine l_op (o_val (r_mv) ?_)
   refine l_op (o_val (r_lens el29 rfl) ?_)
   refine l_op (o_val (r_bin (a := (s.len : Int)) (b := 24) rfl rfl (fun _ => b_leq)) ?_)
   first | refine l_end ?_ | refine l_nil ?_
   by_cases hc7 : (s.len : Int) ≤ 24
   ·
    repeat refine c_seq ?_
    refine c_yes (by exact congrArg Value.bool (decide_eq_true hc7)) ?_
    repeat refine c_seq ?_
    refine c_region ?_
    refine l_op (o_val (r_as) ?_)
    first | refine l_end ?_ | refine l_nil ?_
    refine c_ret ?_
    try dsimp only [Exit.then, Exit.inBlock]
    refine e_ret1 (v := .bool true) Try.results128 rfl ?_
    refine ⟨_, rfl, ?_⟩
    have h0 : ¬ (0 < s.len ∧ 127 < (s.l.getD 0 0).toNat) := hall 0 (by omega)
    have h8 : ¬ (8 < s.len ∧ 127 < (s.l.getD 8 0).toNat) := hall 1 (by omega)
    refine ⟨?_, H⟩
    have hbad : ¬ badE s.l := by unfold badE; omega
    rw [decide_eq_true hbad]
   ·
    repeat refine c_seq ?_
    refine c_no (by exact congrArg Value.bool (decide_eq_false hc7)) ?_
    refine c_skip ?_
    repeat refine c_seq ?_
    refine c_region ?_
    refine l_op (o_val (r_mv) ?_)
    have ah10 := ((hs.up H (fun _ => apart_nil _))).addr (by (try simp only [Sl.cut]); omega)
    obtain ⟨ab8, ao9, ah10⟩ := ah10
    refine l_op (o_val (r_isN 24 rfl rfl el29 ah10 (by omega) (by (try simp only [Sl.cut]); omega)) ?_)
    refine l_op (o_val (r_ldB (s := s) (k := 24) (hs.up H (fun _ => apart_nil _)) ah10 rfl ct5 (by (try simp only [Sl.cut]); omega)) ?_)
    refine l_op (o_val (r_bin (a := (((s.l).getD 24 0).toNat : Int)) (b := 16) rfl rfl (fun _ => b_gtr)) ?_)
    first | refine l_end ?_ | refine l_nil ?_
    by_cases hc11 : 16 < (((s.l).getD 24 0).toNat : Int)
    ·
     repeat refine c_seq ?_
     refine c_yes (by exact congrArg Value.bool (decide_eq_true hc11)) ?_
     repeat refine c_seq ?_
     refine c_region ?_
     refine l_op (o_val (r_as) ?_)
     first | refine l_end ?_ | refine l_nil ?_
     refine c_ret ?_
     try dsimp only [Exit.then, Exit.inBlock]
     refine e_ret1 (v := .bool false) Try.results128 rfl ?_
     refine ⟨_, rfl, ?_⟩
     have h0 : ¬ (0 < s.len ∧ 127 < (s.l.getD 0 0).toNat) := hall 0 (by omega)
     have h8 : ¬ (8 < s.len ∧ 127 < (s.l.getD 8 0).toNat) := hall 1 (by omega)
     refine ⟨?_, H⟩
     have hbad : badE s.l := by unfold badE; omega
     rw [decide_eq_false (not_not_intro hbad)]
    ·
     repeat refine c_seq ?_
     refine c_no (by exact congrArg Value.bool (decide_eq_false hc11)) ?_
     refine c_skip ?_
     repeat refine c_seq ?_
     refine c_region ?_
     refine l_op (o_val (r_mv) ?_)
     refine l_op (o_val (r_isN 24 rfl rfl el29 ah10 (by omega) (by (try simp only [Sl.cut]); omega)) ?_)
     refine l_op (o_val (r_ldB (s := s) (k := 24) (hs.up H (fun _ => apart_nil _)) ah10 rfl ct5 (by (try simp only [Sl.cut]); omega)) ?_)
     refine l_op (o_val (r_conv Try.underlying5 Try.underlying3 rfl (w_i64_8 _)) ?_)
     refine l_op (o_val (r_bin (a := 26) (b := (aN s.l : Int)) rfl rfl (fun _ => b_add (by omega) (by omega))) ?_)
     refine l_op (o_val (r_as) ?_)
     first | refine l_end ?_ | refine l_nil ?_
     repeat refine c_seq ?_
     refine c_block ?_
     repeat refine c_seq ?_
     refine c_region ?_
     refine l_op (o_val (r_mv) ?_)
     refine l_op (o_val (r_lens el29 rfl) ?_)
     refine l_op (o_val (r_mv) ?_)
     refine l_op (o_val (r_bin (a := 26 + (aN s.l : Int)) (b := 1) rfl rfl (fun _ => b_add (by omega) (by omega))) ?_)
     refine l_op (o_val (r_bin (a := (s.len : Int)) (b := (26 + (aN s.l : Int)) + 1) rfl rfl (fun _ => b_eql)) ?_)
     refine l_op (o_val (r_as) ?_)
     first | refine l_end ?_ | refine l_nil ?_
     by_cases hc12 : (s.len : Int) = (26 + (aN s.l : Int)) + 1
     ·
      repeat refine c_seq ?_
      refine c_yes (by exact congrArg Value.bool (decide_eq_true hc12)) ?_
      repeat refine c_seq ?_
      refine c_region ?_
      refine l_op (o_val (r_mv) ?_)
      refine l_op (o_val (r_mv) ?_)
      refine l_op (o_val (r_isN (26 + aN s.l) rfl rfl el29 ah10 (by omega) (by omega)) ?_)
      refine l_op (o_val (r_ldB (s := s) (k := 26 + aN s.l) (hs.up H (fun _ => apart_nil _)) ah10 rfl ct5 (by (try simp only [Sl.cut]); omega)) ?_)
      refine l_op (o_val (r_bin (a := (((s.l).getD (26 + aN s.l) 0).toNat : Int)) (b := 3) rfl rfl (fun _ => b_leq)) ?_)
      refine l_op (o_val (r_as) ?_)
      first | refine l_end ?_ | refine l_nil ?_
      refine c_ret ?_
      try dsimp only [Exit.then, Exit.inBlock]
      refine e_ret1 (v := .bool (decide ((((s.l).getD (26 + aN s.l) 0).toNat : Int) ≤ 3))) Try.results128 rfl ?_
      refine ⟨_, rfl, ?_⟩
      have h0 : ¬ (0 < s.len ∧ 127 < (s.l.getD 0 0).toNat) := hall 0 (by omega)
      have h8 : ¬ (8 < s.len ∧ 127 < (s.l.getD 8 0).toNat) := hall 1 (by omega)
      refine ⟨?_, H⟩
      congr 1
      rw [decide_eq_decide]
      unfold badE
      omega
     ·
      repeat refine c_seq ?_
      refine c_no (by exact congrArg Value.bool (decide_eq_false hc12)) ?_
      repeat refine c_seq ?_
      refine c_region ?_
      refine l_op (o_val (r_mv) ?_)
      refine l_op (o_val (r_lens el29 rfl) ?_)
      refine l_op (o_val (r_mv) ?_)
      refine l_op (o_val (r_bin (a := 26 + (aN s.l : Int)) (b := 1) rfl rfl (fun _ => b_add (by omega) (by omega))) ?_)
      refine l_op (o_val (r_bin (a := (s.len : Int)) (b := (26 + (aN s.l : Int)) + 1) rfl rfl (fun _ => b_gtr)) ?_)
      refine l_op (o_val (r_as) ?_)
      first | refine l_end ?_ | refine l_nil ?_
      by_cases hc13 : (26 + (aN s.l : Int)) + 1 < (s.len : Int)
      ·
       repeat refine c_seq ?_
       refine c_yes (by exact congrArg Value.bool (decide_eq_true hc13)) ?_
       repeat refine c_seq ?_
       refine c_still mixed (by kernel_rfl) ?_
       replace H := H.drew
       refine s_op (r_mv) ?_
       refine s_op (r_mv) ?_
       refine s_op (r_isN (26 + aN s.l) rfl rfl el29 ah10 (by omega) (by omega)) ?_
       refine s_op (r_ldB (s := s) (k := 26 + aN s.l) (hs.up H (fun _ => apart_nil _)) ah10 rfl ct5 (by (try simp only [Sl.cut]); omega)) ?_
       refine s_op (r_conv Try.underlying5 Try.underlying3 rfl (w_i64_8 _)) ?_
       refine s_op (r_shift (a := (((s.l).getD (26 + aN s.l) 0).toNat : Int)) rfl rfl (.inl rfl) (fun _ => b_shl8 (u8_lt _))) ?_
       refine s_op (r_mv) ?_
       refine s_op (r_mv) ?_
       refine s_op (r_bin (a := 26 + (aN s.l : Int)) (b := 1) rfl rfl (fun _ => b_add (by omega) (by omega))) ?_
       refine s_op (r_isN (27 + aN s.l) rfl rfl el29 ah10 (by omega) (by omega)) ?_
       refine s_op (r_ldB (s := s) (k := 27 + aN s.l) (hs.up H (fun _ => apart_nil _)) ah10 rfl ct5 (by (try simp only [Sl.cut]); omega)) ?_
       refine s_op (r_conv Try.underlying5 Try.underlying3 rfl (w_i64_8 _)) ?_
       refine s_op (r_bin (a := ((((s.l).getD (26 + aN s.l) 0).toNat * 256 : Nat) : Int)) (b := ((((s.l).getD (27 + aN s.l) 0).toNat : Nat) : Int)) rfl rfl (fun _ => b_or_i64 (by omega) (u8_lt _) (by have h1 := u8_lt (s.l.getD (26 + aN s.l) 0); have h2 := u8_lt (s.l.getD (27 + aN s.l) 0); omega))) ?_
       refine s_op (r_bin (a := ((((s.l).getD (26 + aN s.l) 0).toNat * 256 + ((s.l).getD (27 + aN s.l) 0).toNat : Nat) : Int)) (b := 999) rfl rfl (fun _ => b_leq)) ?_
       refine s_op (r_as) ?_
       refine s_nil ?_
       refine c_ret ?_
       try dsimp only [Exit.then, Exit.inBlock]
       refine e_ret1 (v := .bool (decide (((((s.l).getD (26 + aN s.l) 0).toNat * 256 + ((s.l).getD (27 + aN s.l) 0).toNat : Nat) : Int) ≤ 999))) Try.results128 rfl ?_
       refine ⟨_, rfl, ?_⟩
       have h0 : ¬ (0 < s.len ∧ 127 < (s.l.getD 0 0).toNat) := hall 0 (by omega)
       have h8 : ¬ (8 < s.len ∧ 127 < (s.l.getD 8 0).toNat) := hall 1 (by omega)
       refine ⟨?_, H⟩
       congr 1
       rw [decide_eq_decide]
       unfold badE
       omega
      ·
       repeat refine c_seq ?_
       refine c_no (by exact congrArg Value.bool (decide_eq_false hc13)) ?_
       refine c_skip ?_
       repeat refine c_seq ?_
       refine c_region ?_
       refine l_op (o_val (r_as) ?_)
       first | refine l_end ?_ | refine l_nil ?_
       refine c_ret ?_
       try dsimp only [Exit.then, Exit.inBlock]
       refine e_ret1 (v := .bool true) Try.results128 rfl ?_
       refine ⟨_, rfl, ?_⟩
       have h0 : ¬ (0 < s.len ∧ 127 < (s.l.getD 0 0).toNat) := hall 0 (by omega)
       have h8 : ¬ (8 < s.len ∧ 127 < (s.l.getD 8 0).toNat) := hall 1 (by omega)
       refine ⟨?_, H⟩
       have hbad : ¬ badE s.l := by unfold badE; omega
       rw [decide_eq_true hbad]
theorem aTake_ret (w0 : World) (s : Sl) (hs : s.ok w0) (hm : s.len ≤ 1048576) :
    Ret Try.prog 91 [s.v] w0 fun v w' => v = .tuple #[.agg (entE (takeE s.l)).toArray, VI ((takeN s.l : Nat) : Int), VI ((takeC s.l : Nat) : Int)] ∧ Hp w0 w' [] [] := by
  refine ret_mk Try.func91 rfl Try.ntmps91 (by simp) ?_
  have H := Hp.refl w0 []
  have hsl := hs.ln
  have hse := hs.le
  have hNlt : aN s.l < 256 := u8_lt _
  have hAN : aN s.l = (s.l.getD 24 0).toNat := rfl
  repeat refine c_seq ?_
  refine c_region ?_
  refine l_op (o_alloc H zc95 (fun b1 w H hb1 => ?_))
  replace H : Hp _ w _ ([.blk b1 ([VI 0, VI 0, V64 (0 : UInt64), .string ⟨(([] : List UInt8)).toArray⟩, VI 0, VI 0] ++ (List.replicate 32 (0 : UInt8)).map V8) 95]) := H
  refine l_op (o_val (r_as) ?_)
  refine l_op (o_val (r_as) ?_)
  first | refine l_end ?_ | refine l_nil ?_
  repeat refine c_seq ?_
  refine c_region ?_
  refine l_op (o_val (r_mv) ?_)
  refine l_op (o_callR Try.func128 rfl rfl rfl (begins_ret _ s (hs.up H (fun _ => apart_nil _))) ?_)
  rintro _ w ⟨rfl, Hc⟩
  replace H : Hp _ w _ ([_]) := H.call Hc
  clear Hc
  refine l_op (o_val (r_not rfl) ?_)
  first | refine l_end ?_ | refine l_nil ?_
  by_cases hc2 : ¬ badE s.l
  ·
   repeat refine c_seq ?_
   refine c_no (by exact congrArg Value.bool (congrArg not (decide_eq_true hc2))) ?_
   refine c_skip ?_
   repeat refine c_seq ?_
   refine c_region ?_
   refine l_op (o_val (r_mv) ?_)
   refine l_op (o_val (r_lens el29 rfl) ?_)
   refine l_op (o_val (r_bin (a := (s.len : Int)) (b := 24) rfl rfl (fun _ => b_leq)) ?_)
   first | refine l_end ?_ | refine l_nil ?_
   by_cases hc3 : (s.len : Int) ≤ 24
   ·
    repeat refine c_seq ?_
    refine c_yes (by exact congrArg Value.bool (decide_eq_true hc3)) ?_
    repeat refine c_seq ?_
    refine c_region ?_
    refine l_op (o_val (r_bld' (cells := ([VI 0, VI 0, V64 (0 : UInt64), .string ⟨(([] : List UInt8)).toArray⟩, VI 0, VI 0] ++ (List.replicate 32 (0 : UInt8)).map V8).toArray) (pv := []) bd95 rfl rfl) ?_)
    refine l_op (o_stW (C' := [VI 0, VI 0, V64 (0 : UInt64), .string ⟨(([] : List UInt8)).toArray⟩, VI 0, VI 0] ++ (List.replicate 32 (0 : UInt8)).map V8) H (i := 0) rfl rfl rfl cs95 (by simp [Value.oneCell']) (by rw [List.length_append, List.length_map, (show (List.replicate 32 (0 : UInt8)).length = 32 from (List.length_replicate ..))]; rfl) (by rw [List.length_append, List.length_map, (show (List.replicate 32 (0 : UInt8)).length = 32 from (List.length_replicate ..))]; rfl) (fun w H => ?_))
    replace H : Hp _ w _ [_] := H
    refine l_op (o_val (r_as) ?_)
    refine l_op (o_val (r_as) ?_)
    first | refine l_end ?_ | refine l_nil ?_
    refine c_ret ?_
    try dsimp only [Exit.then, Exit.inBlock]
    refine e_retN (vs := [.agg ([VI 0, VI 0, V64 (0 : UInt64), .string ⟨(([] : List UInt8)).toArray⟩, VI 0, VI 0] ++ (List.replicate 32 (0 : UInt8)).map V8).toArray, VI 0, VI 3]) _ Try.results91 rfl (H.resR (C := [VI 0, VI 0, V64 (0 : UInt64), .string ⟨(([] : List UInt8)).toArray⟩, VI 0, VI 0] ++ (List.replicate 32 (0 : UInt8)).map V8) (i := 0) rfl rfl rt95 (by rw [List.length_append, List.length_map, (show (List.replicate 32 (0 : UInt8)).length = 32 from (List.length_replicate ..))]; rfl) (resT (v := VI 0) rfl (resT (v := VI 3) rfl (resZ)))) ?_
    refine ⟨_, rfl, ?_⟩
    have hbad : ¬ badE s.l := hc2
    have hc : takeC s.l = 3 := by unfold takeC; rw [if_neg hbad, if_pos (by omega)]
    refine ⟨?_, H.sub (List.nil_sublist _)⟩
    rw [takeE, takeN, hc]
    rfl
   ·
    repeat refine c_seq ?_
    refine c_no (by exact congrArg Value.bool (decide_eq_false hc3)) ?_
    refine c_skip ?_
    repeat refine c_seq ?_
    refine c_region ?_
    refine l_op (o_val (r_mv) ?_)
    have ah6 := ((hs.up H (fun _ => apart_nil _))).addr (by (try simp only [Sl.cut]); omega)
    obtain ⟨ab4, ao5, ah6⟩ := ah6
    refine l_op (o_val (r_isN 24 rfl rfl el29 ah6 (by omega) (by (try simp only [Sl.cut]); omega)) ?_)
    refine l_op (o_val (r_ldB (s := s) (k := 24) (hs.up H (fun _ => apart_nil _)) ah6 rfl ct5 (by (try simp only [Sl.cut]); omega)) ?_)
    refine l_op (o_val (r_conv Try.underlying5 Try.underlying3 rfl (w_i64_8 _)) ?_)
    refine l_op (o_val (r_bin (a := 25) (b := (aN s.l : Int)) rfl rfl (fun _ => b_add (by omega) (by omega))) ?_)
    refine l_op (o_val (r_as) ?_)
    first | refine l_end ?_ | refine l_nil ?_
    repeat refine c_seq ?_
    refine c_region ?_
    refine l_op (o_val (r_mv) ?_)
    refine l_op (o_val (r_bin (a := 25 + (aN s.l : Int)) (b := 3) rfl rfl (fun _ => b_add (by omega) (by omega))) ?_)
    refine l_op (o_val (r_bin (a := (25 + (aN s.l : Int)) + 3) (b := 32) rfl rfl (fun _ => b_add (by omega) (by omega))) ?_)
    refine l_op (o_val (r_as) ?_)
    first | refine l_end ?_ | refine l_nil ?_
    repeat refine c_seq ?_
    refine c_region ?_
    refine l_op (o_val (r_mv) ?_)
    refine l_op (o_val (r_lens el29 rfl) ?_)
    refine l_op (o_val (r_mv) ?_)
    refine l_op (o_val (r_bin (a := (s.len : Int)) (b := ((25 + (aN s.l : Int)) + 3) + 32) rfl rfl (fun _ => b_lss)) ?_)
    first | refine l_end ?_ | refine l_nil ?_
    by_cases hc7 : (s.len : Int) < ((25 + (aN s.l : Int)) + 3) + 32
    ·
     repeat refine c_seq ?_
     refine c_yes (by exact congrArg Value.bool (decide_eq_true hc7)) ?_
     repeat refine c_seq ?_
     refine c_region ?_
     refine l_op (o_val (r_bld' (cells := ([VI 0, VI 0, V64 (0 : UInt64), .string ⟨(([] : List UInt8)).toArray⟩, VI 0, VI 0] ++ (List.replicate 32 (0 : UInt8)).map V8).toArray) (pv := []) bd95 rfl rfl) ?_)
     refine l_op (o_stW (C' := [VI 0, VI 0, V64 (0 : UInt64), .string ⟨(([] : List UInt8)).toArray⟩, VI 0, VI 0] ++ (List.replicate 32 (0 : UInt8)).map V8) H (i := 0) rfl rfl rfl cs95 (by simp [Value.oneCell']) (by rw [List.length_append, List.length_map, (show (List.replicate 32 (0 : UInt8)).length = 32 from (List.length_replicate ..))]; rfl) (by rw [List.length_append, List.length_map, (show (List.replicate 32 (0 : UInt8)).length = 32 from (List.length_replicate ..))]; rfl) (fun w H => ?_))
     replace H : Hp _ w _ [_] := H
     refine l_op (o_val (r_as) ?_)
     refine l_op (o_val (r_as) ?_)
     first | refine l_end ?_ | refine l_nil ?_
     refine c_ret ?_
     try dsimp only [Exit.then, Exit.inBlock]
     refine e_retN (vs := [.agg ([VI 0, VI 0, V64 (0 : UInt64), .string ⟨(([] : List UInt8)).toArray⟩, VI 0, VI 0] ++ (List.replicate 32 (0 : UInt8)).map V8).toArray, VI 0, VI 3]) _ Try.results91 rfl (H.resR (C := [VI 0, VI 0, V64 (0 : UInt64), .string ⟨(([] : List UInt8)).toArray⟩, VI 0, VI 0] ++ (List.replicate 32 (0 : UInt8)).map V8) (i := 0) rfl rfl rt95 (by rw [List.length_append, List.length_map, (show (List.replicate 32 (0 : UInt8)).length = 32 from (List.length_replicate ..))]; rfl) (resT (v := VI 0) rfl (resT (v := VI 3) rfl (resZ)))) ?_
     refine ⟨_, rfl, ?_⟩
     have hbad : ¬ badE s.l := hc2
     have hc : takeC s.l = 3 := by unfold takeC; rw [if_neg hbad, if_pos (by omega)]
     refine ⟨?_, H.sub (List.nil_sublist _)⟩
     rw [takeE, takeN, hc]
     rfl
    ·
     repeat refine c_seq ?_
     refine c_no (by exact congrArg Value.bool (decide_eq_false hc7)) ?_
     refine c_skip ?_
     repeat refine c_seq ?_
     refine c_region ?_
     refine l_op (o_alloc H zc137 (fun b8 w H hb8 => ?_))
     replace H : Hp _ w _ ([_, .blk b8 ((List.replicate 3 (Value.int .u64 0))) 137]) := H
     first | refine l_end ?_ | refine l_nil ?_
     repeat refine c_seq ?_
     refine c_region ?_
     refine l_op (o_val (r_mv) ?_)
     first | refine l_end ?_ | refine l_nil ?_
     repeat refine c_seq ?_
     refine c_block ?_
     repeat refine c_seq ?_
     refine c_loop (fun (i : Nat) => [(0, s.v), (2, .pointer (some ⟨b1, 0, none⟩)), (5, VI (25 + (aN s.l : Int))), (6, VI (((25 + (aN s.l : Int)) + 3) + 32)), (7, .pointer (some ⟨b8, 0, none⟩)), (31, VI (i : Int))])
       (fun (i : Nat) w => (i ≤ 3) ∧ Hp w0 w [] ([.blk b1 ([VI 0, VI 0, V64 (0 : UInt64), .string ⟨(([] : List UInt8)).toArray⟩, VI 0, VI 0] ++ (List.replicate 32 (0 : UInt8)).map V8) 95, .blk b8 (v3 s.l i) 137]))
       (fun (i : Nat) => 3 - i) 0 ⟨rfl, rfl, rfl, rfl, rfl, rfl, trivial⟩ ⟨by omega, H⟩ ?_
     clear H
     rintro i τ w ⟨hi, H⟩
     repeat refine c_seq ?_
     refine c_region ?_
     refine l_op (o_val (r_bin (a := (i : Int)) (b := 3) rfl rfl (fun _ => b_lss)) ?_)
     first | refine l_end ?_ | refine l_nil ?_
     by_cases hc9 : (i : Int) < 3
     ·
      repeat refine c_seq ?_
      refine c_yes (by exact congrArg Value.bool (decide_eq_true hc9)) ?_
      refine c_skip ?_
      repeat refine c_seq ?_
      refine c_block ?_
      repeat refine c_seq ?_
      refine c_region ?_
      refine l_op (o_val (r_mv) ?_)
      refine l_op (o_val (r_as) ?_)
      first | refine l_end ?_ | refine l_nil ?_
      repeat refine c_seq ?_
      refine c_region ?_
      refine l_op (o_val (r_mv) ?_)
      refine l_op (o_val (r_mv) ?_)
      refine l_op (o_val (r_mv) ?_)
      refine l_op (o_val (r_bin (a := 8) (b := (i : Int)) rfl rfl (fun _ => b_mul (by omega) (by omega))) ?_)
      have hk10 : ((8 * i) + 8 ≤ s.len) := (by omega)
      refine l_op (o_callR Try.func112 rfl rfl rfl (at_ok _ s (hs.up H (fun _ => apart_nil _)) (8 * i) 8 (by omega) (by omega) (by omega) (by (try dsimp only); omega)) ?_)
      rintro _ w ⟨rfl, Hc⟩
      replace H : Hp _ w _ ([_, _]) := H.call Hc
      clear Hc
      refine l_op (o_val (r_mv) ?_)
      refine l_op (o_val (r_ext rfl rfl) ?_)
      refine l_op (o_val (r_ext rfl rfl) ?_)
      refine l_op (o_val (r_iaN (i) rfl rfl ar137 (by omega) (by omega)) ?_)
      refine l_op (o_st (v := V64 (num (s.l) (8 * i) 8)) H (i := 1) rfl rfl rfl cs35 rfl (by simp only [v3, List.length_map, List.length_range]; omega) (fun w H => ?_))
      rw [show 0 + i * 1 = i by omega, v3_set s.l i (by omega)] at H
      replace H : Hp _ w _ ([_, .blk b8 (v3 s.l (i + 1)) 137]) := H
      first | refine l_end ?_ | refine l_nil ?_
      repeat refine c_seq ?_
      refine c_region ?_
      refine l_op (o_val (r_bin (a := (i : Int)) (b := 1) rfl rfl (fun _ => b_add (by omega) (by omega))) ?_)
      refine l_op (o_val (r_mv) ?_)
      first | refine l_end ?_ | refine l_nil ?_
      refine round_end (i + 1) ?_ ?_ ?_
      · exact ⟨rfl, rfl, rfl, rfl, rfl, show VI ((i : Int) + 1) = VI ((i + 1 : Nat) : Int) from congrArg VI (by omega), trivial⟩
      · refine ⟨?_, ?_⟩
        · try dsimp only
          exact by omega
        · exact H
      · show 3 - (i + 1 : Nat) < 3 - i; omega
     ·
      repeat refine c_seq ?_
      refine c_no (by exact congrArg Value.bool (decide_eq_false hc9)) ?_
      refine c_exit ?_
      have hi3 : i = 3 := by omega
      subst hi3
      rw [v3_three] at H
      replace H : Hp _ w _ ([_, .blk b8 ([V64 (num s.l 0 8), V64 (num s.l 8 8), V64 (num s.l 16 8)]) 137]) := H
      have hbd := hc2
      unfold badE at hbd
      have k0 := num_small s.l 0 (by omega) (by omega)
      have k8 := num_small s.l 8 (by omega) (by omega)
      repeat refine c_seq ?_
      refine wp_held (fun w => Hp w0 w [] [.blk b1 ([VI 0, VI 0, V64 (0 : UInt64), .string ⟨(([] : List UInt8)).toArray⟩, VI 0, VI 0] ++ (List.replicate 32 (0 : UInt8)).map V8) 95, .blk b8 ([V64 (num s.l 0 8), V64 (num s.l 8 8), V64 (num s.l 16 8)]) 137]) mixed ?_
      replace H := H.drew
      have HS := H
      refine t_take 0 rfl (by kernel_rfl) (by kernel_rfl) (by kernel_rfl) (fun _ _ _ h => h) (fun w HS => r_iaN (0) rfl rfl ar137 (by omega) (by omega)) HS ?_
      refine t_take 1 rfl (by kernel_rfl) (by kernel_rfl) (by kernel_rfl) (fun _ _ _ h => h) (fun w HS => r_ld (v := V64 (num s.l 0 8)) HS (i := 1) rfl rfl ct35 rfl) HS ?_
      refine t_take 2 rfl (by kernel_rfl) (by kernel_rfl) (by kernel_rfl) (fun _ _ _ h => h) (fun w HS => r_conv Try.underlying35 Try.underlying2 rfl (w_i64_64 (by omega))) HS ?_
      refine t_take 3 rfl (by kernel_rfl) (by kernel_rfl) (by kernel_rfl) (fun _ _ _ h => h) (fun w HS => r_iaN (1) rfl rfl ar137 (by omega) (by omega)) HS ?_
      refine t_take 4 rfl (by kernel_rfl) (by kernel_rfl) (by kernel_rfl) (fun _ _ _ h => h) (fun w HS => r_ld (v := V64 (num s.l 8 8)) HS (i := 1) rfl rfl ct35 rfl) HS ?_
      refine t_take 5 rfl (by kernel_rfl) (by kernel_rfl) (by kernel_rfl) (fun _ _ _ h => h) (fun w HS => r_conv Try.underlying35 Try.underlying2 rfl (w_i64_64 (by omega))) HS ?_
      refine t_take 6 rfl (by kernel_rfl) (by kernel_rfl) (by kernel_rfl) (fun _ _ _ h => h) (fun w HS => r_iaN (2) rfl rfl ar137 (by omega) (by omega)) HS ?_
      refine t_take 7 rfl (by kernel_rfl) (by kernel_rfl) (by kernel_rfl) (fun _ _ _ h => h) (fun w HS => r_ld (v := V64 (num s.l 16 8)) HS (i := 1) rfl rfl ct35 rfl) HS ?_
      refine t_take 8 rfl (by kernel_rfl) (by kernel_rfl) (by kernel_rfl) (fun _ _ _ h => h) (fun w HS => r_mv) HS ?_
      refine t_take 9 rfl (by kernel_rfl) (by kernel_rfl) (by kernel_rfl) (fun _ _ _ h => h) (fun w HS => r_mv) HS ?_
      refine t_take 10 rfl (by kernel_rfl) (by kernel_rfl) (by kernel_rfl) (fun _ _ _ h => h) (fun w HS => r_slS (s := s) 25 (25 + aN s.l) s.cap (lv := some (VI 25)) (hv := some (VI (25 + (aN s.l : Int)))) (mv := none) rfl el29 rfl rfl rfl (fun w => by exact sblh 25 (25 + aN s.l) (by omega) (by omega) (by omega) (by omega) w)) HS ?_
      refine t_take 11 rfl (by kernel_rfl) (by kernel_rfl) (by kernel_rfl) (fun _ _ _ h => h) (fun w HS => r_b2S (s := (Sl.cut s 25 (25 + aN s.l) s.cap)) Try.underlying29 Try.underlying5 Try.underlying9 rfl ((hs.up HS (fun _ => apart_nil _)).cut (l := 25) (h := 25 + aN s.l) (m := s.cap) (by omega) (by omega) (by omega) (by omega))) HS ?_
      refine t_take 12 rfl (by kernel_rfl) (by kernel_rfl) (by kernel_rfl) (fun _ _ _ h => h) (fun w HS => r_bld' (cells := ([VI ((num s.l 0 8).toNat : Int), VI ((num s.l 8 8).toNat : Int), V64 (num s.l 16 8), .string ⟨((s.l.drop 25).take (25 + aN s.l - 25)).toArray⟩, VI 0, VI 0] ++ (List.replicate 32 (0 : UInt8)).map V8).toArray) (pv := [(0, VI ((num s.l 0 8).toNat : Int)), (1, VI ((num s.l 8 8).toNat : Int)), (2, V64 (num s.l 16 8)), (3, .string ⟨((s.l.drop 25).take (25 + aN s.l - 25)).toArray⟩)]) bd95 rfl rfl) HS ?_
      refine t_step 13 rfl (by kernel_rfl) (o_alloc H zc95 (fun b11 w H hb11 => ?_))
      replace H : Hp _ w _ ([_, _, .blk b11 ([VI 0, VI 0, V64 (0 : UInt64), .string ⟨(([] : List UInt8)).toArray⟩, VI 0, VI 0] ++ (List.replicate 32 (0 : UInt8)).map V8) 95]) := H
      refine ⟨H.sub (.cons_cons _ (.cons_cons _ (List.nil_sublist _))), ?_⟩
      replace HS := H.sub (.cons_cons _ (.cons_cons _ (List.nil_sublist _)))
      refine t_step 14 rfl (by kernel_rfl) (o_stW (C' := [VI ((num s.l 0 8).toNat : Int), VI ((num s.l 8 8).toNat : Int), V64 (num s.l 16 8), .string ⟨((s.l.drop 25).take (25 + aN s.l - 25)).toArray⟩, VI 0, VI 0] ++ (List.replicate 32 (0 : UInt8)).map V8) H (i := 2) rfl rfl rfl cs95 (by simp [Value.oneCell']) (by rw [List.length_append, List.length_map, (show (List.replicate 32 (0 : UInt8)).length = 32 from (List.length_replicate ..))]; rfl) (by rw [List.length_append, List.length_map, (show (List.replicate 32 (0 : UInt8)).length = 32 from (List.length_replicate ..))]; rfl) (fun w H => ?_))
      replace H : Hp _ w _ ([_, _, .blk b11 ([VI ((num s.l 0 8).toNat : Int), VI ((num s.l 8 8).toNat : Int), V64 (num s.l 16 8), .string ⟨((s.l.drop 25).take (25 + aN s.l - 25)).toArray⟩, VI 0, VI 0] ++ (List.replicate 32 (0 : UInt8)).map V8) 95]) := H
      refine ⟨H.sub (.cons_cons _ (.cons_cons _ (List.nil_sublist _))), ?_⟩
      replace HS := H.sub (.cons_cons _ (.cons_cons _ (List.nil_sublist _)))
      refine t_done (by kernel_rfl) ?_
      clear HS
      repeat refine c_seq ?_
      refine wp_held (fun w => Hp w0 w [] [.blk b1 ([VI 0, VI 0, V64 (0 : UInt64), .string ⟨(([] : List UInt8)).toArray⟩, VI 0, VI 0] ++ (List.replicate 32 (0 : UInt8)).map V8) 95, .blk b8 ([V64 (num s.l 0 8), V64 (num s.l 8 8), V64 (num s.l 16 8)]) 137]) mixed ?_
      replace H := H.drew
      have HS := H.sub (.cons_cons _ (.cons_cons _ (List.nil_sublist _)))
      refine t_take 0 rfl (by kernel_rfl) (by kernel_rfl) (by kernel_rfl) (fun _ _ _ h => h) (fun w HS => r_mv) HS ?_
      refine t_take 1 rfl (by kernel_rfl) (by kernel_rfl) (by kernel_rfl) (fun _ _ _ h => h) (fun w HS => r_mv) HS ?_
      refine t_take 2 rfl (by kernel_rfl) (by kernel_rfl) (by kernel_rfl) (fun _ _ _ h => h) (fun w HS => r_isN (25 + aN s.l) rfl rfl el29 ah6 (by omega) (by omega)) HS ?_
      refine t_take 3 rfl (by kernel_rfl) (by kernel_rfl) (by kernel_rfl) (fun _ _ _ h => h) (fun w HS => r_ldB (s := s) (k := 25 + aN s.l) (hs.up HS (fun _ => apart_nil _)) ah6 rfl ct5 (by (try simp only [Sl.cut]); omega)) HS ?_
      refine t_take 4 rfl (by kernel_rfl) (by kernel_rfl) (by kernel_rfl) (fun _ _ _ h => h) (fun w HS => r_conv Try.underlying5 Try.underlying3 rfl (w_i64_8 _)) HS ?_
      refine t_take 5 rfl (by kernel_rfl) (by kernel_rfl) (by kernel_rfl) (fun _ _ _ h => h) (fun w HS => r_mv) HS ?_
      refine t_take 6 rfl (by kernel_rfl) (by kernel_rfl) (by kernel_rfl) (fun _ _ _ h => h) (fun w HS => r_mv) HS ?_
      refine t_take 7 rfl (by kernel_rfl) (by kernel_rfl) (by kernel_rfl) (fun _ _ _ h => h) (fun w HS => r_bin (a := 25 + (aN s.l : Int)) (b := 1) rfl rfl (fun _ => b_add (by omega) (by omega))) HS ?_
      refine t_take 8 rfl (by kernel_rfl) (by kernel_rfl) (by kernel_rfl) (fun _ _ _ h => h) (fun w HS => r_isN (26 + aN s.l) rfl rfl el29 ah6 (by omega) (by omega)) HS ?_
      refine t_take 9 rfl (by kernel_rfl) (by kernel_rfl) (by kernel_rfl) (fun _ _ _ h => h) (fun w HS => r_ldB (s := s) (k := 26 + aN s.l) (hs.up HS (fun _ => apart_nil _)) ah6 rfl ct5 (by (try simp only [Sl.cut]); omega)) HS ?_
      refine t_take 10 rfl (by kernel_rfl) (by kernel_rfl) (by kernel_rfl) (fun _ _ _ h => h) (fun w HS => r_conv Try.underlying5 Try.underlying3 rfl (w_i64_8 _)) HS ?_
      refine t_take 11 rfl (by kernel_rfl) (by kernel_rfl) (by kernel_rfl) (fun _ _ _ h => h) (fun w HS => r_shift (a := (((s.l).getD (26 + aN s.l) 0).toNat : Int)) rfl rfl (.inl rfl) (fun _ => b_shl8 (u8_lt _))) HS ?_
      refine t_take 12 rfl (by kernel_rfl) (by kernel_rfl) (by kernel_rfl) (fun _ _ _ h => h) (fun w HS => r_mv) HS ?_
      refine t_take 13 rfl (by kernel_rfl) (by kernel_rfl) (by kernel_rfl) (fun _ _ _ h => h) (fun w HS => r_mv) HS ?_
      refine t_take 14 rfl (by kernel_rfl) (by kernel_rfl) (by kernel_rfl) (fun _ _ _ h => h) (fun w HS => r_bin (a := 25 + (aN s.l : Int)) (b := 2) rfl rfl (fun _ => b_add (by omega) (by omega))) HS ?_
      refine t_take 15 rfl (by kernel_rfl) (by kernel_rfl) (by kernel_rfl) (fun _ _ _ h => h) (fun w HS => r_isN (27 + aN s.l) rfl rfl el29 ah6 (by omega) (by omega)) HS ?_
      refine t_take 16 rfl (by kernel_rfl) (by kernel_rfl) (by kernel_rfl) (fun _ _ _ h => h) (fun w HS => r_ldB (s := s) (k := 27 + aN s.l) (hs.up HS (fun _ => apart_nil _)) ah6 rfl ct5 (by (try simp only [Sl.cut]); omega)) HS ?_
      refine t_take 17 rfl (by kernel_rfl) (by kernel_rfl) (by kernel_rfl) (fun _ _ _ h => h) (fun w HS => r_conv Try.underlying5 Try.underlying3 rfl (w_i64_8 _)) HS ?_
      refine t_take 18 rfl (by kernel_rfl) (by kernel_rfl) (by kernel_rfl) (fun _ _ _ h => h) (fun w HS => r_bin (a := ((((s.l).getD (26 + aN s.l) 0).toNat * 256 : Nat) : Int)) (b := ((((s.l).getD (27 + aN s.l) 0).toNat : Nat) : Int)) rfl rfl (fun _ => b_or_i64 (by omega) (u8_lt _) (by have h1 := u8_lt (s.l.getD (26 + aN s.l) 0); have h2 := u8_lt (s.l.getD (27 + aN s.l) 0); omega))) HS ?_
      refine t_take 19 rfl (by kernel_rfl) (by kernel_rfl) (by kernel_rfl) (fun _ _ _ h => h) (fun w HS => r_fa rfl fo95_4) HS ?_
      refine t_step 20 rfl (by kernel_rfl) (o_st (v := VI (((s.l).getD (25 + aN s.l) 0).toNat : Int)) H (i := 2) rfl rfl rfl cs3 rfl (by simp only [List.length_append, List.length_cons, List.length_nil]; omega) (fun w H => ?_))
      replace H : Hp _ w _ ([_, _, .blk b11 ([VI ((num s.l 0 8).toNat : Int), VI ((num s.l 8 8).toNat : Int), V64 (num s.l 16 8), .string ⟨((s.l.drop 25).take (25 + aN s.l - 25)).toArray⟩, VI (((s.l).getD (25 + aN s.l) 0).toNat : Int), VI 0] ++ (List.replicate 32 (0 : UInt8)).map V8) 95]) := H
      refine ⟨H.sub (.cons_cons _ (.cons_cons _ (List.nil_sublist _))), ?_⟩
      replace HS := H.sub (.cons_cons _ (.cons_cons _ (List.nil_sublist _)))
      refine t_take 21 rfl (by kernel_rfl) (by kernel_rfl) (by kernel_rfl) (fun _ _ _ h => h) (fun w HS => r_fa rfl fo95_5) HS ?_
      refine t_step 22 rfl (by kernel_rfl) (o_st (v := VI ((((s.l).getD (26 + aN s.l) 0).toNat * 256 + ((s.l).getD (27 + aN s.l) 0).toNat : Nat) : Int)) H (i := 2) rfl rfl rfl cs3 rfl (by simp only [List.length_append, List.length_cons, List.length_nil]; omega) (fun w H => ?_))
      replace H : Hp _ w _ ([_, _, .blk b11 ([VI ((num s.l 0 8).toNat : Int), VI ((num s.l 8 8).toNat : Int), V64 (num s.l 16 8), .string ⟨((s.l.drop 25).take (25 + aN s.l - 25)).toArray⟩, VI (((s.l).getD (25 + aN s.l) 0).toNat : Int), VI ((((s.l).getD (26 + aN s.l) 0).toNat * 256 + ((s.l).getD (27 + aN s.l) 0).toNat : Nat) : Int)] ++ (List.replicate 32 (0 : UInt8)).map V8) 95]) := H
      refine ⟨H.sub (.cons_cons _ (.cons_cons _ (List.nil_sublist _))), ?_⟩
      replace HS := H.sub (.cons_cons _ (.cons_cons _ (List.nil_sublist _)))
      refine t_done (by kernel_rfl) ?_
      clear HS
      repeat refine c_seq ?_
      refine c_region ?_
      refine l_op (o_val (r_mv) ?_)
      refine l_op (o_val (r_mv) ?_)
      refine l_op (o_val (r_bin (a := 25 + (aN s.l : Int)) (b := 3) rfl rfl (fun _ => b_add (by omega) (by omega))) ?_)
      refine l_op (o_val (r_mv) ?_)
      refine l_op (o_val (r_slS (s := s) (28 + aN s.l) (60 + aN s.l) s.cap (lv := some (VI ((25 + (aN s.l : Int)) + 3))) (hv := some (VI (((25 + (aN s.l : Int)) + 3) + 32))) (mv := none) rfl el29 rfl rfl rfl (fun w => by exact sblh (28 + aN s.l) (60 + aN s.l) (by omega) (by omega) (by omega) (by omega) w)) ?_)
      refine l_op (o_val (r_sap Try.underlying31 rfl (by (try simp only [Sl.cut]); omega)) ?_)
      have ah14 := (((hs.up H (fun _ => apart_nil _)).cut (l := 28 + aN s.l) (h := 60 + aN s.l) (m := s.cap) (by omega) (by omega) (by omega) (by omega))).addr (by (try simp only [Sl.cut]); omega)
      obtain ⟨ab12, ao13, ah14⟩ := ah14
      refine l_op (o_val (r_ldSE (s := Sl.cut s (28 + aN s.l) (60 + aN s.l) s.cap) (k := 32) ((hs.up H (fun _ => apart_nil _)).cut (l := 28 + aN s.l) (h := 60 + aN s.l) (m := s.cap) (by omega) (by omega) (by omega) (by omega)) ah14 rfl rt31 (by decide) (by show 60 + aN s.l - (28 + aN s.l) = 32; omega)) ?_)
      refine l_op (o_val (r_fa rfl fo95_6) ?_)
      refine l_op (o_stT (pre := [VI ((num s.l 0 8).toNat : Int), VI ((num s.l 8 8).toNat : Int), V64 (num s.l 16 8), .string ⟨((s.l.drop 25).take (25 + aN s.l - 25)).toArray⟩, VI (((s.l).getD (25 + aN s.l) 0).toNat : Int), VI ((((s.l).getD (26 + aN s.l) 0).toNat * 256 + ((s.l).getD (27 + aN s.l) 0).toNat : Nat) : Int)]) (l := List.replicate 32 (0 : UInt8)) (l' := (s.l.drop (28 + aN s.l)).take (60 + aN s.l - (28 + aN s.l))) H (i := 2) rfl rfl rfl cs31 rfl (show (List.replicate 32 (0 : UInt8)).length = 32 from (List.length_replicate ..)) (show ((s.l.drop (28 + aN s.l)).take (60 + aN s.l - (28 + aN s.l))).length = 32 from (by rw [List.length_take, List.length_drop]; omega)) (fun w H => ?_))
      replace H : Hp _ w _ ([_, _, .blk b11 ([VI ((num s.l 0 8).toNat : Int), VI ((num s.l 8 8).toNat : Int), V64 (num s.l 16 8), .string ⟨((s.l.drop 25).take (25 + aN s.l - 25)).toArray⟩, VI (((s.l).getD (25 + aN s.l) 0).toNat : Int), VI ((((s.l).getD (26 + aN s.l) 0).toNat * 256 + ((s.l).getD (27 + aN s.l) 0).toNat : Nat) : Int)] ++ ((s.l.drop (28 + aN s.l)).take (60 + aN s.l - (28 + aN s.l))).map V8) 95]) := H
      first | refine l_end ?_ | refine l_nil ?_
      repeat refine c_seq ?_
      refine c_region ?_
      refine l_op (o_val (r_ldA (C := [VI ((num s.l 0 8).toNat : Int), VI ((num s.l 8 8).toNat : Int), V64 (num s.l 16 8), .string ⟨((s.l.drop 25).take (25 + aN s.l - 25)).toArray⟩, VI (((s.l).getD (25 + aN s.l) 0).toNat : Int), VI ((((s.l).getD (26 + aN s.l) 0).toNat * 256 + ((s.l).getD (27 + aN s.l) 0).toNat : Nat) : Int)] ++ ((s.l.drop (28 + aN s.l)).take (60 + aN s.l - (28 + aN s.l))).map V8) H (i := 2) rfl rfl rt95 (by rw [List.length_append, List.length_map, (show ((s.l.drop (28 + aN s.l)).take (60 + aN s.l - (28 + aN s.l))).length = 32 from (by rw [List.length_take, List.length_drop]; omega))]; rfl)) ?_)
      refine l_op (o_val (r_mv) ?_)
      refine l_op (o_stW (C' := [VI ((num s.l 0 8).toNat : Int), VI ((num s.l 8 8).toNat : Int), V64 (num s.l 16 8), .string ⟨((s.l.drop 25).take (25 + aN s.l - 25)).toArray⟩, VI (((s.l).getD (25 + aN s.l) 0).toNat : Int), VI ((((s.l).getD (26 + aN s.l) 0).toNat * 256 + ((s.l).getD (27 + aN s.l) 0).toNat : Nat) : Int)] ++ ((s.l.drop (28 + aN s.l)).take (60 + aN s.l - (28 + aN s.l))).map V8) H (i := 0) rfl rfl rfl cs95 (all_tail (by simp [Value.oneCell'])) (by rw [List.length_append, List.length_map, (show (List.replicate 32 (0 : UInt8)).length = 32 from (List.length_replicate ..))]; rfl) (by rw [List.length_append, List.length_map, (show ((s.l.drop (28 + aN s.l)).take (60 + aN s.l - (28 + aN s.l))).length = 32 from (by rw [List.length_take, List.length_drop]; omega))]; rfl) (fun w H => ?_))
      replace H : Hp _ w _ ([.blk b1 ([VI ((num s.l 0 8).toNat : Int), VI ((num s.l 8 8).toNat : Int), V64 (num s.l 16 8), .string ⟨((s.l.drop 25).take (25 + aN s.l - 25)).toArray⟩, VI (((s.l).getD (25 + aN s.l) 0).toNat : Int), VI ((((s.l).getD (26 + aN s.l) 0).toNat * 256 + ((s.l).getD (27 + aN s.l) 0).toNat : Nat) : Int)] ++ ((s.l.drop (28 + aN s.l)).take (60 + aN s.l - (28 + aN s.l))).map V8) 95, _, _]) := H
      refine l_op (o_val (r_as) ?_)
      refine l_op (o_val (r_as) ?_)
      first | refine l_end ?_ | refine l_nil ?_
      refine c_ret ?_
      try dsimp only [Exit.then, Exit.inBlock]
      refine e_retN (vs := [.agg ([VI ((num s.l 0 8).toNat : Int), VI ((num s.l 8 8).toNat : Int), V64 (num s.l 16 8), .string ⟨((s.l.drop 25).take (25 + aN s.l - 25)).toArray⟩, VI (((s.l).getD (25 + aN s.l) 0).toNat : Int), VI ((((s.l).getD (26 + aN s.l) 0).toNat * 256 + ((s.l).getD (27 + aN s.l) 0).toNat : Nat) : Int)] ++ ((s.l.drop (28 + aN s.l)).take (60 + aN s.l - (28 + aN s.l))).map V8).toArray, VI (((25 + (aN s.l : Int)) + 3) + 32), VI 0]) _ Try.results91 rfl (H.resR (C := [VI ((num s.l 0 8).toNat : Int), VI ((num s.l 8 8).toNat : Int), V64 (num s.l 16 8), .string ⟨((s.l.drop 25).take (25 + aN s.l - 25)).toArray⟩, VI (((s.l).getD (25 + aN s.l) 0).toNat : Int), VI ((((s.l).getD (26 + aN s.l) 0).toNat * 256 + ((s.l).getD (27 + aN s.l) 0).toNat : Nat) : Int)] ++ ((s.l.drop (28 + aN s.l)).take (60 + aN s.l - (28 + aN s.l))).map V8) (i := 0) rfl rfl rt95 (by rw [List.length_append, List.length_map, (show ((s.l.drop (28 + aN s.l)).take (60 + aN s.l - (28 + aN s.l))).length = 32 from (by rw [List.length_take, List.length_drop]; omega))]; rfl) (resT (v := VI (((25 + (aN s.l : Int)) + 3) + 32)) rfl (resT (v := VI 0) rfl (resZ)))) ?_
      refine ⟨_, rfl, ?_⟩
      have hbad : ¬ badE s.l := hc2
      have hc : takeC s.l = 0 := (takeC_ok _).2 ⟨hbad, by omega, by omega⟩
      refine ⟨?_, H.sub (List.nil_sublist _)⟩
      rw [takeE, takeN, hc, if_pos rfl, if_pos rfl]
      have e1 : (⟨((num s.l 0 8).toNat : Int), ((num s.l 8 8).toNat : Int), num s.l 16 8, (s.l.drop 25).take (25 + aN s.l - 25), (((s.l).getD (25 + aN s.l) 0).toNat : Int), ((((s.l).getD (26 + aN s.l) 0).toNat * 256 + ((s.l).getD (27 + aN s.l) 0).toNat : Nat) : Int), (s.l.drop (28 + aN s.l)).take (60 + aN s.l - (28 + aN s.l))⟩ : Ent) = entAt s.l := by
        rw [entAt]
        first | rfl | (congr 1 <;> first | rfl | omega | (congr 1; omega) | (congr 1 <;> congr 1 <;> omega))
      have e2 : (((25 + (aN s.l : Int)) + 3) + 32 : Int) = ((60 + aN s.l : Nat) : Int) := by omega
      rw [← e1, e2]
      rfl
  ·
   repeat refine c_seq ?_
   refine c_yes (by exact congrArg Value.bool (congrArg not (decide_eq_false hc2))) ?_
   repeat refine c_seq ?_
   refine c_region ?_
   refine l_op (o_val (r_bld' (cells := ([VI 0, VI 0, V64 (0 : UInt64), .string ⟨(([] : List UInt8)).toArray⟩, VI 0, VI 0] ++ (List.replicate 32 (0 : UInt8)).map V8).toArray) (pv := []) bd95 rfl rfl) ?_)
   refine l_op (o_stW (C' := [VI 0, VI 0, V64 (0 : UInt64), .string ⟨(([] : List UInt8)).toArray⟩, VI 0, VI 0] ++ (List.replicate 32 (0 : UInt8)).map V8) H (i := 0) rfl rfl rfl cs95 (by simp [Value.oneCell']) (by rw [List.length_append, List.length_map, (show (List.replicate 32 (0 : UInt8)).length = 32 from (List.length_replicate ..))]; rfl) (by rw [List.length_append, List.length_map, (show (List.replicate 32 (0 : UInt8)).length = 32 from (List.length_replicate ..))]; rfl) (fun w H => ?_))
   replace H : Hp _ w _ [_] := H
   refine l_op (o_val (r_as) ?_)
   refine l_op (o_val (r_as) ?_)
   first | refine l_end ?_ | refine l_nil ?_
   refine c_ret ?_
   try dsimp only [Exit.then, Exit.inBlock]
   refine e_retN (vs := [.agg ([VI 0, VI 0, V64 (0 : UInt64), .string ⟨(([] : List UInt8)).toArray⟩, VI 0, VI 0] ++ (List.replicate 32 (0 : UInt8)).map V8).toArray, VI 0, VI 4]) _ Try.results91 rfl (H.resR (C := [VI 0, VI 0, V64 (0 : UInt64), .string ⟨(([] : List UInt8)).toArray⟩, VI 0, VI 0] ++ (List.replicate 32 (0 : UInt8)).map V8) (i := 0) rfl rfl rt95 (by rw [List.length_append, List.length_map, (show (List.replicate 32 (0 : UInt8)).length = 32 from (List.length_replicate ..))]; rfl) (resT (v := VI 0) rfl (resT (v := VI 4) rfl (resZ)))) ?_
   refine ⟨_, rfl, ?_⟩
   have hbad : badE s.l := Classical.not_not.1 hc2
   have hc : takeC s.l = 4 := by unfold takeC; rw [if_pos hbad]
   refine ⟨?_, H.sub (List.nil_sublist _)⟩
   rw [takeE, takeN, hc]
   rfl
end Go.Proofs.Ytjmbbhnpfmblpaa
