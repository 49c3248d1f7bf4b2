/- Lemmas for the statement ModelNames, part 2: rules of operations, walks through functions, plain laws. -/
import Derived.Test.YtiepekfcegdkoaaGreatDoorModelNamesG1
import Derived.Deep.Slices
import Derived.Laws.StructEq
import Derived.OpenShut
import Derived.ProofKit
import Derived.Test.YtiepekfcegdkoaaGreatDoorRows
namespace Go.Proofs.YtiepekfcegdkoaaGreatDoor
open Go
set_option maxRecDepth 100000
/-- a block that is as it was need not stand among those that turned. -/
theorem Hp.unS {w0 w : World} {S : List Nat} {L : List Ch} {b : Nat} {C : List Value} {T : TypeId} (H : Hp w0 w (b :: S) (.blk b C T :: L)) (h0 : w0.heap[b]? = some (.cells C.toArray T (0, 0))) : Hp w0 w S L := by
  have hnd := List.pairwise_cons.1 H.nd
  refine ⟨H.os, H.tape, H.output, H.size, fun b' hb' hn => ?_, fun c hc => H.has c (by simp [hc]), fun c hc b' hk => ?_, hnd.2⟩
  · by_cases h : b' = b
    · subst h; rw [h0]; exact H.has (.blk b' C T) (by simp)
    · exact H.frame b' hb' (fun hm => by rcases List.mem_cons.1 hm with h1 | h1; exact h h1; exact hn h1)
  · rcases H.fresh c (by simp [hc]) b' hk with h1 | h1
    · simp only [List.mem_cons] at h1
      rcases h1 with rfl | h1
      · exact absurd hk (hnd.1 c hc _ rfl)
      · exact .inl h1
    · exact .inr h1
theorem hashH_all (s : HS) (hwt : s.wt.length = 64) : ((hashH s).drop 0).take 74 = hashH s := by
  rw [List.drop_zero, List.take_of_length_le (by rw [hashH, hashC_length _ _ _ hwt]; decide)]
theorem hashH_1 (s : HS) : (hashH s).toArray.all (·.oneCell') = true := by
  rw [List.all_toArray, List.all_eq_true]; exact hashC_one _ _ _
theorem hashH_len (s : HS) (hwt : s.wt.length = 64) : (hashH s).length = 74 := hashC_length _ _ _ hwt
end Go.Proofs.YtiepekfcegdkoaaGreatDoor
namespace Go.Proofs.YtiepekfcegdkoaaGreatDoor
open Go
theorem step1_m (s : HS) (b : UInt8) : (step1 s b).m = s.m + 1 := by unfold step1; split <;> rfl
theorem absorb_m (l : List UInt8) : ∀ s : HS, (absorb s l).m = s.m + UInt64.ofNat l.length := by
  induction l with
  | nil => intro s; simp [absorb]
  | cons b l ih => intro s; rw [absorb, ih, step1_m, add_one]; rfl
/-- how many zeros there are behind the byte 128. -/
def zerosOf (m : UInt64) : Nat := (119 - m.toNat % 64) % 64
def lenBytes (m : UInt64) : List UInt8 := (List.range 8).map fun i => ((m <<< 3) >>> UInt64.ofNat (56 - 8 * i)).toUInt8
theorem lenBytes_length (m : UInt64) : (lenBytes m).length = 8 := by simp [lenBytes]
theorem lenBytes_succ (m : UInt64) (i : Nat) (h : i < 8) : (lenBytes m).take (i + 1) = (lenBytes m).take i ++ [((m <<< 3) >>> UInt64.ofNat (56 - 8 * i)).toUInt8] := by
  rw [List.take_succ_eq_append_getElem (by rw [lenBytes_length]; exact h)]
  simp [lenBytes]
def tailOf (m : UInt64) : List UInt8 := 128 :: (List.replicate (zerosOf m) 0 ++ lenBytes m)
def closed (s : HS) : HS := absorb s (tailOf s.m)
def wordBytes (l : List UInt32) : List UInt8 := (List.range 32).map fun j => ((l.getD (j / 4) 0) >>> UInt32.ofNat (24 - 8 * (j % 4))).toUInt8
def digest (s : HS) : List UInt8 := wordBytes (closed s).st.l
theorem wordBytes_length (l : List UInt32) : (wordBytes l).length = 32 := by simp [wordBytes]
theorem digest_length (s : HS) : (digest s).length = 32 := wordBytes_length _
/-- the first j of n bytes, zeros behind. -/
def pad8 (l : List UInt8) (j n : Nat) : List Value := (l.take j).map V8 ++ List.replicate (n - j) (V8 0)
theorem pad8_zero (l : List UInt8) (n : Nat) : pad8 l 0 n = List.replicate n (V8 0) := by simp [pad8]
theorem pad8_all (l : List UInt8) (n : Nat) (h : l.length = n) : pad8 l n n = l.map V8 := by simp [pad8, List.take_of_length_le (Nat.le_of_eq h)]
theorem pad8_length (l : List UInt8) (j n : Nat) (h : l.length = n) (hj : j ≤ n) : (pad8 l j n).length = n := by simp [pad8]; omega
theorem pad8_set (l : List UInt8) (j n : Nat) (h : l.length = n) (hj : j < n) (v : UInt8) (hv : l[j]? = some v) : (pad8 l j n).set j (V8 v) = pad8 l (j + 1) n := by
  have h1 : ((l.take j).map V8).length = j := by simp; omega
  have h2 : l.take (j + 1) = l.take j ++ [v] := by
    rw [List.take_add_one, hv]; rfl
  unfold pad8
  rw [List.set_append_right _ _ (by omega), h1, h2, Nat.sub_self]
  have : n - j = (n - (j + 1)) + 1 := by omega
  rw [this, List.replicate_succ]
  simp
theorem wordBytes_get (l : List UInt32) (i k : Nat) (hi : i < 8) (hk : k < 4) : (wordBytes l)[4 * i + k]? = some ((l.getD i 0) >>> UInt32.ofNat (24 - 8 * k)).toUInt8 := by
  have e1 : (4 * i + k) / 4 = i := by omega
  have e2 : (4 * i + k) % 4 = k := by omega
  simp [wordBytes, List.getElem?_map, List.getElem?_range (show 4 * i + k < 32 by omega), e1, e2]
end Go.Proofs.YtiepekfcegdkoaaGreatDoor
namespace Go.Proofs.YtiepekfcegdkoaaGreatDoor
open Go
set_option maxRecDepth 100000
theorem w_u64_p {a : Int} (h0 : 0 ≤ a) (h1 : a < 18446744073709551616) : IntKind.u64.wrap a = a := by rw [wrap_u64]; omega
/-- a byte of one's own written into a hash of one's own. -/
theorem write1 {w0 w : World} {S : List Nat} {L : List Ch} {b hb i : Nat} {s : HS} {x : UInt8} {T : TypeId} (H : Hp w0 w S (L ++ [.blk b [V8 x] T])) (hi : L[i]? = some (.blk hb (hashH s) 211)) (hwt : s.wt.length = 64) :
    Ret Tryz.prog 110 [.pointer (some ⟨hb, 0, none⟩), .slice (some ⟨b, 0, none⟩) 1 1] w fun v w' => v = .tuple #[] ∧ Hp w0 w' S (L.set i (.blk hb (hashH (absorb s [x])) 211)) := by
  have hlt : i < L.length := (List.getElem?_eq_some_iff.1 hi).1
  have hi' : (L ++ [Ch.blk b [V8 x] T])[i]? = some (.blk hb (hashH s) 211) := by rw [List.getElem?_append_left hlt]; exact hi
  have hb' : (Ch.blk b [V8 x] T).ok w := H.has _ (by simp)
  have hne : b ≠ hb := by
    intro e
    have := pw_ne H.nd (i := i) (j := L.length) (e := .blk b [V8 x] T) hi' (by simp) (by omega) (b := hb) rfl
    exact this (by rw [e]; rfl)
  refine (write_ret w hb s (some ⟨b, 0, none⟩) 1 1 [x] hwt (H.has _ (List.mem_of_getElem? hi')) (Ch.rd_all hb') rfl (Nat.le_refl _) (fun _ y hy => ?_) (by decide)).mono fun v w' ⟨hv, Hc⟩ => ⟨hv, ?_⟩
  · cases hy; simpa using hne
  · have := H.callAt hi' rfl rfl Hc
    rw [List.append_nil, List.set_append_left _ _ hlt] at this
    exact this.sub (List.sublist_append_left _ _)
theorem fill1 (z v : Value) (hv : v.oneCell' = true) : Instr.fill (fun i => some (i * 1, 1)) ((Array.range (1 * 1)).map (([z].toArray)[· % ([z].toArray).size]!)) [(0, v)] = some #[v] := by
  have : v.cells = #[v] := by cases v <;> simp_all [Value.cells, Value.oneCell']
  have e : Array.range (1 * 1) = #[0] := by decide
  rw [e]
  simp [Instr.fill, this, Array.zipIdx]
set_option maxHeartbeats 4000000 in
theorem sum_ret (w0 : World) (hb0 : Nat) (s : HS) (hwt : s.wt.length = 64) (hH : w0.heap[hb0]? = some (.cells (hashH s).toArray 211 (0, 0))) :
    Ret Tryz.prog 111 [.pointer (some ⟨hb0, 0, none⟩)] w0 fun v w' => v = .agg ((digest s).map V8).toArray ∧ Hp w0 w' [] [] := by
  refine ret_mk Tryz.func111 rfl Tryz.ntmps111 (by simp) ?_
  have H := Hp.start w0 (.blk hb0 (hashH s) 211) hb0 hH rfl
  repeat refine c_seq ?_
  refine c_region ?_; refine l_op (o_alloc H zc23 (fun b2 w H hb2 => ?_)); first | refine l_end ?_ | refine l_nil ?_
  repeat refine c_seq ?_
  refine c_region ?_; refine l_op (o_alloc H zc23 (fun b3 w H hb3 => ?_)); first | refine l_end ?_ | refine l_nil ?_
  repeat refine c_seq ?_
  refine c_region ?_; refine l_op (o_mv ?_); refine l_op (o_callR Tryz.func142 rfl rfl rfl (none_at _ hb0 true _ _ (H.blk (i := 0) rfl) rfl) ?_); rintro _ w' ⟨rfl, hw⟩
  rw [hw]; clear hw w'
  first | refine l_end ?_ | refine l_nil ?_
  repeat refine c_seq ?_
  refine c_no rfl ?_; refine c_skip ?_; repeat refine c_seq ?_
  refine c_region ?_; refine l_op (o_mv ?_); refine l_op (o_nilc rfl ?_); refine l_op (o_ldr H (i := 0) rfl rfl rt211 (by rw [hashH_len s hwt]; decide) ?_)
  rw [hashH_all s hwt]
  refine l_op (o_alloc H zc211 (fun b4 w H hb4 => ?_)); refine l_op (o_stw H (i := 3) rfl rfl rfl (by rw [cs211]; simp [hashH_len s hwt]) (hashH_1 s) (by simp [hashH_len s hwt]) (fun w H => ?_)); first | refine l_end ?_ | refine l_nil ?_
  repeat refine c_seq ?_
  refine c_region ?_; refine l_op (o_mv ?_); refine l_op (o_nilc rfl ?_); refine l_op (o_fa rfl fo211_3 ?_); refine l_op (o_ld H (i := 0) rfl rfl ct33 (hashC_num _ _ _ hwt) ?_); refine l_op (o_shift rfl rfl (.inl rfl) (fun _ => b_shl_u64 (by decide) (by decide)) ?_); refine l_op (o_as ?_); first | refine l_end ?_ | refine l_nil ?_
  repeat refine c_seq ?_
  refine c_region ?_; refine l_op (o_bsl H sl24 zc5 (by decide) rfl (by decide) (fill1 _ (V8 128) rfl) (fun b w H hb => ?_)); refine l_op (o_callR Tryz.func110 rfl rfl rfl (write1 (x := 128) H (i := 3) rfl hwt) ?_); rintro _ w ⟨rfl, Hc⟩
  clear H
  have H := Hc; clear Hc
  first | refine l_end ?_ | refine l_nil ?_
  have e1 : s.m.toNat < 18446744073709551616 := u64_lt s.m
  repeat refine c_seq ?_
  refine c_block ?_; refine c_loop (ι := Nat) (fun _ => [(5, V64 (s.m <<< 3)), (4, .pointer (some ⟨b4, 0, none⟩)), (3, .pointer (some ⟨b3, 0, none⟩)), (2, .pointer (some ⟨b2, 0, none⟩))])
    (fun j w => j ≤ zerosOf s.m ∧ Hp w0 w [hb0] [.blk hb0 (hashH s) 211, .blk b2 (List.replicate 32 (V8 0)) 23, .blk b3 (List.replicate 32 (V8 0)) 23, .blk b4 (hashH (absorb s (128 :: List.replicate j 0))) 211])
    (fun j => zerosOf s.m - j) 0 ⟨rfl, rfl, rfl, rfl, trivial⟩ ⟨Nat.zero_le _, H⟩ ?_
  clear H
  rintro j τ w ⟨hj, H⟩
  have hcw : (absorb s (128 :: List.replicate j 0)).wt.length = 64 := by rw [absorb_wt, hwt]
  have hcm : (absorb s (128 :: List.replicate j 0)).m.toNat % 64 = (s.m.toNat + 1 + j) % 64 := by
    rw [absorb_m, UInt64.toNat_add, UInt64.toNat_ofNat', List.length_cons, List.length_replicate]; omega
  repeat refine c_seq ?_
  refine c_region ?_; refine l_op (o_fa rfl fo211_3 ?_); refine l_op (o_ld H (i := 3) rfl rfl ct33 (hashC_num _ _ _ hcw) ?_); refine l_op (o_bin rfl rfl (fun _ => b_rem (by omega) (by omega)) ?_); refine l_op (o_bin rfl rfl (fun _ => b_neq) ?_); first | refine l_end ?_ | refine l_nil ?_
  repeat refine c_seq ?_
  refine c_ifD rfl (fun hne => ?_) (fun hne => ?_)
  · have hjz : j < zerosOf s.m := by
      simp only [zerosOf] at hj ⊢
      omega
    clear hcm hne
    generalize hc : absorb s (128 :: List.replicate j 0) = c at H hcw
    refine c_skip ?_; repeat refine c_seq ?_
    refine c_block ?_; repeat refine c_seq ?_
    refine c_region ?_; refine l_op (o_bsl H sl24 zc5 (by decide) rfl (by decide) (fill1 _ (V8 0) rfl) (fun b w H hb => ?_)); refine l_op (o_callR Tryz.func110 rfl rfl rfl (write1 (x := 0) H (i := 3) rfl hcw) ?_); rintro _ w ⟨rfl, Hc⟩
    clear H
    have H := Hc; clear Hc
    first | refine l_end ?_ | refine l_nil ?_
    refine round_end (j + 1) ?_ ?_ ?_
    · exact ⟨rfl, rfl, rfl, rfl, trivial⟩
    · refine ⟨hjz, ?_⟩
      have e : absorb s (128 :: List.replicate (j + 1) 0) = absorb c [0] := by
        rw [List.replicate_succ', ← hc, ← absorb_append]; rfl
      rw [e]; exact H
    · show zerosOf s.m - (j + 1) < zerosOf s.m - j; omega
  · have hjz : j = zerosOf s.m := by
      simp only [zerosOf] at hj ⊢
      omega
    subst hjz
    clear hcm hne hj hcw
    refine c_exit ?_; repeat refine c_seq ?_
    refine c_region ?_; refine l_op (o_mv ?_); first | refine l_end ?_ | refine l_nil ?_
    repeat refine c_seq ?_
    refine c_block ?_; refine c_loop (ι := Nat) (fun i => [(29, VI i), (5, V64 (s.m <<< 3)), (4, .pointer (some ⟨b4, 0, none⟩)), (3, .pointer (some ⟨b3, 0, none⟩)), (2, .pointer (some ⟨b2, 0, none⟩))])
      (fun i w => i ≤ 8 ∧ Hp w0 w [hb0] [.blk hb0 (hashH s) 211, .blk b2 (List.replicate 32 (V8 0)) 23, .blk b3 (List.replicate 32 (V8 0)) 23, .blk b4 (hashH (absorb s (128 :: (List.replicate (zerosOf s.m) 0 ++ (lenBytes s.m).take i)))) 211])
      (fun i => 8 - i) 0 ⟨rfl, rfl, rfl, rfl, rfl, trivial⟩ ⟨by omega, by rw [List.take_zero, List.append_nil]; exact H⟩ ?_
    clear H
    rintro i τ w ⟨hi, H⟩
    have hcw : (absorb s (128 :: (List.replicate (zerosOf s.m) 0 ++ (lenBytes s.m).take i))).wt.length = 64 := by rw [absorb_wt, hwt]
    repeat refine c_seq ?_
    refine c_region ?_; refine l_op (o_bin rfl rfl (fun _ => b_lss) ?_); first | refine l_end ?_ | refine l_nil ?_
    repeat refine c_seq ?_
    refine c_ifD rfl (fun hlt => ?_) (fun hlt => ?_)
    · have hlt' : i < 8 := by omega
      generalize hc : absorb s (128 :: (List.replicate (zerosOf s.m) 0 ++ (lenBytes s.m).take i)) = c at H hcw
      have e2 : (56 - 8 * (i : Int)).toNat = 56 - 8 * i := by omega
      refine c_skip ?_; repeat refine c_seq ?_
      refine c_block ?_; repeat refine c_seq ?_
      refine c_region ?_; refine l_op (o_mv ?_); refine l_op (o_as ?_); first | refine l_end ?_ | refine l_nil ?_
      repeat refine c_seq ?_
      refine c_region ?_; refine l_op (o_mv ?_); refine l_op (o_mv ?_); refine l_op (o_bin rfl rfl (fun _ => b_mul (by omega) (by omega)) ?_); refine l_op (o_bin rfl rfl (fun _ => b_sub (by omega) (by omega)) ?_); refine l_op (o_conv Tryz.underlying3 Tryz.underlying117 rfl (w_u64_p (a := 56 - 8 * (i : Int)) (by omega) (by omega)) ?_); refine l_op (o_shift rfl rfl (.inr rfl) (fun _ => b_shr_u64 (by omega) (by omega)) ?_)
      rw [e2]
      refine l_op (o_conv Tryz.underlying33 Tryz.underlying5 rfl (w_u8_64 _) ?_); refine l_op (o_bsl H sl24 zc5 (by decide) rfl (by decide) (fill1 _ (V8 (((s.m <<< 3) >>> UInt64.ofNat (56 - 8 * i)).toUInt8)) rfl) (fun b w H hb => ?_)); refine l_op (o_callR Tryz.func110 rfl rfl rfl (write1 (x := ((s.m <<< 3) >>> UInt64.ofNat (56 - 8 * i)).toUInt8) H (i := 3) rfl hcw) ?_); rintro _ w ⟨rfl, Hc⟩
      clear H
      have H := Hc; clear Hc
      first | refine l_end ?_ | refine l_nil ?_
      repeat refine c_seq ?_
      refine c_region ?_; refine l_op (o_bin rfl rfl (fun _ => b_add (by omega) (by omega)) ?_); refine l_op (o_mv ?_); first | refine l_end ?_ | refine l_nil ?_
      refine round_end (i + 1) ?_ ?_ ?_
      · exact ⟨rfl, rfl, rfl, rfl, rfl, trivial⟩
      · refine ⟨hlt', ?_⟩
        have e : absorb s (128 :: (List.replicate (zerosOf s.m) 0 ++ (lenBytes s.m).take (i + 1))) = absorb c [((s.m <<< 3) >>> UInt64.ofNat (56 - 8 * i)).toUInt8] := by
          rw [lenBytes_succ s.m i hlt', ← hc, ← absorb_append, ← List.append_assoc]; rfl
        rw [e]; exact H
      · show 8 - (i + 1) < 8 - i; omega
    · have hi8 : i = 8 := by omega
      subst hi8
      have hcl : absorb s (128 :: (List.replicate (zerosOf s.m) 0 ++ (lenBytes s.m).take 8)) = closed s := by
        rw [List.take_of_length_le (Nat.le_of_eq (lenBytes_length _)), closed, tailOf]
      rw [hcl] at H hcw
      have hdg : digest s = wordBytes (closed s).st.l := rfl
      rw [hdg]
      generalize closed s = c at H hcw
      have hl8 : c.st.l.length = 8 := rfl
      have hld : ((hashH c).drop (0 + 1)).take 8 = c.st.l.map V32 := rfl
      refine c_exit ?_; repeat refine c_seq ?_
      refine c_region ?_; refine l_op (o_fa rfl fo211_1 ?_); refine l_op (o_ldr H (i := 3) rfl rfl rt208 (by rw [hashH_len c hcw]; decide) ?_)
      rw [hld]
      refine l_op (o_mv ?_); first | refine l_end ?_ | refine l_nil ?_
      generalize c.st.l = l at hl8
      have hW := wordBytes_length l
      repeat refine c_seq ?_
      refine c_block ?_; refine c_loop (ι := Nat) (fun i => [(44, VI i), (43, .agg (l.map V32).toArray), (3, .pointer (some ⟨b3, 0, none⟩)), (2, .pointer (some ⟨b2, 0, none⟩))])
        (fun i w => i ≤ 8 ∧ Hp w0 w [hb0] [.blk hb0 (hashH s) 211, .blk b2 (List.replicate 32 (V8 0)) 23, .blk b3 (pad8 (wordBytes l) (4 * i) 32) 23])
        (fun i => 8 - i) 0 ⟨rfl, rfl, rfl, rfl, trivial⟩ ⟨by omega, by rw [pad8_zero]; exact H.sub (List.sublist_append_left _ [_])⟩ ?_
      clear H
      rintro i τ w ⟨hi, H⟩
      repeat refine c_seq ?_
      refine c_region ?_; refine l_op (o_bin rfl rfl (fun _ => b_lss) ?_); first | refine l_end ?_ | refine l_nil ?_
      repeat refine c_seq ?_
      refine c_ifD rfl (fun hlt => ?_) (fun hlt => ?_)
      · have hlt' : i < 8 := by omega
        have hgi : (l.map V32).toArray[(i : Int).toNat]? = some (V32 (l.getD i 0)) := by
          have : i < l.length := by omega
          simp [this]
        refine c_skip ?_; repeat refine c_seq ?_
        refine c_block ?_; repeat refine c_seq ?_
        refine c_region ?_; refine l_op (o_mv ?_); refine l_op (o_idxa (sz := 1) Tryz.underlying208 ct207 cs207 rfl rfl (by omega) (by omega) hgi ?_); refine l_op (o_as ?_); refine l_op (o_as ?_); first | refine l_end ?_ | refine l_nil ?_
        repeat refine c_seq ?_
        refine c_region ?_; refine l_op (o_mv ?_); first | refine l_end ?_ | refine l_nil ?_
        repeat refine c_seq ?_
        refine c_block ?_; refine c_loop (ι := Nat) (fun k => [(48, VI k), (44, VI i), (7, VI i), (8, V32 (l.getD i 0)), (43, .agg (l.map V32).toArray), (3, .pointer (some ⟨b3, 0, none⟩)), (2, .pointer (some ⟨b2, 0, none⟩))])
          (fun k w => k ≤ 4 ∧ Hp w0 w [hb0] [.blk hb0 (hashH s) 211, .blk b2 (List.replicate 32 (V8 0)) 23, .blk b3 (pad8 (wordBytes l) (4 * i + k) 32) 23])
          (fun k => 4 - k) 0 ⟨rfl, rfl, rfl, rfl, rfl, rfl, rfl, trivial⟩ ⟨by omega, H⟩ ?_
        clear H
        rintro k τ w ⟨hk, H⟩
        repeat refine c_seq ?_
        refine c_region ?_; refine l_op (o_bin rfl rfl (fun _ => b_lss) ?_); first | refine l_end ?_ | refine l_nil ?_
        repeat refine c_seq ?_
        refine c_ifD rfl (fun hlk => ?_) (fun hlk => ?_)
        · have hlk' : k < 4 := by omega
          have e2 : (24 - 8 * (k : Int)).toNat = 24 - 8 * k := by omega
          have e3 : 0 + (4 * (i : Int) + (k : Int)).toNat * 1 = 4 * i + k := by omega
          have e4 := pad8_set (wordBytes l) (4 * i + k) 32 hW (by omega) _ (wordBytes_get l i k hlt' hlk')
          refine c_skip ?_; repeat refine c_seq ?_
          refine c_block ?_; repeat refine c_seq ?_
          refine c_region ?_; refine l_op (o_mv ?_); refine l_op (o_as ?_); first | refine l_end ?_ | refine l_nil ?_
          repeat refine c_seq ?_
          refine c_region ?_; refine l_op (o_mv ?_); refine l_op (o_bin rfl rfl (fun _ => b_mul (by omega) (by omega)) ?_); refine l_op (o_mv ?_); refine l_op (o_bin rfl rfl (fun _ => b_add (by omega) (by omega)) ?_); refine l_op (o_mv ?_); refine l_op (o_mv ?_); refine l_op (o_bin rfl rfl (fun _ => b_mul (by omega) (by omega)) ?_); refine l_op (o_bin rfl rfl (fun _ => b_sub (by omega) (by omega)) ?_); refine l_op (o_conv Tryz.underlying3 Tryz.underlying117 rfl (w_u64_p (a := 24 - 8 * (k : Int)) (by omega) (by omega)) ?_); refine l_op (o_shift rfl rfl (.inr rfl) (fun _ => b_shr_u32 (by omega) (by omega)) ?_)
          rw [e2]
          refine l_op (o_conv Tryz.underlying207 Tryz.underlying5 rfl (w_u8_32 _) ?_); refine l_op (o_ia rfl rfl ar23 (by omega) (by omega) ?_); refine l_op (o_st H (i := 2) (v := V8 ((l.getD i 0) >>> UInt32.ofNat (24 - 8 * k)).toUInt8) rfl rfl rfl cs5 rfl (by rw [pad8_length _ _ _ hW (by omega)]; omega) (fun w H => ?_)); first | refine l_end ?_ | refine l_nil ?_
          rw [e3, e4] at H
          repeat refine c_seq ?_
          refine c_region ?_; refine l_op (o_bin rfl rfl (fun _ => b_add (by omega) (by omega)) ?_); refine l_op (o_mv ?_); first | refine l_end ?_ | refine l_nil ?_
          refine round_end (k + 1) ?_ ?_ ?_
          · exact ⟨rfl, rfl, rfl, rfl, rfl, rfl, rfl, trivial⟩
          · exact ⟨hlk', H⟩
          · show 4 - (k + 1) < 4 - k; omega
        · have hk4 : k = 4 := by omega
          subst hk4
          refine c_exit ?_; repeat refine c_seq ?_
          refine c_region ?_; refine l_op (o_bin rfl rfl (fun _ => b_add (by omega) (by omega)) ?_); refine l_op (o_mv ?_); first | refine l_end ?_ | refine l_nil ?_
          refine round_end (i + 1) ?_ ?_ ?_
          · exact ⟨rfl, rfl, rfl, rfl, trivial⟩
          · exact ⟨hlt', H⟩
          · show 8 - (i + 1) < 8 - i; omega
      · have hi8 : i = 8 := by omega
        subst hi8
        rw [pad8_all _ _ hW] at H
        have hWa : ((wordBytes l).map V8).toArray.all (·.oneCell') = true := by rw [List.all_toArray]; simp [Value.oneCell']
        have hWt : (((wordBytes l).map V8).drop 0).take 32 = (wordBytes l).map V8 := by rw [List.drop_zero, List.take_of_length_le (by simp [hW])]
        refine c_exit ?_; repeat refine c_seq ?_
        refine c_region ?_; refine l_op (o_ldr H (i := 2) rfl rfl rt23 (by simp [hW]) ?_)
        rw [hWt]
        refine l_op (o_stw H (i := 1) rfl rfl rfl (by rw [cs23]; simp [hW]) hWa (by simp [hW]) (fun w H => ?_)); first | refine l_end ?_ | refine l_nil ?_
        refine c_ret (e_retc Tryz.results111 H (i := 1) rfl rfl rt23 (by simp [hW]) ⟨_, rfl, rfl, ?_⟩); exact (H.unS hH).sub (List.nil_sublist _)
end Go.Proofs.YtiepekfcegdkoaaGreatDoor
namespace Go.Proofs.YtiepekfcegdkoaaGreatDoor
open Go
set_option maxRecDepth 100000
section
variable {P : Program} {Q : Exit → Act → World → Prop} {n : Nat} {σ : Nat → Value} {w w0 : World} {K : Act → World → Prop}
  {ty : TypeId} {pos : String} {aft : Array Edge} {g : Option (Nat × Bool)} {d : Nat} {t : TypeId} {x : Operand} {S : List Nat} {L : List Ch}
end
/-- a slice of bytes as a world has it. -/
structure Sl where
  a : Option Addr
  len : Nat
  cap : Nat
  l : List UInt8
def Sl.v (s : Sl) : Value := .slice s.a s.len s.cap
structure Sl.ok (s : Sl) (w : World) : Prop where
  rd : RdS w s.a (s.l.map V8)
  ln : s.l.length = s.len
  le : s.len ≤ s.cap
  mx : s.len ≤ 9223372036854775807
theorem Hp.rd' {w0 w : World} {S : List Nat} {L : List Ch} (h : Hp w0 w S L) {a : Option Addr} {vs : List Value} (hr : RdS w0 a vs) (hap : vs ≠ [] → Apart a S) : RdS w a vs := by
  by_cases hv : vs = []
  · exact .inl hv
  · exact h.rd hr (hap hv)
theorem Sl.ok.up {x : Sl} {w0 w : World} {S : List Nat} {L : List Ch} (hx : x.ok w0) (H : Hp w0 w S L) (hap : x.l ≠ [] → Apart x.a S) : x.ok w :=
  ⟨H.rd' hx.rd (fun h => hap (by simpa using h)), hx.ln, hx.le, hx.mx⟩
theorem Sl.ok.apart {x : Sl} {w0 : World} (hx : x.ok w0) {b : Nat} (hb : w0.heap.size ≤ b) : x.l ≠ [] → Apart x.a [b] := by
  intro hne y hy
  rcases hx.rd with h | ⟨b', o, C, T, fr, ha, hh, _⟩
  · exact absurd (by simpa using h) hne
  · rw [ha] at hy
    cases hy
    have := (Array.getElem?_eq_some_iff.1 hh).1
    simp only [List.mem_singleton]; omega
theorem Hp.newer {w0 w : World} {L : List Ch} (H : Hp w0 w [] L) {i b : Nat} {c : Ch} (hi : L[i]? = some c) (hk : c.key = some b) : w0.heap.size ≤ b := by
  rcases H.fresh c (List.mem_of_getElem? hi) b hk with h | h
  · simp at h
  · exact h
def cat (ps : List Sl) : List UInt8 := ps.flatMap (·.l)
theorem cat_succ (ps : List Sl) (i : Nat) (p : Sl) (h : ps[i]? = some p) : cat (ps.take (i + 1)) = cat (ps.take i) ++ p.l := by
  rw [List.take_add_one, h]; simp [cat]
/-- a write into a hash of one's own, of what was there ahead. -/
theorem writeS {w0 w : World} {S : List Nat} {L : List Ch} {hb i : Nat} {s : HS} {x : Sl} (H : Hp w0 w S L) (hi : L[i]? = some (.blk hb (hashH s) 211)) (hwt : s.wt.length = 64) (hx : x.ok w) (hap : x.l ≠ [] → Apart x.a [hb]) :
    Ret Tryz.prog 110 [.pointer (some ⟨hb, 0, none⟩), x.v] w fun v w' => v = .tuple #[] ∧ Hp w0 w' S (L.set i (.blk hb (hashH (absorb s x.l)) 211)) := by
  refine (write_ret w hb s x.a x.len x.cap x.l hwt (H.has _ (List.mem_of_getElem? hi)) hx.rd hx.ln hx.le hap hx.mx).mono fun v w' ⟨hv, Hc⟩ => ⟨hv, ?_⟩
  have := H.callAt hi rfl rfl Hc
  rw [List.append_nil] at this
  exact this
theorem initH : hashC initS (List.replicate 64 0) 0 = hashH HS.init := rfl
theorem absorb64 (l : List UInt8) : (absorb HS.init l).wt.length = 64 := by rw [absorb_wt]; rfl
theorem of_ret (w0 : World) (pa : Option Addr) (len cap : Nat) (ps : List Sl) (hr : RdS w0 pa (ps.map Sl.v)) (hl : ps.length = len) (hok : ∀ p ∈ ps, p.ok w0) (hmx : len < 9223372036854775807) :
    Ret Tryz.prog 66 [.slice pa len cap] w0 fun v w' => v = .agg ((digest (absorb HS.init (cat ps))).map V8).toArray ∧ Hp w0 w' [] [] := by
  refine ret_mk Tryz.func66 rfl Tryz.ntmps66 (by simp) ?_
  have H := Hp.refl w0 []
  repeat refine c_seq ?_
  refine c_region ?_; refine l_op (o_alloc H zc23 (fun b2 w H hb2 => ?_)); first | refine l_end ?_ | refine l_nil ?_
  repeat refine c_seq ?_
  refine c_region ?_; refine l_op (o_callR Tryz.func109 rfl rfl rfl (new_ret _) ?_); rintro _ w ⟨hb, rfl, Hc⟩
  replace H := H.call Hc
  rw [initH] at H
  clear Hc
  refine l_op (o_as ?_); first | refine l_end ?_ | refine l_nil ?_
  repeat refine c_seq ?_
  refine c_region ?_; refine l_op (o_mv ?_); refine l_op (o_lens el58 rfl ?_); refine l_op (o_mv ?_); first | refine l_end ?_ | refine l_nil ?_
  repeat refine c_seq ?_
  refine c_block ?_; refine c_loop (ι := Nat) (fun i => [(9, VI i), (8, VI len), (7, .slice pa len cap), (3, .pointer (some ⟨hb, 0, none⟩)), (2, .pointer (some ⟨b2, 0, none⟩))])
    (fun i w => i ≤ len ∧ Hp w0 w [] [.blk b2 (List.replicate 32 (V8 0)) 23, .blk hb (hashH (absorb HS.init (cat (ps.take i)))) 211])
    (fun i => len - i) 0 ⟨rfl, rfl, rfl, rfl, rfl, trivial⟩ ⟨by omega, H⟩ ?_
  clear H
  rintro i τ w ⟨hi, H⟩
  repeat refine c_seq ?_
  refine c_region ?_; refine l_op (o_bin rfl rfl (fun _ => b_lss) ?_); first | refine l_end ?_ | refine l_nil ?_
  repeat refine c_seq ?_
  refine c_ifD rfl (fun hlt => ?_) (fun hlt => ?_)
  · have hlt' : i < len := by omega
    have hgi : ps[i]? = some (ps[i]'(by omega)) := List.getElem?_eq_getElem _
    generalize (ps[i]'(by omega)) = p at hgi
    have hp := hok p (List.mem_of_getElem? hgi)
    have hv : (ps.map Sl.v)[(i : Int).toNat * 1]? = some p.v := by simp [hgi]
    refine c_skip ?_; repeat refine c_seq ?_
    refine c_block ?_; repeat refine c_seq ?_
    refine c_region ?_; refine l_op (o_is rfl rfl el58 (by omega) (by omega) (by decide) (H.rd hr (apart_nil _)) (by simp [hl]) (fun b o ha => ?_)); refine l_op (o_lds (H.rd hr (apart_nil _)) ha rfl ct24 hv ?_); refine l_op (o_as ?_); first | refine l_end ?_ | refine l_nil ?_
    repeat refine c_seq ?_
    refine c_region ?_; refine l_op (o_mv ?_); refine l_op (o_mv ?_); refine l_op (o_callR Tryz.func110 rfl rfl rfl (writeS H (i := 1) rfl (absorb64 _) (hp.up H (fun _ => apart_nil _)) (hp.apart (H.newer (i := 1) rfl rfl))) ?_); rintro _ w ⟨rfl, Hc⟩
    clear H
    have H := Hc; clear Hc
    rw [← absorb_append, ← cat_succ ps i p hgi] at H
    first | refine l_end ?_ | refine l_nil ?_
    repeat refine c_seq ?_
    refine c_region ?_; refine l_op (o_bin rfl rfl (fun _ => b_add (by omega) (by omega)) ?_); refine l_op (o_mv ?_); first | refine l_end ?_ | refine l_nil ?_
    refine round_end (i + 1) ?_ ?_ ?_
    · exact ⟨rfl, rfl, rfl, rfl, rfl, trivial⟩
    · exact ⟨hlt', H⟩
    · show len - (i + 1) < len - i; omega
  · have hi' : i = len := by omega
    subst hi'
    rw [List.take_of_length_le (Nat.le_of_eq hl)] at H
    have hd := digest_length (absorb HS.init (cat ps))
    refine c_exit ?_; repeat refine c_seq ?_
    refine c_region ?_; refine l_op (o_mv ?_); refine l_op (o_callR Tryz.func111 rfl rfl rfl (sum_ret _ hb _ (absorb64 _) (H.blk (i := 1) rfl)) ?_); rintro _ w ⟨rfl, Hc⟩
    replace H := H.call Hc
    rw [List.append_nil] at H
    refine l_op (o_stw H (i := 0) rfl rfl rfl (by rw [cs23]; simp [hd]) (by rw [List.all_toArray]; simp [Value.oneCell']) (by simp [hd]) (fun w H => ?_)); first | refine l_end ?_ | refine l_nil ?_
    refine c_ret (e_retc Tryz.results66 H (i := 0) rfl rfl rt23 (by simp [hd]) ⟨_, rfl, rfl, ?_⟩); exact H.sub (List.nil_sublist _)
end Go.Proofs.YtiepekfcegdkoaaGreatDoor
namespace Go.Proofs.YtiepekfcegdkoaaGreatDoor
open Go Go.ChangeShapes Go.WideShapes Go.ChangeAt Go.RowKit
theorem Tryz.own : ownKnob Tryz.prog.godebug = none := by kernel_rfl
theorem Tryz.laidOut : laidOutB Tryz.prog = true := by kernel_rfl
section
variable {H : Type} {enc : TypeId × Value → H} {P : Program}
theorem trodAll_stays (hl : laidOutB P = true) {W W' : World} (hb : Below W.heap.size W W') :
    ∀ {ts : List TypeId} {vs : List Value} {ds : List (DataW H)} {ps : List MemPlace}, (∀ t ∈ ts, P.readableRec t = true ∧ t < P.types.size) → DataW.TrodAll enc P W 0 (fun _ => true) true ts vs ds ps → (∀ x ∈ ps, x.block < W.heap.size) →
      DataW.TrodAll enc P W' 0 (fun b => decide (b < W.heap.size)) true ts vs ds ps
  | [], _, _, _, _, h, _ => by
    obtain ⟨rfl, rfl, rfl⟩ := trodAll_nil h
    exact trodAll_mk0
  | t :: ts, _, _, _, ht, h, hlt => by
    obtain ⟨v, vs, d, ds, p, q, rfl, rfl, rfl, h1, h2⟩ := trodAll_cons h
    exact ⟨p, q, Below.trod hl (ht t (by simp)).1 (ht t (by simp)).2 h1 hb (fun x hx => hlt x (by simp [hx])), trodAll_stays hl hb (fun u hu => ht u (by simp [hu])) h2 (fun x hx => hlt x (by simp [hx])), rfl⟩
theorem trod_bool (tb : TypeId) (hb : P.underlying tb = some .bool) (w : World) (b : Bool) (base : Nat) (sp : Nat → Bool) (held : Bool) : DataW.Trod enc P w base sp held tb (.bool b) (.lit (.bool b)) [] := ⟨1, by simp [DataW.trod, hb, Value.cells]⟩
/-- what a law leaves: true, and all as it was. -/
theorem post_law {f : Func} {s : ChangeSpec} {apart fresh handsOn : Bool} {W W' : World} {args : Array Value} {ds gs : List (DataW H)} {before : List MemPlace} {tb : TypeId} (hl : laidOutB P = true)
    (hts : ∀ t ∈ f.params.toList, P.readableRec t = true ∧ t < P.types.size) (hW : DataW.Whole enc P f.params.toList s.vars apart W args.toList ds gs before) (hH : Hp W W' [] []) (hv : s.vars = [])
    (hs : s.fn H ds = { results := [.lit (.bool true)], args := ds }) (hr : f.resultTypes = #[tb]) (hb : P.underlying tb = some .bool) : s.post enc P f apart fresh handsOn false W args (.bool true) W' := by
  have hlt := hW.lt
  have hW' := hW
  obtain ⟨p, q, hA, hV, rfl, _, _⟩ := hW
  rw [hv] at hV
  cases gs with
  | cons g gs => simp [DataW.TrodVars] at hV
  | nil =>
    have hq : q = [] := by simpa [DataW.TrodVars] using hV
    subst hq
    have hbel := hH.below
    have hs' : s.fn H (ds ++ []) = { results := [.lit (.bool true)], args := ds } := by rw [List.append_nil]; exact hs
    have hvl : (Value.bool true).resultList f.resultTypes.size = [.bool true] := by rw [hr]; rfl
    refine ⟨ds, [], p ++ [], [], p, [], hW', ?_, ?_, ?_, hbel.frame _, fun h => by cases h⟩
    · rw [hs', hvl, hr]
      exact trodAll_mk1 (trod_bool tb hb W' true _ _ _)
    · rw [hs']
      exact trodAll_stays hl hbel hts hA (fun x hx => hlt x (by simp [hx]))
    · rw [hs', hv]; rfl
theorem law_calls {f : FuncId} {fn : Func} {s : ChangeSpec} {apart fresh handsOn : Bool} {W : World} {args : Array Value} {ds gs : List (DataW H)} {before : List MemPlace} {tb : TypeId} (hl : laidOutB P = true)
    (hts : ∀ t ∈ fn.params.toList, P.readableRec t = true ∧ t < P.types.size) (hW : DataW.Whole enc P fn.params.toList s.vars apart W args.toList ds gs before) (hv : s.vars = [])
    (hs : s.fn H ds = { results := [.lit (.bool true)], args := ds }) (hr : fn.resultTypes = #[tb]) (hb : P.underlying tb = some .bool)
    (h : Ret P f args.toList W fun v w' => v = .bool true ∧ Hp W w' [] []) : Calls P f args W fun e W' => ∃ v, e = .returned v ∧ s.post enc P fn apart fresh handsOn false W args v W' := by
  have h' : Calls P f args W fun e w' => ∃ v, e = .returned v ∧ v = .bool true ∧ Hp W w' [] [] := by simpa [Ret] using h
  exact Calls.mono h' fun e w' ⟨v, he, hv', hH⟩ => ⟨v, he, by subst hv'; exact post_law hl hts hW hH hv hs hr hb⟩
end
/-- the facts on the types of a law's parameters. -/
def tyOk (P : Program) (ts : List TypeId) : Bool := ts.all fun t => P.readableRec t && decide (t < P.types.size)
theorem tyOk_all {ts : List TypeId} (h : tyOk Tryz.prog ts = true) : ∀ t ∈ ts, Tryz.prog.readableRec t = true ∧ t < Tryz.prog.types.size := by
  intro t ht
  have := List.all_eq_true.1 h t ht
  simpa using this
theorem cut_of (P : Program) (cs : List Char) (h : P.initOrder = String.ofList cs) (hb : ((behindMainWord (wordsSigns cs)).head? == some "cut".toList) = true) : ∃ rest, behindMainWord (wordsSigns P.initOrder.toList) = "cut".toList :: rest := by
  rw [h, String.toList_ofList]
  generalize behindMainWord (wordsSigns cs) = l at hb
  cases l with
  | nil => simp at hb
  | cons c r => exact ⟨r, by simpa using hb⟩
set_option maxRecDepth 100000 in
theorem Tryz.cut : ∃ rest, behindMainWord (wordsSigns Tryz.prog.initOrder.toList) = "cut".toList :: rest := by
  refine cut_of Tryz.prog _ rfl ?_
  kernel_rfl
theorem strip_cut (rest : List (List Char)) : stripLifts liftWords ("cut".toList :: rest) = ([], "cut".toList :: rest) := by
  kernel_rfl
theorem headLifts_cut {P : Program} {rest : List (List Char)} (h : behindMainWord (wordsSigns P.initOrder.toList) = "cut".toList :: rest) : P.headLifts = [] := by
  unfold Program.headLifts
  rw [h, strip_cut]
  simp
theorem lifts_cut {P : Program} {rest : List (List Char)} (h : behindMainWord (wordsSigns P.initOrder.toList) = "cut".toList :: rest) : P.liftsFinal = false := by
  unfold Program.liftsFinal
  rw [h, headLifts_cut h]
  simp
theorem make_cut {P : Program} {rest : List (List Char)} (h : behindMainWord (wordsSigns P.initOrder.toList) = "cut".toList :: rest) : P.make = some .cut := by
  unfold Program.make
  rw [h]
  simp
theorem enter_cut {P : Program} {rest : List (List Char)} (h : behindMainWord (wordsSigns P.initOrder.toList) = "cut".toList :: rest) (h1 : P.laysLater = false) (h2 : P.bearsReflect = false) (h3 : P.doorFits [] = true) : P.mayEnter = true := by
  unfold Program.mayEnter
  rw [h]
  simp only [strip_cut, h1, h2, h3]
  simp
theorem joined_of (P : Program) (f : FuncId) (fn : Func) (s : ChangeSpec) (c : OpenClaim) (h1 : laidOutB P = true) (h2 : mapsRowed P = true) (h3 : P.stops = []) (h4 : P.stopKnobs = []) (h5 : P.stopsHeard = true) (h6 : P.mayEnter = true) (h7: P.liftsFinal = false) (h8 : P.make = some .cut) (pk : Bool) (h9 : P.plainKeys = pk)
    (r : (c.wf (OpenSpec.ofChange s) && fn.params.all (P.readableRec ·) && namedTie P c.named s.vars &&
  (c.stops == []) && (c.knobs == []) && 
  (c.inPlace == P.inPlace f) && (c.unfollowed == P.unfollowed f) && (c.recurses == P.recurses f) && (c.named == P.varsNamed f)) = true)
    (r2 : ((c.maps == (fn.params.toList ++ s.plain.varTypes P).any (P.mapsRec ·)) && (c.ifaces == (fn.params.toList ++ s.plain.varTypes P).any (P.ifacesRec ·)) && (c.mapsOut == P.mapsAmong fn.resultTypes.toList) &&
  (c.loops == (fn.params.toList ++ s.plain.varTypes P).any (P.loopsFrom ·)) && (c.wideKeys == (fn.params.toList ++ s.plain.varTypes P ++ fn.resultTypes.toList).any (P.wideKeysFrom ·)) &&
  s.vars.all (P.varReadable ·) && fn.resultTypes.all (fun t => P.readableRec t && decide (t < P.types.size)) && (c.ifacesOut == fn.resultTypes.toList.any (P.ifacesRec ·)) && (c.loopsOut == fn.resultTypes.toList.any (P.loopsFrom ·)) && (c.plainKeys == pk) && c.shortTexts.isNone && (c.lifted == false) && (some Make.cut == some c.make) && (c.kinds == (if c.domain.isEmpty then [] else fn.params.toList.map fun t => match P.underlying t with | some (.int k) => some k | _ => none)) && (c.pinned == c.pinnedBy) &&
  (c.veiled == (fn.params.toList ++ s.plain.varTypes P ++ fn.resultTypes.toList).any (P.veiledRec ·)) && c.veiledFits P fn.params.toList (fn.params.toList ++ s.plain.varTypes P ++ fn.resultTypes.toList)) = true) : joinedFacts P f fn s c = true := by
  simp only [Bool.and_eq_true] at r r2
  obtain ⟨⟨⟨⟨⟨⟨⟨⟨k1, k4⟩, k5⟩, k6⟩, k8⟩, k10⟩, k11⟩, k12⟩, k13⟩ := r
  obtain ⟨⟨⟨⟨⟨⟨⟨⟨⟨⟨⟨⟨⟨⟨⟨⟨m1, m2⟩, m3⟩, m4⟩, m5⟩, m6⟩, m7⟩, m8⟩, m9⟩, m10⟩, m11⟩, m12⟩, m13⟩, m14⟩, m15⟩, m16⟩, m17⟩ := r2
  unfold joinedFacts
  rw [h3, h4, h7, h8, h9]
  simp only [Bool.and_eq_true]
  exact ⟨⟨⟨⟨⟨⟨⟨⟨⟨⟨⟨⟨⟨⟨⟨⟨⟨⟨⟨⟨⟨⟨⟨⟨⟨⟨⟨⟨⟨⟨⟨k1, h1⟩, h2⟩, k4⟩, k5⟩, k6⟩, rfl⟩, k8⟩, rfl⟩, k10⟩, k11⟩, k12⟩, k13⟩, m1⟩, m2⟩, m3⟩, m4⟩, m5⟩, m6⟩, m7⟩, m8⟩, m9⟩, m10⟩, m11⟩, h5⟩, h6⟩, m12⟩, m13⟩, m14⟩, m15⟩, m16⟩, m17⟩
theorem Tryz.mapsRowed : mapsRowed Tryz.prog = true := by kernel_rfl
theorem Tryz.stops : Tryz.prog.stops = [] := by kernel_rfl
theorem Tryz.stopKnobs : Tryz.prog.stopKnobs = [] := by kernel_rfl
theorem Tryz.stopsHeard : Tryz.prog.stopsHeard = true := by kernel_rfl
theorem Tryz.laysLater : Tryz.prog.laysLater = false := by kernel_rfl
theorem Tryz.bearsReflect : Tryz.prog.bearsReflect = false := by kernel_rfl
theorem Tryz.doorFits : Tryz.prog.doorFits [] = true := by kernel_rfl
theorem Tryz.mayEnter : Tryz.prog.mayEnter = true := Tryz.cut.elim fun _ h => enter_cut h Tryz.laysLater Tryz.bearsReflect Tryz.doorFits
theorem Tryz.liftsFinal : Tryz.prog.liftsFinal = false := Tryz.cut.elim fun _ h => lifts_cut h
theorem Tryz.make : Tryz.prog.make = some .cut := Tryz.cut.elim fun _ h => make_cut h
theorem Tryz.plainKeys : Tryz.prog.plainKeys = false := by kernel_rfl
end Go.Proofs.YtiepekfcegdkoaaGreatDoor
namespace Go.Proofs.YtiepekfcegdkoaaGreatDoor
open Go Go.ChangeShapes Go.WideShapes Go.ChangeAt Go.RowKit Go.Deep
set_option maxRecDepth 100000
section
variable {H : Type} {enc : TypeId × Value → H} {W : World}
theorem rd_of_cells {a : Addr} {vs : List Value} (h : ∀ i v, vs[i]? = some v → W.cell? (a.add i) = some v) : RdS W (some a) vs := by
  cases vs with
  | nil => exact .inl rfl
  | cons v0 vs =>
    obtain ⟨b, o, spot⟩ := a
    have h0 := h 0 v0 rfl
    have hspot : spot = none := by simpa [Addr.add] using World.cell?_spot h0
    subst hspot
    have ha : ∀ i, (⟨b, o, none⟩ : Addr).add i = ⟨b, o + i, none⟩ := fun i => Addr.add_mid ..
    rw [ha] at h0
    cases hb : W.heap[b]? with
    | none => simp [World.cell?, hb] at h0
    | some ob =>
      cases ob with
      | cells C T fr =>
        refine .inr ⟨b, o, C, T, fr, rfl, hb, fun i v hv => ?_⟩; have := h i v hv
        rw [ha] at this
        simpa [World.cell?, hb] using this
      | _ => simp [World.cell?, hb] at h0
theorem sl_of_ints {a : Addr} {len cap : Nat} {zs : List Int} (hl : len ≤ cap) (hm : cap ≤ maxLen) (hz : zs.length = cap) (hcell : ∀ i, i < zs.length → W.cell? (a.add i) = some (.int .u8 (zs.getD i 0))) (hwz : ∀ n ∈ zs, (Lit.int .u8 n).wf = true) :
    (⟨some a, len, cap, (zs.take len).map fun n => UInt8.ofNat n.toNat⟩ : Sl).ok W := by
  refine ⟨rd_of_cells fun i v hv => ?_, by simp; omega, hl, Nat.le_trans hl hm⟩
  simp only [List.getElem?_map, Option.map_map] at hv
  obtain ⟨n, hn, rfl⟩ := Option.map_eq_some_iff.1 hv
  have hi : i < zs.length := by
    have := (List.getElem?_eq_some_iff.1 hn).1
    simp at this; omega
  have hn' : zs[i]? = some n := by
    rw [List.getElem?_take] at hn
    split at hn
    · exact hn
    · cases hn
  have hmem : n ∈ zs := List.mem_of_getElem? hn'
  have hr := range_u8 hwz i
  rw [hn'] at hr
  simp only [Option.getD_some] at hr
  rw [hcell i hi]
  have e : zs.getD i 0 = n := by rw [List.getD_eq_getElem?_getD, hn']; rfl
  rw [e]
  simp only [Function.comp, V8, UInt8.toNat_ofNat']
  congr 2
  omega
theorem cells5 : Tryz.prog.cellsOf 5 = 1 := by kernel_rfl
theorem open_sl {base : Nat} {spare : Nat → Bool} {held : Bool} {fuel : Nat} {v : Value} {x : DataW H × List MemPlace} (hsp : spare = fun _ => true) (h : DataW.trod enc Tryz.prog W base spare held fuel 24 [v] = some x) : ∃ s : Sl, v = s.v ∧ s.ok W := by
  subst hsp
  rcases open_ints Tryz.underlying24 Tryz.underlying5 cells5 h with ⟨hcs, _⟩ | ⟨a, len, cap, zs, hcs, _, hl, hm, hz, _, hcell, hwz⟩
  · simp only [List.cons.injEq, and_true] at hcs
    exact ⟨⟨none, 0, 0, []⟩, hcs, .inl rfl, rfl, Nat.le_refl _, by decide⟩
  · simp only [List.cons.injEq, and_true] at hcs
    simp only [if_true] at hz
    exact ⟨⟨some a, len, cap, _⟩, hcs, sl_of_ints hl hm hz hcell hwz⟩
/-- a slice of bytes. -/
theorem open_u8s {base : Nat} {v : Value} {d : DataW H} {p : List MemPlace} (hval : Value.okWide Tryz.prog W .any base 24 v) (h : DataW.Trod enc Tryz.prog W 0 (fun _ => true) true 24 v d p) : ∃ s : Sl, v = s.v ∧ s.ok W := by
  obtain ⟨a, len, cap, rfl⟩ := okWide_slice Tryz.underlying24 hval
  obtain ⟨fuel, hf⟩ := h
  exact open_sl rfl hf
instance : Inhabited Sl := ⟨⟨none, 0, 0, []⟩⟩
end
end Go.Proofs.YtiepekfcegdkoaaGreatDoor
namespace Go.Proofs.YtiepekfcegdkoaaGreatDoor
open Go Go.ChangeShapes Go.WideShapes Go.ChangeAt Go.RowKit Go.Deep Go.ChangeMaps
set_option maxRecDepth 100000
section
variable {H : Type} {enc : TypeId × Value → H} {W : World} {base : Nat} {spare : Nat → Bool} {held : Bool}
theorem cellsId : Tryz.prog.cellsOf 23 = 32 := by kernel_rfl
def byteOf : Value → UInt8
  | .int _ n => UInt8.ofNat n.toNat
  | _ => 0
theorem byteOf_V8 {n : Int} (h : (Lit.int .u8 n).wf = true) : V8 (byteOf (.int .u8 n)) = .int .u8 n := by
  have := bounds_u8 h
  simp only [byteOf, V8, UInt8.toNat_ofNat']
  congr 1; omega
theorem trod_id {fuel : Nat} {cs : List Value} {x : DataW H × List MemPlace} (h : DataW.trod enc Tryz.prog W base spare held fuel 23 cs = some x) : ∃ l : List UInt8, cs = l.map V8 ∧ l.length = 32 := by
  obtain ⟨xs, m, _, _, hl, hx, hi⟩ := DataW.trod_array Tryz.underlying23 h
  rw [cellsId] at hl
  refine ⟨cs.map byteOf, ?_, by simp [hl]⟩
  apply List.ext_getElem?
  intro i
  by_cases hlt : i < 32
  · have h1 := hi i hlt
    rw [cells5, Nat.mul_one, List.getElem?_eq_getElem (by omega)] at h1
    obtain ⟨n, hn, _, hw⟩ := DataW.trod_int Tryz.underlying5 h1
    have h2 : cs[i]? = some (.int .u8 n) := by
      have := congrArg (·[0]?) hn
      simpa [List.getElem?_take, List.getElem?_drop] using this
    simp only [List.getElem?_map, h2, Option.map_some, byteOf_V8 hw]
  · rw [List.getElem?_eq_none (by omega), List.getElem?_eq_none (by simp; omega)]
theorem open_id {base0 : Nat} {v : Value} {d : DataW H} {p : List MemPlace} (_ : Value.okWide Tryz.prog W .any base0 23 v) (h : DataW.Trod enc Tryz.prog W base spare held 23 v d p) : ∃ l : List UInt8, v = .agg (l.map V8).toArray ∧ l.length = 32 := by
  obtain ⟨fuel, hf⟩ := h
  obtain ⟨l, hl, h32⟩ := trod_id hf
  refine ⟨l, ?_, h32⟩
  have hs : v.cells.size = 32 := by
    have := congrArg List.length hl
    simpa [h32] using this
  cases v <;> simp only [Value.cells, List.size_toArray, List.length_cons, List.length_nil] at hs hl <;> first | omega | skip
  congr 1
  apply Array.ext'
  simpa using hl
end
end Go.Proofs.YtiepekfcegdkoaaGreatDoor
namespace Go.Proofs.YtiepekfcegdkoaaGreatDoor
open Go
set_option maxRecDepth 100000
theorem fills (z : Value) (vs : List Value) (len : Nat) (h1 : ∀ v ∈ vs, v.oneCell' = true) (hl : vs.length = len) : Instr.fill (fun i => some (i * 1, 1)) ((Array.range (len * 1)).map (([z].toArray)[· % ([z].toArray).size]!)) (en 0 vs) = some vs.toArray := by
  have := fill_en (zs := ((Array.range (len * 1)).map (([z].toArray)[· % ([z].toArray).size]!)).toList) vs (by rw [List.all_toArray, List.all_eq_true]; exact h1) (by simp [hl])
  rwa [Array.toArray_toList] at this
def abc : HS := absorb HS.init [97, 98, 99]
def abcD : List UInt8 := digest abc
attribute [local irreducible] abc abcD digest absorb
end Go.Proofs.YtiepekfcegdkoaaGreatDoor
namespace Go.Proofs.YtiepekfcegdkoaaGreatDoor
open Go
section
variable {P : Program} {Q : Exit → Act → World → Prop} {n : Nat} {σ : Nat → Value} {w : World} {K : Act → World → Prop}
  {ty : TypeId} {pos : String} {aft : Array Edge} {g : Option (Nat × Bool)} {d : Nat} {t yt : TypeId} {x y : Operand}
theorem b_lssB {k : IntKind} {a b : Int} (v : Bool) (h : decide (a < b) = v) : (binOp .lss t (.int k a) (.int k b)).run P w = .ok (.bool v) w := by rw [← h]; exact b_lss
theorem b_leqB {k : IntKind} {a b : Int} (v : Bool) (h : decide (a ≤ b) = v) : (binOp .leq t (.int k a) (.int k b)).run P w = .ok (.bool v) w := by rw [← h]; exact b_leq
theorem b_gtrB {k : IntKind} {a b : Int} (v : Bool) (h : decide (b < a) = v) : (binOp .gtr t (.int k a) (.int k b)).run P w = .ok (.bool v) w := by rw [← h]; exact b_gtr
theorem b_geqB {k : IntKind} {a b : Int} (v : Bool) (h : decide (b ≤ a) = v) : (binOp .geq t (.int k a) (.int k b)).run P w = .ok (.bool v) w := by rw [← h]; exact b_geq
theorem b_eqlB {k : IntKind} {a b : Int} (v : Bool) (h : decide (a = b) = v) : (binOp .eql t (.int k a) (.int k b)).run P w = .ok (.bool v) w := by rw [← h]; exact b_eql
theorem b_neqB {k : IntKind} {a b : Int} (v : Bool) (h : decide (a ≠ b) = v) : (binOp .neq t (.int k a) (.int k b)).run P w = .ok (.bool v) w := by rw [← h]; exact b_neq
end
theorem all1 {α : Type} {p : α → Prop} {a : α} (ha : p a) : ∀ x ∈ [a], p x := by
  intro x hx
  rw [List.mem_singleton] at hx
  rw [hx]; exact ha
theorem all2 {α : Type} {p : α → Prop} {a b : α} (ha : p a) (hb : p b) : ∀ x ∈ [a, b], p x := by
  intro x hx
  simp only [List.mem_cons, List.not_mem_nil, or_false] at hx
  rcases hx with h | h <;> rw [h] <;> assumption
end Go.Proofs.YtiepekfcegdkoaaGreatDoor
namespace Go.Proofs.YtiepekfcegdkoaaGreatDoor
open Go
set_option maxRecDepth 100000
theorem Hp.nilOwn {w0 w : World} {S : List Nat} {L : List Ch} (H : Hp w0 w S L) (T : TypeId) (sz : Nat) : Hp w0 w S (.own none 0 0 [] T sz :: L) :=
  ⟨H.os, H.tape, H.output, H.size, H.frame, fun c hc => by
    rcases List.mem_cons.1 hc with rfl | h
    · exact ⟨rfl, rfl, rfl⟩
    · exact H.has c h, fun c hc b hk => by
    rcases List.mem_cons.1 hc with rfl | h
    · cases hk
    · exact H.fresh c h b hk, List.pairwise_cons.2 ⟨fun _ _ _ h => (by cases h), H.nd⟩⟩
end Go.Proofs.YtiepekfcegdkoaaGreatDoor
namespace Go.Proofs.YtiepekfcegdkoaaGreatDoor
open Go
section
variable {P : Program} {Q : Exit → Act → World → Prop} {n : Nat} {σ : Nat → Value} {w w0 : World} {K : Act → World → Prop}
  {ty : TypeId} {pos : String} {aft : Array Edge} {g : Option (Nat × Bool)} {d : Nat} {t yt : TypeId} {x y z : Operand} {S : List Nat} {L : List Ch}
theorem Sl.ok.addr {s : Sl} (h : s.ok w) (hp : 0 < s.len) : ∃ b o, s.a = some ⟨b, o, none⟩ := by
  rcases h.rd with h' | ⟨b, o, C, T, fr, ha, hb, hc⟩
  · have := h.ln
    rw [List.map_eq_nil_iff.1 h'] at this
    simp at this; omega
  · exact ⟨b, o, ha⟩
theorem Sl.get (s : List UInt8) (k : Nat) (h : k < s.length) : (s.map V8)[k]? = some (V8 (s.getD k 0)) := by
  simp [List.getD_eq_getElem?_getD, h]
theorem RdS.addr {a : Option Addr} {vs : List Value} (h : RdS w a vs) (hp : 0 < vs.length) : ∃ b o, a = some ⟨b, o, none⟩ := by
  rcases h with rfl | ⟨b, o, C, T, fr, ha, hb, hc⟩
  · simp at hp
  · exact ⟨b, o, ha⟩
/-- a slice out of a list of slices. -/
theorem r_ldP {a : Option Addr} {b o k : Nat} {ps : List Sl} {p : Sl} (hr : RdS w a (ps.map Sl.v)) (ha : a = some ⟨b, o, none⟩) (hx : ev n σ x = .pointer (some ⟨b, o + k * 1, none⟩)) (ht : cellTy P t = true) (hk : ps[k]? = some p) :
    (execOp (ev n σ) ⟨some d, .load t x, ty, pos, aft, g⟩).run P w = .ok (.value p.v) w :=
  r_lds (i := k * 1) hr ha hx ht (by simp [hk])
/-- an element's address. -/
theorem r_isN {a : Option Addr} {b o len cap sz : Nat} {kk : IntKind} {i : Int} (k : Nat) (hx : ev n σ x = .slice a len cap) (hy : ev n σ y = .int kk i) (ha : eltOf P t = some sz) (hb : a = some ⟨b, o, none⟩) (hi : i = (k : Int)) (h1 : k < len) :
    (execOp (ev n σ) ⟨some d, .indexAddr t x y, ty, pos, aft, g⟩).run P w = .ok (.value (.pointer (some ⟨b, o + k * sz, none⟩))) w := by
  subst hi
  exact r_is hx hy ha hb (by omega) (by omega)
theorem r_iaN {b o len sz : Nat} {kk : IntKind} {i : Int} (k : Nat) (hx : ev n σ x = .pointer (some ⟨b, o, none⟩)) (hy : ev n σ y = .int kk i) (ha : arrOf P t = some (len, sz)) (hi : i = (k : Int)) (h1 : k < len) :
    (execOp (ev n σ) ⟨some d, .indexAddr t x y, ty, pos, aft, g⟩).run P w = .ok (.value (.pointer (some ⟨b, o + k * sz, none⟩))) w := by
  subst hi
  exact r_ia hx hy ha (by omega) (by omega)
/-- a byte of a slice. -/
theorem r_ldB {s : Sl} {b o k : Nat} (hs : s.ok w) (ha : s.a = some ⟨b, o, none⟩) (hx : ev n σ x = .pointer (some ⟨b, o + k * 1, none⟩)) (ht : cellTy P t = true) (hk : k < s.len) :
    (execOp (ev n σ) ⟨some d, .load t x, ty, pos, aft, g⟩).run P w = .ok (.value (V8 (s.l.getD k 0))) w :=
  r_lds (i := k * 1) hs.rd ha hx ht (by rw [Nat.mul_one]; exact Sl.get _ _ (by rw [hs.ln]; exact hk))
/-- a whole array. -/
theorem r_ldA {b i k : Nat} {C : List Value} {T : TypeId} (H : Hp w0 w S L) (hi : L[i]? = some (.blk b C T)) (hx : ev n σ x = .pointer (some ⟨b, 0, none⟩)) (ht : rowTy P t = some k) (hk : C.length = k) :
    (execOp (ev n σ) ⟨some d, .load t x, ty, pos, aft, g⟩).run P w = .ok (.value (.agg C.toArray)) w := by
  have h := r_ldr (P := P) (t := t) (d := d) (ty := ty) (pos := pos) (aft := aft) (g := g) H hi hx ht (by omega)
  rw [h, List.drop_zero, List.take_of_length_le (Nat.le_of_eq hk)]
theorem r_ldAA {b i k : Nat} {l : List UInt8} {T : TypeId} (H : Hp w0 w S L) (hi : L[i]? = some (.blk b (l.map V8) T)) (hx : ev n σ x = .pointer (some ⟨b, 0, none⟩)) (ht : rowTy P t = some k) (hk : l.length = k) :
    (execOp (ev n σ) ⟨some d, .load t x, ty, pos, aft, g⟩).run P w = .ok (.value (.agg (l.map V8).toArray)) w :=
  r_ldA H hi hx ht (by rw [List.length_map, hk])
theorem o_stA {b i k : Nat} {l l' : List UInt8} {T : TypeId} (H : Hp w0 w S L) (hi : L[i]? = some (.blk b (l.map V8) T)) (hx : ev n σ x = .pointer (some ⟨b, 0, none⟩)) (hy : ev n σ y = .agg (l'.map V8).toArray)
    (hs : cellSz P t = some k) (h1 : l.length = k) (h2 : l'.length = k)
    (h : ∀ w', Hp w0 w' S (L.set i (.blk b (l'.map V8) T)) → K (mk n σ) w') : Oper.wp P ⟨none, .store t x y, ty, pos, aft, g⟩ (mk n σ) w K Q :=
  o_stw H hi hx hy (by rw [hs, List.size_toArray, List.length_map, h2]) (by rw [List.all_toArray]; simp [Value.oneCell']) (by rw [List.size_toArray, List.length_map, h2, List.length_map, h1]) fun w' H' => h w' H'
theorem e_retA {fn : Func} {R : Ending → World → Prop} {tt : Tmp} {rt : TypeId} {b i k : Nat} {l : List UInt8} {T : TypeId} (hres : fn.results = #[.cell tt rt]) (H : Hp w0 w S L) (hi : L[i]? = some (.blk b (l.map V8) T)) (hv : ev n σ (.tmp tt) = .pointer (some ⟨b, 0, none⟩)) (hr : rowTy P rt = some k) (hk : l.length = k)
    (hR : R (.returned (.agg (l.map V8).toArray)) w) : bodyPost P fn R .ret (mk n σ) w :=
  e_retc hres H hi hv hr (by rw [List.length_map, hk]) hR
theorem r_mvV {v : Value} (hx : ev n σ x = v) : (execOp (ev n σ) ⟨some d, .move x, ty, pos, aft, g⟩).run P w = .ok (.value v) w := by rw [← hx]; exact r_mv
theorem r_asV {v : Value} (hx : ev n σ x = v) : (execOp (ev n σ) ⟨some d, .assign x, ty, pos, aft, g⟩).run P w = .ok (.value v) w := by rw [← hx]; exact r_as
/-- the array at a slice's head. -/
theorem r_ldSA {s : Sl} {b o k : Nat} (hs : s.ok w) (ha : s.a = some ⟨b, o, none⟩) (hx : ev n σ x = .pointer s.a) (ht : rowTy P t = some k) (hk0 : 0 < k) (hk : k ≤ s.len) :
    (execOp (ev n σ) ⟨some d, .load t x, ty, pos, aft, g⟩).run P w = .ok (.value (.agg ((s.l.take k).map V8).toArray)) w := by
  rw [ha] at hx
  have := r_ldsr (P := P) (w := w) (t := t) (d := d) (ty := ty) (pos := pos) (aft := aft) (g := g) (i := 0) hs.rd ha hx ht hk0 (by simp only [List.length_map]; have := hs.ln; omega)
  rwa [List.drop_zero, ← List.map_take] at this
theorem r_ldSE {s : Sl} {b o k : Nat} (hs : s.ok w) (ha : s.a = some ⟨b, o, none⟩) (hx : ev n σ x = .pointer s.a) (ht : rowTy P t = some k) (hk0 : 0 < k) (hk : s.len = k) :
    (execOp (ev n σ) ⟨some d, .load t x, ty, pos, aft, g⟩).run P w = .ok (.value (.agg (s.l.map V8).toArray)) w := by
  have := r_ldSA (P := P) (w := w) (t := t) (d := d) (ty := ty) (pos := pos) (aft := aft) (g := g) hs ha hx ht hk0 (Nat.le_of_eq hk.symm)
  rwa [List.take_of_length_le (by have := hs.ln; omega)] at this
/-- an array or struct literal. -/
theorem r_bld' {parts : Array (Nat × Operand)} {zs : Array Value} {places : Nat → Option (Nat × Nat)} {pv : List (Nat × Value)} {cells : Array Value} (hB : Bld P t zs places)
    (hp0 : pvs n σ parts.toList = pv) (hf : Instr.fill places zs pv = some cells) :
    (execOp (ev n σ) ⟨some d, .build t parts, ty, pos, aft, g⟩).run P w = .ok (.value (.agg cells)) w := by
  have hp : (parts.map fun (i, x) => (i, ev n σ x)).toList = pv := by rw [← hp0, pvs_eq, Array.toList_map]
  have := run_build (P := P) w t (parts.map fun (i, x) => (i, ev n σ x)) cells (by rw [hp, hB.eq]; exact hf)
  simp only [execOp, Sem.run_bind, this]
  simp
/-- an array as a slice: its first h bytes, room for m. -/
theorem r_slA {lo hi mx : Option Operand} {b len sz h m : Nat} {lv hv mv : Option Value} (hx : ev n σ x = .pointer (some ⟨b, 0, none⟩)) (ht : arrOf P t = some (len, sz))
    (hl : lo.map (ev n σ) = lv) (hh : hi.map (ev n σ) = hv) (hm : mx.map (ev n σ) = mv) (hb : ∀ w, (Instr.sliceBounds false len len lv hv mv).run P w = .ok (0, h, m) w) :
    (execOp (ev n σ) ⟨some d, .slice t x lo hi mx, ty, pos, aft, g⟩).run P w = .ok (.value (.slice (some ⟨b, 0, none⟩) h m)) w := by
  have := r_sla (P := P) (w := w) (d := d) (ty := ty) (pos := pos) (aft := aft) (g := g) hx ht hl hh hm hb
  rwa [sa_zero, Nat.sub_zero, Nat.sub_zero] at this
def Sl.cut (s : Sl) (l h m : Nat) : Sl := ⟨sa s.a l m 1, h - l, m - l, (s.l.drop l).take (h - l)⟩
theorem Sl.ok.cut {s : Sl} (hs : s.ok w) {l h m : Nat} (h1 : l ≤ h) (h2 : h ≤ s.len) (h3 : h ≤ m) (_h4 : m ≤ s.cap) : (s.cut l h m).ok w := by
  refine ⟨?_, ?_, by simp only [Sl.cut]; omega, by have := hs.mx; simp only [Sl.cut]; omega⟩
  · unfold Sl.cut
    simp only
    by_cases hml : m = l
    · have : (s.l.drop l).take (h - l) = [] := by rw [show h - l = 0 by omega, List.take_zero]
      rw [this]; exact .inl rfl
    · have e : sa s.a l m 1 = s.a.map (·.add (l * 1)) := by unfold sa; rw [if_neg hml]
      rw [e, Nat.mul_one, List.map_take, List.map_drop]
      exact (hs.rd.drop l).take _
  · have := hs.ln
    simp only [Sl.cut, List.length_take, List.length_drop]; omega
theorem r_slS {lo hi mx : Option Operand} {s : Sl} (l h m : Nat) {lv hv mv : Option Value} (hx : ev n σ x = s.v) (ht : eltOf P t = some 1)
    (hl : lo.map (ev n σ) = lv) (hh : hi.map (ev n σ) = hv) (hm : mx.map (ev n σ) = mv) (hb : ∀ w, (Instr.sliceBounds true s.len s.cap lv hv mv).run P w = .ok (l, h, m) w) :
    (execOp (ev n σ) ⟨some d, .slice t x lo hi mx, ty, pos, aft, g⟩).run P w = .ok (.value (s.cut l h m).v) w :=
  r_sl (P := P) (w := w) (d := d) (ty := ty) (pos := pos) (aft := aft) (g := g) hx ht hl hh hm hb
/-- bounds, by numbers. -/
theorem sbn {s : Bool} {len cap : Nat} (w : World) : (Instr.sliceBounds s len cap none none none).run P w = .ok (0, len, cap) w := sb_n w
theorem sbl {s : Bool} {len cap : Nat} {k : IntKind} {i : Int} (l : Nat) (e : i = (l : Int)) (h1 : l ≤ len) (w : World) : (Instr.sliceBounds s len cap (some (.int k i)) none none).run P w = .ok (l, len, cap) w := by
  subst e; exact sb_l (by omega) (by omega) w
theorem sblh {s : Bool} {len cap : Nat} {k k' : IntKind} {i j : Int} (l h : Nat) (e : i = (l : Int)) (e' : j = (h : Int)) (h1 : l ≤ h) (h2 : h ≤ cap) (w : World) : (Instr.sliceBounds s len cap (some (.int k i)) (some (.int k' j)) none).run P w = .ok (l, h, cap) w := by
  subst e e'; exact sb_lh (by omega) (by omega) (by omega) w
theorem Hp.slOwn (H : Hp w0 w S L) {i : Nat} {a : Option Nat} {len cap : Nat} {l : List UInt8} {T : TypeId} (hi : L[i]? = some (.own a len cap (l.map V8) T 1)) : (⟨hd a, len, cap, l⟩ : Sl).ok w := by
  have h := H.has _ (List.mem_of_getElem? hi)
  refine ⟨Ch.rd_own h, ?_, ?_, ?_⟩
  · cases a with
    | none => obtain ⟨h1, h2, h3⟩ := h; simp only [List.map_eq_nil_iff] at h3; rw [h3, h1]; rfl
    | some b => obtain ⟨h1, _⟩ := h; simpa using h1
  · cases a with
    | none => obtain ⟨h1, h2, h3⟩ := h; simp only; omega
    | some b => exact h.2.1
  · cases a with
    | none => obtain ⟨h1, h2, h3⟩ := h; simp only; omega
    | some b => have := h.2.1; have := h.2.2.1; simp only [maxLen] at *; omega
theorem Hp.ownLen (H : Hp w0 w S L) {i : Nat} {a : Option Nat} {len cap : Nat} {xs : List Value} {T : TypeId} {sz : Nat} (hi : L[i]? = some (.own a len cap xs T sz)) : xs.length = len * sz ∧ len ≤ cap ∧ cap ≤ maxLen := by
  have h := H.has _ (List.mem_of_getElem? hi)
  cases a with
  | none => obtain ⟨rfl, rfl, rfl⟩ := h; simp [maxLen]
  | some b => exact ⟨h.1, h.2.1, h.2.2.1⟩
theorem Hp.ownAddr (H : Hp w0 w S L) {i : Nat} {a : Option Nat} {len cap : Nat} {xs : List Value} {T : TypeId} {sz : Nat} (hi : L[i]? = some (.own a len cap xs T sz)) (h0 : 0 < len) : ∃ b, hd a = some ⟨b, 0, none⟩ := by
  have h := H.has _ (List.mem_of_getElem? hi)
  cases a with
  | none => obtain ⟨h1, _⟩ := h; omega
  | some b => exact ⟨b, rfl⟩
theorem Hp.slBlkA (H : Hp w0 w S L) {i b : Nat} {l : List UInt8} {T : TypeId} (hi : L[i]? = some (.blk b (l.map V8) T)) (len : Nat) (h1 : l.length = len) (h3 : len ≤ 9223372036854775807) : (⟨some ⟨b, 0, none⟩, len, len, l⟩ : Sl).ok w :=
  ⟨Ch.rd_all (H.has _ (List.mem_of_getElem? hi)), h1, Nat.le_refl _, h3⟩
theorem Hp.nilEnd (H : Hp w0 w S L) (T : TypeId) (sz : Nat) : Hp w0 w S (L ++ [.own none 0 0 [] T sz]) :=
  (H.nilOwn T sz).perm (List.perm_append_singleton _ _).symm
/-- 'make' of bytes. -/
theorem o_makeB {e : TypeId} {kx ky : IntKind} {li ci : Int} (l : Nat) (H : Hp w0 w S L) (hT : SlTy P t e 1 1) (hz : zeroCells P e = some [V8 0]) (hx : ev n σ x = .int kx li) (hy : ev n σ y = .int ky ci)
    (hl : li = (l : Int)) (hc : ci = (l : Int)) (hm : l ≤ 281474976710656)
    (h : ∀ b w', Hp w0 w' S (L ++ [.own (some b) l l ((List.replicate l (0 : UInt8)).map V8) e 1]) → w0.heap.size ≤ b → K (mk n (up σ d (.slice (hd (some b)) l l))) w') :
    Oper.wp P ⟨some d, .makeSlice t x y, ty, pos, aft, g⟩ (mk n σ) w K Q := by
  have hmx : l ≤ maxLen := Nat.le_trans hm (by decide)
  refine o_make (l := l) (c := l) H hT hz hx hy hl hc (Nat.le_refl _) (by omega) hmx fun b w' H' hb => h b w' ?_ hb
  have := H'.toOwn (i := L.length) (len := l) (cap := l) (sz := 1) (b := b) (C := List.replicate l (V8 0)) (T := e) (by simp) (Nat.le_refl _) hmx (by simp)
  rw [List.set_append_right _ _ (Nat.le_refl _), Nat.sub_self] at this
  simpa using this
/-- .. with room only. -/
theorem o_makeB0 {e : TypeId} {kx ky : IntKind} {li ci : Int} (c : Nat) (H : Hp w0 w S L) (hT : SlTy P t e 1 1) (hz : zeroCells P e = some [V8 0]) (hx : ev n σ x = .int kx li) (hy : ev n σ y = .int ky ci)
    (hl : li = 0) (hc : ci = (c : Int)) (hm : c ≤ 281474976710656)
    (h : ∀ b w', Hp w0 w' S (L ++ [.own (some b) 0 c (([] : List UInt8).map V8) e 1]) → w0.heap.size ≤ b → K (mk n (up σ d (.slice (hd (some b)) 0 c))) w') :
    Oper.wp P ⟨some d, .makeSlice t x y, ty, pos, aft, g⟩ (mk n σ) w K Q := by
  have hmx : c ≤ maxLen := Nat.le_trans hm (by decide)
  refine o_make (l := 0) (c := c) H hT hz hx hy hl hc (Nat.zero_le _) (by omega) hmx fun b w' H' hb => h b w' ?_ hb
  have := H'.toOwn (i := L.length) (len := 0) (cap := c) (sz := 1) (b := b) (C := List.replicate c (V8 0)) (T := e) (by simp) (Nat.zero_le _) hmx (by simp)
  rw [List.set_append_right _ _ (Nat.le_refl _), Nat.sub_self] at this
  simpa using this
/-- a literal of bytes. -/
theorem o_bslB {e : TypeId} {len : Nat} {parts : Array (Nat × Operand)} (l : List UInt8) (H : Hp w0 w S L) (hT : SlTy P t e 1 1) (hz : zeroCells P e = some [V8 0])
    (hp : pvs n σ parts.toList = en 0 (l.map V8)) (hlen : l.length = len) (hm : len ≤ 16777216)
    (h : ∀ b w', Hp w0 w' S (L ++ [.own (some b) len len (l.map V8) e 1]) → w0.heap.size ≤ b → K (mk n (up σ d (.slice (hd (some b)) len len))) w') :
    Oper.wp P ⟨some d, .buildSlice t len parts, ty, pos, aft, g⟩ (mk n σ) w K Q := by
  refine o_bsl H hT hz (by decide) hp (by omega) (fills _ (l.map V8) len (by simp [Value.oneCell']) (by simpa using hlen)) fun b w' H' hb => h b w' ?_ hb
  have := H'.toOwn (i := L.length) (len := len) (cap := len) (sz := 1) (b := b) (C := l.map V8) (T := e) (by simp) (Nat.le_refl _) (Nat.le_trans hm (by decide)) (by simpa using hlen)
  rw [List.set_append_right _ _ (Nat.le_refl _), Nat.sub_self, List.take_of_length_le (by simp; omega)] at this
  simpa using this
/-- a literal of values of one cell. -/
theorem o_bslV {e : TypeId} {len bytes : Nat} {parts : Array (Nat × Operand)} {zv : Value} (vs : List Value) (H : Hp w0 w S L) (hT : SlTy P t e 1 bytes) (hz : zeroCells P e = some [zv])
    (hp : pvs n σ parts.toList = en 0 vs) (h1 : vs.all (·.oneCell') = true) (hlen : vs.length = len) (hm : len ≤ 16777216)
    (h : ∀ b w', Hp w0 w' S (L ++ [.own (some b) len len vs e 1]) → w0.heap.size ≤ b → K (mk n (up σ d (.slice (hd (some b)) len len))) w') :
    Oper.wp P ⟨some d, .buildSlice t len parts, ty, pos, aft, g⟩ (mk n σ) w K Q := by
  refine o_bsl H hT hz (by decide) hp (by omega) (fills _ vs len (by simpa using h1) hlen) fun b w' H' hb => h b w' ?_ hb
  have := H'.toOwn (i := L.length) (len := len) (cap := len) (sz := 1) (b := b) (C := vs) (T := e) (by simp) (Nat.le_refl _) (Nat.le_trans hm (by decide)) (by simpa using hlen)
  rw [List.set_append_right _ _ (Nat.le_refl _), Nat.sub_self, List.take_of_length_le (by omega)] at this
  simpa using this
/-- bytes behind bytes of one's own. -/
theorem o_appB {i : Nat} {a : Option Nat} {len cap len' : Nat} {l l' : List UInt8} {e e' : TypeId} {tx : TypeId} {s : Sl} (el : l ++ s.l = l') (en : len + s.len = len') (H : Hp w0 w S L) (hi : L[i]? = some (.own a len cap (l.map V8) e 1)) (hT : SlTy P t e 1 1) (hu : P.underlying tx = some (.slice e'))
    (hx : ev n σ x = .slice (hd a) len cap) (hy : ev n σ y = s.v) (hs : s.ok w) (hm : len' ≤ 140737488355328)
    (h : ∀ a' cap' w', Hp w0 w' S (L.set i (.own a' len' cap' (l'.map V8) e 1)) → K (mk n (up σ d (.slice (hd a') len' cap'))) w') :
    Oper.wp P ⟨some d, .call ⟨.builtin .append, #[x, y], #[t, tx]⟩, ty, pos, aft, g⟩ (mk n σ) w K Q := by
  subst el en
  refine o_app (m := s.len) (news := s.l.map V8) H hi hT hx hy (RdS.src hu hs.rd (by simp [hs.ln]) (by decide) (by simp [Value.oneCell'])) (by decide) (by omega) (by omega) fun a' cap' w' H' => h a' cap' w' ?_
  rw [List.map_append]; exact H'
/-- a byte stored into bytes of one's own. -/
theorem o_stB {b k i : Nat} {a : Option Nat} {len cap : Nat} {l : List UInt8} {T : TypeId} {u : UInt8} (H : Hp w0 w S L) (hi : L[i]? = some (.own a len cap (l.map V8) T 1)) (hx : ev n σ x = .pointer (some ⟨b, 0 + k * 1, none⟩)) (ha : hd a = some ⟨b, 0, none⟩)
    (hy : ev n σ y = V8 u) (hs : cellSz P t = some 1) (hk : k < len)
    (h : ∀ w', Hp w0 w' S (L.set i (.own a len cap ((l.set k u).map V8) T 1)) → K (mk n σ) w') : Oper.wp P ⟨none, .store t x y, ty, pos, aft, g⟩ (mk n σ) w K Q := by
  have hl := (H.ownLen hi).1
  refine o_sto H hi hx ha hy hs rfl (by omega) fun w' H' => h w' ?_
  rw [← List.map_set, Nat.mul_one, Nat.zero_add] at H'
  exact H'
/-- .. into an array. -/
theorem o_stAB {b k i : Nat} {l : List UInt8} {T : TypeId} {u : UInt8} (H : Hp w0 w S L) (hi : L[i]? = some (.blk b (l.map V8) T)) (hx : ev n σ x = .pointer (some ⟨b, 0 + k * 1, none⟩))
    (hy : ev n σ y = V8 u) (hs : cellSz P t = some 1) (hk : k < l.length)
    (h : ∀ w', Hp w0 w' S (L.set i (.blk b ((l.set k u).map V8) T)) → K (mk n σ) w') : Oper.wp P ⟨none, .store t x y, ty, pos, aft, g⟩ (mk n σ) w K Q := by
  refine o_st H hi hx hy hs rfl (by simpa using hk) fun w' H' => h w' ?_
  rw [← List.map_set, Nat.mul_one, Nat.zero_add] at H'
  exact H'
/-- 'copy' onto bytes of one's own. -/
theorem o_copyB {i : Nat} {a : Option Nat} {len cap : Nat} {l : List UInt8} {T e e' : TypeId} {s : Sl} {tx : TypeId} (H : Hp w0 w S L) (hi : L[i]? = some (.own a len cap (l.map V8) T 1)) (hu : P.underlying t = some (.slice e)) (hu' : P.underlying tx = some (.slice e')) (hs : cellSz P e = some 1)
    (hx : ev n σ x = .slice (hd a) len cap) (hy : ev n σ y = s.v) (hsok : s.ok w) (hpos : 0 < len)
    (h : ∀ w', Hp w0 w' S (L.set i (.own a len cap ((s.l.take (min s.len len) ++ l.drop (min s.len len)).map V8) T 1)) → K (mk n (up σ d (VI ((min s.len len : Nat) : Int)))) w') :
    Oper.wp P ⟨some d, .call ⟨.builtin .copy, #[x, y], #[t, tx]⟩, ty, pos, aft, g⟩ (mk n σ) w K Q := by
  cases a with
  | none => have := H.has _ (List.mem_of_getElem? hi); obtain ⟨h1, _⟩ := this; omega
  | some b =>
    obtain ⟨q1, q2, q3, rest, hw, q5⟩ := H.has _ (List.mem_of_getElem? hi)
    have hlt : i < L.length := (List.getElem?_eq_some_iff.1 hi).1
    have Hb : Hp w0 w S (L.set i (.blk b (l.map V8 ++ rest) T)) := H.conv hi rfl fun _ => hw
    have hll : l.length = len := by simpa using q1
    refine o_copy (o := 0) (vs := s.l.map V8) Hb (i := i) (by rw [List.getElem?_set_self hlt]) hu hu' hs (by decide) hx hy hsok.rd (by simp [hsok.ln]) (by simp [Value.oneCell']) (by simp; omega) fun w' H' => h w' ?_
    have e1 : (l.map V8 ++ rest).take 0 ++ (s.l.map V8).take (min s.len len * 1) ++ (l.map V8 ++ rest).drop (0 + min s.len len * 1) = (s.l.take (min s.len len) ++ l.drop (min s.len len)).map V8 ++ rest := by
      rw [List.take_zero, List.nil_append, Nat.mul_one, Nat.zero_add, List.drop_append_of_le_length (by simp; omega)]
      simp
    rw [e1, List.set_set] at H'
    have hln := hsok.ln
    have := H'.conv (i := i) (c := .blk b ((s.l.take (min s.len len) ++ l.drop (min s.len len)).map V8 ++ rest) T) (c' := .own (some b) len cap ((s.l.take (min s.len len) ++ l.drop (min s.len len)).map V8) T 1) (by rw [List.getElem?_set_self hlt]) rfl (fun hok => ⟨by simp; omega, q2, q3, rest, hok, by simp only [List.length_append, List.length_map, List.length_take, List.length_drop] at *; omega⟩)
    rwa [List.set_set] at this
theorem Sl.ok_nil (w : World) : (⟨none, 0, 0, []⟩ : Sl).ok w := ⟨.inl rfl, rfl, Nat.le_refl _, by decide⟩
theorem w_u64_N {a : Int} (k : Nat) (h : a = (k : Int)) : IntKind.u64.wrap a = ((UInt64.ofNat k).toNat : Int) := by
  subst h
  have := w_u64_i (a := (k : Int)) (by omega)
  rwa [Int.toNat_natCast] at this
theorem w_u8_N {a : Int} (k : Nat) (h : a = (k : Int)) : IntKind.u8.wrap a = ((UInt8.ofNat k).toNat : Int) := by
  subst h
  have := w_u8_i (a := (k : Int)) (by omega)
  rwa [Int.toNat_natCast] at this
theorem b_mul_u64N {t : TypeId} {a b : Nat} : (binOp .mul t (V64 (UInt64.ofNat a)) (V64 (UInt64.ofNat b))).run P w = .ok (V64 (UInt64.ofNat (a * b))) w := by
  rw [UInt64.ofNat_mul]; exact b_mul_u64
theorem b_add_u64N {t : TypeId} {a b : Nat} : (binOp .add t (V64 (UInt64.ofNat a)) (V64 (UInt64.ofNat b))).run P w = .ok (V64 (UInt64.ofNat (a + b))) w := by
  rw [UInt64.ofNat_add]; exact b_add_u64
theorem sh_N (m : Nat) (h : m < 64) : (((UInt64.ofNat m).toNat : Nat) : Int).toNat = m := by
  rw [UInt64.toNat_ofNat']; omega
theorem b_shr_u64N {x : UInt64} (m : Nat) (h : m < 64) : (Op.shift .shr .u64 (x.toNat : Int) .u64 ((UInt64.ofNat m).toNat : Int)).run P w = .ok (V64 (x >>> UInt64.ofNat m)) w := by
  have := b_shr_u64 (P := P) (w := w) (x := x) (yk := .u64) (c := ((UInt64.ofNat m).toNat : Int)) (by omega) (by rw [UInt64.toNat_ofNat']; omega)
  rwa [sh_N m h] at this
theorem b_shl_u64N {x : UInt64} (m : Nat) (h : m < 64) : (Op.shift .shl .u64 (x.toNat : Int) .u64 ((UInt64.ofNat m).toNat : Int)).run P w = .ok (V64 (x <<< UInt64.ofNat m)) w := by
  have := b_shl_u64 (P := P) (w := w) (x := x) (yk := .u64) (c := ((UInt64.ofNat m).toNat : Int)) (by omega) (by rw [UInt64.toNat_ofNat']; omega)
  rwa [sh_N m h] at this
theorem ba_loop (b : ByteArray) : ∀ (k i : Nat) (r : List UInt8), b.size - i = k → ByteArray.toList.loop b i r = r.reverse ++ b.data.toList.drop i := by
  intro k
  induction k with
  | zero =>
    intro i r h
    have hd : b.data.toList.drop i = [] := List.drop_of_length_le (by have : b.data.toList.length = b.size := rfl; omega)
    rw [ByteArray.toList.loop, if_neg (by omega), hd, List.append_nil]
  | succ k ih =>
    intro i r h
    have hlt : i < b.size := by omega
    have hl : i < b.data.toList.length := hlt
    rw [ByteArray.toList.loop, if_pos hlt, ih (i + 1) _ (by omega), List.drop_eq_getElem_cons hl]
    have : b.get! i = b.data.toList[i] := by
      show b.data[i]! = _
      rw [getElem!_pos b.data i hlt]; rfl
    rw [this]; simp
theorem ba_toList (l : List UInt8) : (⟨l.toArray⟩ : ByteArray).toList = l := by
  rw [ByteArray.toList, ba_loop _ _ 0 [] rfl]; simp
theorem beq_dec (a b : List UInt8) : (a == b) = decide (a = b) := by
  rw [Bool.eq_iff_iff]; simp
theorem run_streq {a b : List UInt8} (w : World) : (Op.stringOp .eql ⟨a.toArray⟩ ⟨b.toArray⟩).run P w = .ok (.bool (decide (a = b))) w := by
  rw [b_seql, ba_toList, ba_toList, beq_dec]
theorem r_streq {a b : List UInt8} (hx : ev n σ x = .string ⟨a.toArray⟩) (hy : ev n σ y = .string ⟨b.toArray⟩) :
    (execOp (ev n σ) ⟨some d, .binOp .eql t x y yt, ty, pos, aft, g⟩).run P w = .ok (.value (.bool (decide (a = b)))) w :=
  r_str hx hy (fun w => run_streq w) (by decide)
theorem r_strne {a b : List UInt8} (hx : ev n σ x = .string ⟨a.toArray⟩) (hy : ev n σ y = .string ⟨b.toArray⟩) :
    (execOp (ev n σ) ⟨some d, .binOp .neq t x y yt, ty, pos, aft, g⟩).run P w = .ok (.value (.bool (!decide (a = b)))) w :=
  r_str hx hy (fun w => by rw [b_sneq, ba_toList, ba_toList, beq_dec]) (by decide)
theorem r_b2S {s : Sl} {e : TypeId} (hs : P.underlying t = some (.slice e)) (he : P.underlying e = some (.int .u8)) (hd : P.underlying yt = some .string) (hx : ev n σ x = s.v) (hok : s.ok w) :
    (execOp (ev n σ) ⟨some d, .convert t yt x, ty, pos, aft, g⟩).run P w = .ok (.value (.string ⟨s.l.toArray⟩)) w :=
  r_b2s hs he hd hx hok.rd hok.ln
/-- bytes of a text. -/
theorem o_s2B {e : TypeId} {l : List UInt8} (H : Hp w0 w S L) (hs : P.underlying t = some .string) (hd : P.underlying yt = some (.slice e)) (he : P.underlying e = some (.int .u8)) (hx : ev n σ x = .string ⟨l.toArray⟩) (hm : l.length ≤ 1099511627776)
    (h : ∀ b cap ob w', Hp w0 w' S (L ++ [.obj b ob]) → w0.heap.size ≤ b → (∀ w'' : World, Ch.ok w'' (.obj b ob) → (⟨some ⟨b, 0, none⟩, l.length, cap, l⟩ : Sl).ok w'') → K (mk n (up σ d (.slice (some ⟨b, 0, none⟩) l.length cap))) w') :
    Oper.wp P ⟨some d, .convert t yt x, ty, pos, aft, g⟩ (mk n σ) w K Q := by
  refine o_s2b H hs hd he hx fun b cap ob w' H' hb hr hc => h b cap ob w' H' hb fun w'' hw => ⟨hr w'' hw, rfl, ?_, ?_⟩
  · exact hc
  · simp only; omega
end
def resF (tmps : Array Value) : ResultVar → Sem Value
  | .tmp t => pure (tmps.getD t undef)
  | .cell a t => do loadVar t (← asAddr (tmps.getD a undef))
def resOk (P : Program) (n : Nat) (σ : Nat → Value) (w : World) : List ResultVar → List Value → Prop
  | [], [] => True
  | .tmp t :: rs, v :: vs => ev n σ (.tmp t) = v ∧ resOk P n σ w rs vs
  | .cell a t :: rs, v :: vs => (∃ b C T k, ev n σ (.tmp a) = .pointer (some ⟨b, 0, none⟩) ∧ w.heap[b]? = some (.cells (List.toArray C) T (0, 0)) ∧ ((rowTy P t = some k ∧ C.length = k ∧ v = .agg C.toArray) ∨ (cellTy P t = true ∧ C[0]? = some v))) ∧ resOk P n σ w rs vs
  | _, _ => False
theorem run_resF {P : Program} {n : Nat} {σ : Nat → Value} {w : World} : ∀ (rs : List ResultVar) (vs : List Value) (acc : Array Value), resOk P n σ w rs vs →
    (rs.foldlM (fun acc r => do let v ← resF (mk n σ).tmps r; pure (acc.push v)) acc : Sem (Array Value)).run P w = .ok (acc ++ vs.toArray) w
  | [], [], acc, _ => by simp
  | .tmp t :: rs, v :: vs, acc, h => by
    have h1 : (mk n σ).tmps.getD t undef = v := by rw [mk_tmp]; exact h.1
    have e : (resF (mk n σ).tmps (.tmp t)).run P w = .ok v w := by simp [resF, h1]
    rw [List.foldlM_cons, Sem.run_bind, Sem.run_bind, e]
    simp only [Result.andThen_ok, Sem.run_pure]
    rw [run_resF rs vs _ h.2]
    congr 1
    simp
  | .cell a t :: rs, v :: vs, acc, h => by
    obtain ⟨⟨b, C, T, k, h1, h2, h3⟩, h4⟩ := h
    have e1 : (mk n σ).tmps.getD a undef = .pointer (some ⟨b, 0, none⟩) := by rw [mk_tmp]; exact h1
    have e2 : (loadVar t ⟨b, 0, none⟩).run P w = .ok v w := by
      rcases h3 with ⟨hr, hk, rfl⟩ | ⟨hc, hv⟩
      · have := run_loadAt_row (P := P) (t := t) (k := k) (o := 0) h2 hr (by omega)
        simp only [Instr.loadAt, Instr.sureAddr, Sem.run_bind, Sem.run_pure, Result.andThen_ok] at this
        rw [this, List.drop_zero, List.take_of_length_le (by omega)]
      · have := run_loadAt_cell (P := P) (t := t) (a := ⟨b, 0, none⟩) (v := v) (w := w) hc (by simp [World.cell?, h2, hv])
        simpa only [Instr.loadAt, Instr.sureAddr, Sem.run_bind, Sem.run_pure, Result.andThen_ok] using this
    have e : (resF (mk n σ).tmps (.cell a t)).run P w = .ok v w := by simp [resF, e1, asAddr, e2]
    rw [List.foldlM_cons, Sem.run_bind, Sem.run_bind, e]
    simp only [Result.andThen_ok, Sem.run_pure]
    rw [run_resF rs vs _ h4]
    congr 1
    simp
theorem e_retN {P : Program} {n : Nat} {σ : Nat → Value} {w : World} {fn : Func} {R : Ending → World → Prop} (rs : List ResultVar) (vs : List Value) (hres : fn.results = rs.toArray) (h1 : (vs.length == 1) = false) (hv : resOk P n σ w rs vs)
    (hR : R (.returned (.tuple vs.toArray)) w) : bodyPost P fn R .ret (mk n σ) w := by
  refine ⟨mk_defers n σ, .tuple vs.toArray, ?_, hR⟩
  have h2 := run_resF (P := P) (w := w) rs vs #[] hv
  have h3 : (fn.results.mapM (resF (mk n σ).tmps)).run P w = .ok vs.toArray w := by
    rw [hres, Array.mapM_eq_foldlM, List.foldlM_toArray]
    simpa using h2
  have h4 : results fn (mk n σ).tmps = (do let vs ← fn.results.mapM (resF (mk n σ).tmps); pure (if h : vs.size = 1 then vs[0] else .tuple vs)) := by
    unfold results
    congr 1
  rw [h4, Sem.run_bind, h3]
  have : ¬ vs.length = 1 := by simpa using h1
  simp [this]
theorem Hp.resA {P : Program} {n : Nat} {σ : Nat → Value} {w0 w : World} {S : List Nat} {L : List Ch} (H : Hp w0 w S L) {a t b i k : Nat} {l : List UInt8} {T : TypeId} {rs : List ResultVar} {vs : List Value} (hi : L[i]? = some (.blk b (l.map V8) T)) (hv : ev n σ (.tmp a) = .pointer (some ⟨b, 0, none⟩)) (hr : rowTy P t = some k) (hk : l.length = k)
    (h : resOk P n σ w rs vs) : resOk P n σ w (.cell a t :: rs) (.agg (l.map V8).toArray :: vs) :=
  ⟨⟨b, l.map V8, T, k, hv, H.blk hi, .inl ⟨hr, by rw [List.length_map, hk], rfl⟩⟩, h⟩
theorem Hp.resR {P : Program} {n : Nat} {σ : Nat → Value} {w0 w : World} {S : List Nat} {L : List Ch} (H : Hp w0 w S L) {a t b i k : Nat} {C : List Value} {T : TypeId} {rs : List ResultVar} {vs : List Value} (hi : L[i]? = some (.blk b C T)) (hv : ev n σ (.tmp a) = .pointer (some ⟨b, 0, none⟩)) (hr : rowTy P t = some k) (hk : C.length = k)
    (h : resOk P n σ w rs vs) : resOk P n σ w (.cell a t :: rs) (.agg C.toArray :: vs) :=
  ⟨⟨b, C, T, k, hv, H.blk hi, .inl ⟨hr, hk, rfl⟩⟩, h⟩
theorem resT {P : Program} {n : Nat} {σ : Nat → Value} {w : World} {t : Nat} {v : Value} {rs : List ResultVar} {vs : List Value} (hv : ev n σ (.tmp t) = v) (h : resOk P n σ w rs vs) : resOk P n σ w (.tmp t :: rs) (v :: vs) := ⟨hv, h⟩
theorem resZ {P : Program} {n : Nat} {σ : Nat → Value} {w : World} : resOk P n σ w [] [] := trivial
section
variable {P : Program} {Q : Exit → Act → World → Prop} {n : Nat} {σ : Nat → Value} {w : World} {c : Code} {ι κ ξ ο π : Type}
theorem c_loop2 (pat : ι → κ → List (Nat × Value)) (A : ι → κ → World → Prop) (μ : ι → κ → Nat) (i : ι) (k : κ) (hp : fits σ (pat i k)) (hA : A i k w)
    (h : ∀ i k τ w, A i k w → c.wp P (Exit.then (Rnd n (fun x : ι × κ => pat x.1 x.2) (fun x => A x.1 x.2) (fun x => μ x.1 x.2) (μ i k)) Q) (mk n (ups τ (pat i k))) w) : (Code.loop c).wp P Q (mk n σ) w :=
  c_loop (fun x : ι × κ => pat x.1 x.2) (fun x => A x.1 x.2) (fun x => μ x.1 x.2) (i, k) hp hA fun x τ w hA => h x.1 x.2 τ w hA
theorem c_loop3 (pat : ι → κ → ξ → List (Nat × Value)) (A : ι → κ → ξ → World → Prop) (μ : ι → κ → ξ → Nat) (i : ι) (k : κ) (x : ξ) (hp : fits σ (pat i k x)) (hA : A i k x w)
    (h : ∀ i k x τ w, A i k x w → c.wp P (Exit.then (Rnd n (fun y : ι × κ × ξ => pat y.1 y.2.1 y.2.2) (fun y => A y.1 y.2.1 y.2.2) (fun y => μ y.1 y.2.1 y.2.2) (μ i k x)) Q) (mk n (ups τ (pat i k x))) w) : (Code.loop c).wp P Q (mk n σ) w :=
  c_loop (fun y : ι × κ × ξ => pat y.1 y.2.1 y.2.2) (fun y => A y.1 y.2.1 y.2.2) (fun y => μ y.1 y.2.1 y.2.2) (i, k, x) hp hA fun y τ w hA => h y.1 y.2.1 y.2.2 τ w hA
theorem c_loop4 (pat : ι → κ → ξ → ο → List (Nat × Value)) (A : ι → κ → ξ → ο → World → Prop) (μ : ι → κ → ξ → ο → Nat) (i : ι) (k : κ) (x : ξ) (o : ο) (hp : fits σ (pat i k x o)) (hA : A i k x o w)
    (h : ∀ i k x o τ w, A i k x o w → c.wp P (Exit.then (Rnd n (fun y : ι × κ × ξ × ο => pat y.1 y.2.1 y.2.2.1 y.2.2.2) (fun y => A y.1 y.2.1 y.2.2.1 y.2.2.2) (fun y => μ y.1 y.2.1 y.2.2.1 y.2.2.2) (μ i k x o)) Q) (mk n (ups τ (pat i k x o))) w) : (Code.loop c).wp P Q (mk n σ) w :=
  c_loop (fun y : ι × κ × ξ × ο => pat y.1 y.2.1 y.2.2.1 y.2.2.2) (fun y => A y.1 y.2.1 y.2.2.1 y.2.2.2) (fun y => μ y.1 y.2.1 y.2.2.1 y.2.2.2) (i, k, x, o) hp hA fun y τ w hA => h y.1 y.2.1 y.2.2.1 y.2.2.2 τ w hA
theorem c_loop5 (pat : ι → κ → ξ → ο → π → List (Nat × Value)) (A : ι → κ → ξ → ο → π → World → Prop) (μ : ι → κ → ξ → ο → π → Nat) (i : ι) (k : κ) (x : ξ) (o : ο) (p : π) (hp : fits σ (pat i k x o p)) (hA : A i k x o p w)
    (h : ∀ i k x o p τ w, A i k x o p w → c.wp P (Exit.then (Rnd n (fun y : ι × κ × ξ × ο × π => pat y.1 y.2.1 y.2.2.1 y.2.2.2.1 y.2.2.2.2) (fun y => A y.1 y.2.1 y.2.2.1 y.2.2.2.1 y.2.2.2.2) (fun y => μ y.1 y.2.1 y.2.2.1 y.2.2.2.1 y.2.2.2.2) (μ i k x o p)) Q) (mk n (ups τ (pat i k x o p))) w) : (Code.loop c).wp P Q (mk n σ) w :=
  c_loop (fun y : ι × κ × ξ × ο × π => pat y.1 y.2.1 y.2.2.1 y.2.2.2.1 y.2.2.2.2) (fun y => A y.1 y.2.1 y.2.2.1 y.2.2.2.1 y.2.2.2.2) (fun y => μ y.1 y.2.1 y.2.2.1 y.2.2.2.1 y.2.2.2.2) (i, k, x, o, p) hp hA fun y τ w hA => h y.1 y.2.1 y.2.2.1 y.2.2.2.1 y.2.2.2.2 τ w hA
end
end Go.Proofs.YtiepekfcegdkoaaGreatDoor
namespace Go.Proofs.YtiepekfcegdkoaaGreatDoor
open Go
section
variable {P : Program} {Q : Exit → Act → World → Prop} {n : Nat} {σ : Nat → Value} {w w0 : World} {K : Act → World → Prop}
  {ty : TypeId} {pos : String} {aft : Array Edge} {g : Option (Nat × Bool)} {d : Nat} {t yt : TypeId} {x y z : Operand} {S : List Nat} {L : List Ch}
theorem o_stT {b i o k : Nat} {pre : List Value} {l l' : List UInt8} {T : TypeId} (H : Hp w0 w S L) (hi : L[i]? = some (.blk b (pre ++ l.map V8) T)) (hx : ev n σ x = .pointer (some ⟨b, o, none⟩)) (hy : ev n σ y = .agg (l'.map V8).toArray)
    (hs : cellSz P t = some k) (ho : pre.length = o) (hk : l.length = k) (hk' : l'.length = k)
    (h : ∀ w', Hp w0 w' S (L.set i (.blk b (pre ++ l'.map V8) T)) → K (mk n σ) w') : Oper.wp P ⟨none, .store t x y, ty, pos, aft, g⟩ (mk n σ) w K Q := by
  refine o_sr H hi hx hy (by rw [hs, List.size_toArray, List.length_map, hk']) (by rw [List.all_toArray]; simp [Value.oneCell']) (by simp; omega) fun w' H' => h w' ?_
  have e : (pre ++ l.map V8).take o ++ (l'.map V8).toArray.toList ++ (pre ++ l.map V8).drop (o + (l'.map V8).toArray.size) = pre ++ l'.map V8 := by
    rw [← ho, List.take_left, List.drop_of_length_le (by simp; omega), List.append_nil]
  rwa [e] at H'
/-- a whole struct stored. -/
theorem o_stW {b i k : Nat} {C C' : List Value} {T : TypeId} (H : Hp w0 w S L) (hi : L[i]? = some (.blk b C T)) (hx : ev n σ x = .pointer (some ⟨b, 0, none⟩)) (hy : ev n σ y = .agg C'.toArray)
    (hs : cellSz P t = some k) (h1 : C'.all (·.oneCell') = true) (hk : C.length = k) (hk' : C'.length = k)
    (h : ∀ w', Hp w0 w' S (L.set i (.blk b C' T)) → K (mk n σ) w') : Oper.wp P ⟨none, .store t x y, ty, pos, aft, g⟩ (mk n σ) w K Q :=
  o_stw H hi hx hy (by rw [hs, List.size_toArray, hk']) (by rw [List.all_toArray]; exact h1) (by rw [List.size_toArray, hk, hk']) fun w' H' => h w' H'
/-- slices of structs: what stands there. -/
structure Gl (α : Type) where
  a : Option Addr
  len : Nat
  cap : Nat
  l : List α
def Gl.v {α : Type} (s : Gl α) : Value := .slice s.a s.len s.cap
structure Gl.ok {α : Type} (enc : α → List Value) (sz : Nat) (s : Gl α) (w : World) : Prop where
  rd : RdS w s.a (s.l.flatMap enc)
  ln : s.l.length = s.len
  le : s.len ≤ s.cap
  mx : s.cap ≤ maxLen
  sz : ∀ c ∈ s.l, (enc c).length = sz
theorem Gl.ok.up {α : Type} {enc : α → List Value} {sz : Nat} {s : Gl α} (hs : s.ok enc sz w0) (H : Hp w0 w [] L) : s.ok enc sz w := ⟨H.rd hs.rd (apart_nil _), hs.ln, hs.le, hs.mx, hs.sz⟩
theorem flat_len {α : Type} {enc : α → List Value} {sz : Nat} : ∀ {l : List α}, (∀ c ∈ l, (enc c).length = sz) → (l.flatMap enc).length = l.length * sz
  | [], _ => by simp
  | c :: l, h => by
    rw [List.flatMap_cons, List.length_append, h c (by simp), flat_len (l := l) (fun c hc => h c (by simp [hc])), List.length_cons, Nat.succ_mul, Nat.add_comm]
theorem flat_at {α : Type} {enc : α → List Value} {sz : Nat} {c : α} : ∀ {l : List α} {k : Nat}, (∀ c ∈ l, (enc c).length = sz) → l[k]? = some c → ((l.flatMap enc).drop (k * sz)).take sz = enc c
  | [], k, _, h => by simp at h
  | b :: l, 0, hs, h => by
    simp at h; subst h
    have := hs b (by simp)
    rw [Nat.zero_mul, List.drop_zero, List.flatMap_cons, ← this, List.take_left]
  | b :: l, k + 1, hs, h => by
    have hb := hs b (by simp)
    rw [Nat.succ_mul, Nat.add_comm, List.flatMap_cons, ← List.drop_drop, ← hb, List.drop_left, hb]
    exact flat_at (fun c hc => hs c (by simp [hc])) (by simpa using h)
theorem Gl.ok.addr {α : Type} {enc : α → List Value} {sz : Nat} {s : Gl α} (h : s.ok enc sz w) (hz : 0 < sz) (hp : 0 < s.len) : ∃ b o, s.a = some ⟨b, o, none⟩ :=
  h.rd.addr (by rw [flat_len h.sz, h.ln]; exact Nat.mul_pos hp hz)
theorem r_ldRow {α : Type} {enc : α → List Value} {sz : Nat} {s : Gl α} {b o k : Nat} {c : α} (hs : s.ok enc sz w) (ha : s.a = some ⟨b, o, none⟩) (hx : ev n σ x = .pointer (some ⟨b, o + k * sz, none⟩)) (ht : rowTy P t = some sz) (hz : 0 < sz) (hk : s.l[k]? = some c) :
    (execOp (ev n σ) ⟨some d, .load t x, ty, pos, aft, g⟩).run P w = .ok (.value (.agg (enc c).toArray)) w := by
  have hlt : k < s.l.length := (List.getElem?_eq_some_iff.1 hk).1
  have := r_ldsr (P := P) (w := w) (t := t) (d := d) (ty := ty) (pos := pos) (aft := aft) (g := g) hs.rd ha hx ht hz (by
    rw [flat_len hs.sz]
    have : (k + 1) * sz ≤ s.l.length * sz := Nat.mul_le_mul_right _ hlt
    rw [Nat.succ_mul] at this; exact this)
  rwa [flat_at hs.sz hk] at this
/-- a field of a struct of a slice. -/
theorem r_ldFld {α : Type} {enc : α → List Value} {sz off : Nat} {s : Gl α} {b o k : Nat} {c : α} {v : Value} (hs : s.ok enc sz w) (ha : s.a = some ⟨b, o, none⟩) (hx : ev n σ x = .pointer (some ⟨b, o + k * sz + off, none⟩)) (ht : cellTy P t = true) (hk : s.l[k]? = some c) (hoff : off < sz) (hv : (enc c)[off]? = some v) :
    (execOp (ev n σ) ⟨some d, .load t x, ty, pos, aft, g⟩).run P w = .ok (.value v) w := by
  refine r_lds (i := k * sz + off) hs.rd ha (by rw [hx, Nat.add_assoc]) ht ?_
  have h := flat_at hs.sz hk
  rw [← h, List.getElem?_take_of_lt hoff, List.getElem?_drop] at hv
  exact hv
theorem Hp.glOwn {α : Type} {enc : α → List Value} (H : Hp w0 w S L) {i : Nat} {a : Option Nat} {len cap sz : Nat} {l : List α} {T : TypeId} (hi : L[i]? = some (.own a len cap (l.flatMap enc) T sz)) (hz : 0 < sz) (hs : ∀ c ∈ l, (enc c).length = sz) : (⟨hd a, len, cap, l⟩ : Gl α).ok enc sz w := by
  have h := H.ownLen hi
  refine ⟨H.own hi, ?_, h.2.1, h.2.2, hs⟩
  have h1 := h.1
  rw [flat_len hs] at h1
  exact Nat.eq_of_mul_eq_mul_right hz h1
/-- structs behind structs of one's own. -/
theorem o_appG {α : Type} {enc : α → List Value} {i : Nat} {a : Option Nat} {len cap len' sz bytes : Nat} {l l' : List α} {e e' : TypeId} {tx : TypeId} {s : Gl α} (el : l ++ s.l = l') (en : len + s.len = len') (H : Hp w0 w S L) (hi : L[i]? = some (.own a len cap (l.flatMap enc) e sz)) (hT : SlTy P t e sz bytes) (hu : P.underlying tx = some (.slice e'))
    (hx : ev n σ x = .slice (hd a) len cap) (hy : ev n σ y = s.v) (hs : s.ok enc sz w) (hz : 0 < sz) (h1 : ∀ c ∈ s.l, (enc c).all (·.oneCell') = true) (hm : len' ≤ 68719476736) (hb : bytes ≤ 2048)
    (h : ∀ a' cap' w', Hp w0 w' S (L.set i (.own a' len' cap' (l'.flatMap enc) e sz)) → K (mk n (up σ d (.slice (hd a') len' cap'))) w') :
    Oper.wp P ⟨some d, .call ⟨.builtin .append, #[x, y], #[t, tx]⟩, ty, pos, aft, g⟩ (mk n σ) w K Q := by
  subst el en
  have h1' : ∀ u ∈ s.l.flatMap enc, u.oneCell' = true := by
    intro u hu
    obtain ⟨c, hc, huc⟩ := List.mem_flatMap.1 hu
    exact List.all_eq_true.1 (h1 c hc) u huc
  refine o_app (m := s.len) (news := s.l.flatMap enc) H hi hT hx hy (RdS.src hu hs.rd (by rw [flat_len hs.sz, hs.ln]) hz h1') hz (by omega) (Nat.le_trans (Nat.mul_le_mul hm hb) (by decide)) fun a' cap' w' H' => h a' cap' w' ?_
  rw [List.flatMap_append]; exact H'
theorem fill_row (sz : Nat) (zs vs : List Value) (h1 : zs.length = sz) (h2 : vs.length = sz) : Instr.fill (fun i => some (i * sz, sz)) zs.toArray [(0, .agg vs.toArray)] = some vs.toArray := by
  have h : ∀ (vs done zs : List Value), zs.length = vs.length → (vs.zipIdx done.length).foldl (fun (acc : Array Value) (p : Value × Nat) => acc.setIfInBounds p.2 p.1) (done ++ zs).toArray = (done ++ vs).toArray := by
    intro vs
    induction vs with
    | nil => intro done zs hz; have : zs = [] := List.length_eq_zero_iff.1 (by simpa using hz); subst this; simp
    | cons v vs ih =>
      intro done zs hz
      cases zs with
      | nil => simp at hz
      | cons z zs =>
        have := ih (done ++ [v]) zs (by simpa using hz)
        simp only [List.length_append, List.length_singleton, List.append_assoc, List.singleton_append] at this
        rw [← this, List.zipIdx_cons, List.foldl_cons]
        congr 1
        simp []
  have := h vs [] zs (by omega)
  simp only [Instr.fill, Value.cells, Nat.zero_mul]
  rw [if_neg (by simp [h1, h2])]
  simpa [Nat.zero_add] using this
/-- a literal of one struct, or of none. -/
theorem o_bslG1 {α : Type} {enc : α → List Value} {e : TypeId} {sz bytes : Nat} {parts : Array (Nat × Operand)} {zs : List Value} (c : α) (H : Hp w0 w S L) (hT : SlTy P t e sz bytes) (hz : zeroCells P e = some zs) (_hzs : zs.length = sz) (h0 : 0 < sz) (hsm : sz ≤ 16777216)
    (hp : pvs n σ parts.toList = [(0, .agg (enc c).toArray)]) (hc : (enc c).length = sz)
    (h : ∀ b w', Hp w0 w' S (L ++ [.own (some b) 1 1 ([c].flatMap enc) e sz]) → w0.heap.size ≤ b → K (mk n (up σ d (.slice (hd (some b)) 1 1))) w') :
    Oper.wp P ⟨some d, .buildSlice t 1 parts, ty, pos, aft, g⟩ (mk n σ) w K Q := by
  refine o_bsl (cells := (enc c).toArray) H hT hz h0 hp (by omega) ?_ fun b w' H' hb => h b w' ?_ hb
  · have hzl : ((Array.range (1 * sz)).map (zs.toArray[· % zs.toArray.size]!)).toList.length = sz := by simp
    have := fill_row sz ((Array.range (1 * sz)).map (zs.toArray[· % zs.toArray.size]!)).toList (enc c) hzl hc
    rwa [Array.toArray_toList] at this
  · have := H'.toOwn (i := L.length) (len := 1) (cap := 1) (sz := sz) (b := b) (C := enc c) (T := e) (by simp) (Nat.le_refl _) (by decide) (by omega)
    rw [List.set_append_right _ _ (Nat.le_refl _), Nat.sub_self, List.take_of_length_le (by omega)] at this
    simpa using this
theorem o_bslG0 {α : Type} {enc : α → List Value} {e : TypeId} {sz bytes : Nat} {zs : List Value} (H : Hp w0 w S L) (hT : SlTy P t e sz bytes) (hz : zeroCells P e = some zs) (h0 : 0 < sz)
    (h : ∀ b w', Hp w0 w' S (L ++ [.own (some b) 0 0 (([] : List α).flatMap enc) e sz]) → w0.heap.size ≤ b → K (mk n (up σ d (.slice (hd (some b)) 0 0))) w') :
    Oper.wp P ⟨some d, .buildSlice t 0 #[], ty, pos, aft, g⟩ (mk n σ) w K Q := by
  refine o_bsl (pv := []) (cells := #[]) H hT hz h0 rfl (by omega) ?_ fun b w' H' hb => h b w' ?_ hb
  · simp [Instr.fill]
  · have := H'.toOwn (i := L.length) (len := 0) (cap := 0) (sz := sz) (b := b) (C := []) (T := e) (by simp) (Nat.le_refl _) (by decide) (by simp)
    rw [List.set_append_right _ _ (Nat.le_refl _), Nat.sub_self] at this
    simpa using this
/-- an array within a struct as a slice. -/
theorem r_slAo {lo hi mx : Option Operand} {b o len sz h m : Nat} {lv hv mv : Option Value} (hx : ev n σ x = .pointer (some ⟨b, o, none⟩)) (ht : arrOf P t = some (len, sz))
    (hl : lo.map (ev n σ) = lv) (hh : hi.map (ev n σ) = hv) (hm : mx.map (ev n σ) = mv) (hb : ∀ w, (Instr.sliceBounds false len len lv hv mv).run P w = .ok (0, h, m) w) :
    (execOp (ev n σ) ⟨some d, .slice t x lo hi mx, ty, pos, aft, g⟩).run P w = .ok (.value (.slice (some ⟨b, o, none⟩) h m)) w := by
  have := r_sla (P := P) (w := w) (d := d) (ty := ty) (pos := pos) (aft := aft) (g := g) hx ht hl hh hm hb
  rwa [sa_zero, Nat.sub_zero, Nat.sub_zero] at this
theorem Hp.slTail (H : Hp w0 w S L) {i b o k : Nat} {pre : List Value} {l : List UInt8} {T : TypeId} (hi : L[i]? = some (.blk b (pre ++ l.map V8) T)) (ho : pre.length = o) (hk : l.length = k) (hm : k ≤ 9223372036854775807) : (⟨some ⟨b, o, none⟩, k, k, l⟩ : Sl).ok w := by
  have h := Ch.rd_blk (H.has _ (List.mem_of_getElem? hi)) o
  rw [← ho, List.drop_left] at h
  rw [← ho]
  exact ⟨h, hk, Nat.le_refl _, hm⟩
theorem w_u64_I (a : Int) : IntKind.u64.wrap a = ((UInt64.ofInt a).toNat : Int) := by
  rw [wrap_u64]
  simp only [UInt64.ofInt, UInt64.toNat_ofNat']
  omega
theorem b_shr_i64 {yk : IntKind} {a c : Int} (h0 : 0 ≤ c) (h1 : c < 64) : (Op.shift .shr .i64 a yk c).run P w = .ok (VI (a / 2 ^ c.toNat)) w := by
  obtain ⟨m, rfl⟩ := Int.eq_ofNat_of_zero_le h0
  have hm : m < 64 := by omega
  have e3 : a.fdiv (2 ^ m) = a / 2 ^ m := by
    rw [Int.fdiv_eq_ediv_of_nonneg]; exact Int.le_of_lt (Int.pow_pos (by omega))
  have e2 : Op.shift .shr .i64 a yk (m : Int) = Sem.pure (.int .i64 (a.fdiv (2 ^ (min (m : Int).toNat 64)))) := by
    unfold Op.shift
    rw [if_neg (by omega)]; rfl
  rw [e2, Int.toNat_natCast, Nat.min_eq_left (Nat.le_of_lt hm), e3]; rfl
/-- a byte of a text. -/
theorem r_idxS {kk : IntKind} {i : Int} {l : List UInt8} (k : Nat) (hu : P.underlying t = some .string) (hx : ev n σ x = .string ⟨l.toArray⟩) (hy : ev n σ y = .int kk i) (hi : i = (k : Int)) (hk : k < l.length) :
    (execOp (ev n σ) ⟨some d, .index t x y, ty, pos, aft, g⟩).run P w = .ok (.value (V8 (l.getD k 0))) w := by
  subst hi
  exact r_idxs hu hx hy (by omega) (by simp [List.getD_eq_getElem?_getD, hk])
end
end Go.Proofs.YtiepekfcegdkoaaGreatDoor
namespace Go.Proofs.YtiepekfcegdkoaaGreatDoor
open Go
section
variable {P : Program} {Q : Exit → Act → World → Prop} {n : Nat} {σ : Nat → Value} {w : World} {ty : TypeId} {pos : String} {aft : Array Edge} {d : Nat} {Qs : Act → Prop}
theorem yielded_non (ops : Array Oper) (j d : Nat) (h : (ops[j]?).bind (·.dst) = some d) (hd : Nat.blt d n = true) (hv : σ d = undef) :
    yielded ops (mk n σ).tmps j = none := by
  have hd' : d < n := by rw [Nat.blt_eq] at hd; exact hd
  unfold yielded
  simp [h, mk, hd', hv, undef]
theorem l_non {ops : Array Oper} {rest : List Oper} {op : Op} {j e : Nat} {b : Bool}
    (he : (ops[j]?).bind (·.dst) = some e) (hb : Nat.blt e n = true) (hv : σ e = undef)
    (h : wpList P ops Q rest (mk n (up σ d undef)) w) : wpList P ops Q (⟨some d, op, ty, pos, aft, some (j, b)⟩ :: rest) (mk n σ) w := by
  have hw := yielded_non ops j e he hb hv
  unfold wpList
  rw [if_neg (by simp [Region.wanted, hw]), mk_put]
  exact h
end
end Go.Proofs.YtiepekfcegdkoaaGreatDoor
namespace Go.Proofs.YtiepekfcegdkoaaGreatDoor
open Go
section
variable {P : Program} {Q : Exit → Act → World → Prop} {n : Nat} {σ : Nat → Value} {w w0 : World} {K : Act → World → Prop}
  {ty : TypeId} {pos : String} {aft : Array Edge} {g : Option (Nat × Bool)} {d : Nat} {t yt : TypeId} {x y : Operand} {S : List Nat} {L : List Ch}
theorem b_xor_i64 {a b : Int} {t : TypeId} : (binOp .xor t (VI a) (VI b)).run P w = .ok (VI (IntKind.i64.wrap (((BitVec.ofInt 64 a ^^^ BitVec.ofInt 64 b).toNat : Nat) : Int))) w := by
  rfl
theorem all_tail {pre : List Value} {l : List UInt8} (h : pre.all (·.oneCell') = true) : (pre ++ l.map V8).all (·.oneCell') = true := by
  rw [List.all_append, h, Bool.true_and, List.all_eq_true]
  intro x hx
  obtain ⟨u, _, rfl⟩ := List.mem_map.1 hx
  rfl
theorem c_loop6 {α1 α2 α3 α4 α5 α6 : Type} {c : Code} (pat : α1 → α2 → α3 → α4 → α5 → α6 → List (Nat × Value)) (A : α1 → α2 → α3 → α4 → α5 → α6 → World → Prop) (μ : α1 → α2 → α3 → α4 → α5 → α6 → Nat) (i : α1) (k : α2) (x : α3) (o : α4) (p : α5) (q : α6) (hp : fits σ (pat i k x o p q)) (hA : A i k x o p q w)
    (h : ∀ i k x o p q τ w, A i k x o p q w → c.wp P (Exit.then (Rnd n (fun y : α1 × α2 × α3 × α4 × α5 × α6 => pat y.1 y.2.1 y.2.2.1 y.2.2.2.1 y.2.2.2.2.1 y.2.2.2.2.2) (fun y => A y.1 y.2.1 y.2.2.1 y.2.2.2.1 y.2.2.2.2.1 y.2.2.2.2.2) (fun y => μ y.1 y.2.1 y.2.2.1 y.2.2.2.1 y.2.2.2.2.1 y.2.2.2.2.2) (μ i k x o p q)) Q) (mk n (ups τ (pat i k x o p q))) w) : (Code.loop c).wp P Q (mk n σ) w :=
  c_loop (fun y : α1 × α2 × α3 × α4 × α5 × α6 => pat y.1 y.2.1 y.2.2.1 y.2.2.2.1 y.2.2.2.2.1 y.2.2.2.2.2) (fun y => A y.1 y.2.1 y.2.2.1 y.2.2.2.1 y.2.2.2.2.1 y.2.2.2.2.2) (fun y => μ y.1 y.2.1 y.2.2.1 y.2.2.2.1 y.2.2.2.2.1 y.2.2.2.2.2) (i, k, x, o, p, q) hp hA fun y τ w hA => h y.1 y.2.1 y.2.2.1 y.2.2.2.1 y.2.2.2.2.1 y.2.2.2.2.2 τ w hA
end
end Go.Proofs.YtiepekfcegdkoaaGreatDoor
namespace Go.Proofs.YtiepekfcegdkoaaGreatDoor
open Go
section
variable {P : Program} {Q : Exit → Act → World → Prop} {n : Nat} {σ : Nat → Value} {w : World} {ty : TypeId} {pos : String} {aft : Array Edge} {d : Nat}
variable {ops : Array Oper} {S' : World → Prop} {fuel : Nat} {listed : Array Bool} {oo : Op}
theorem t_non (i : Nat) {j e : Nat} {b : Bool} (hi : ops[i]? = some ⟨some d, oo, ty, pos, aft, some (j, b)⟩) (hs : Region.noSelect ops = true) (hf : Region.free .any ops listed i = true) (hr : (Region.ready .any ops listed).contains i = true)
    (hQ : ∀ c a w, Q (.panic c) (a.put (some d) undef) w → Q (.panic c) a w) (he : (ops[j]?).bind (·.dst) = some e) (hb : Nat.blt e n = true) (hv : σ e = undef) (hS : S' w)
    (h : wpAnyH P .any ops Q S' fuel (listed.setIfInBounds i true) (mk n (up σ d undef)) w) : wpAnyH P .any ops Q S' (fuel + 1) listed (mk n σ) w :=
  wpAnyH_take (v := undef) hi hs hf hr hQ (.inr ⟨by simp [Region.wanted, yielded_non ops j e he hb hv], rfl⟩) hS (by show wpAnyH P .any ops Q S' fuel _ ((mk n σ).put (some d) undef) w; rw [mk_put]; exact h)
end
end Go.Proofs.YtiepekfcegdkoaaGreatDoor
namespace Go.Proofs.YtiepekfcegdkoaaGreatDoor
open Go
section
variable {P : Program} {Q : Exit → Act → World → Prop} {n : Nat} {σ : Nat → Value} {w w0 : World} {K : Act → World → Prop}
  {ty : TypeId} {pos : String} {aft : Array Edge} {g : Option (Nat × Bool)} {d : Nat} {t yt : TypeId} {x y : Operand} {S : List Nat} {L : List Ch}
theorem fill_pre {places : Nat → Option (Nat × Nat)} {rest : List (Nat × Value)} : ∀ (pre A B : List Value), (∀ v ∈ pre, v.oneCell' = true) → pre.length ≤ B.length → (∀ i, A.length ≤ i → i < A.length + pre.length → places i = some (i, 1)) →
    Instr.fill places (A ++ B).toArray (en A.length pre ++ rest) = Instr.fill places (A ++ pre ++ B.drop pre.length).toArray rest
  | [], A, B, _, _, _ => by simp [en]
  | v :: pre, A, [], _, hl, _ => by simp at hl
  | v :: pre, A, b :: B, h1, hl, hp => by
    have hv := h1 v (by simp)
    have hc : v.cells = #[v] := by cases v <;> simp_all [Value.cells, Value.oneCell']
    have ih := fill_pre (rest := rest) pre (A ++ [v]) B (fun u hu => h1 u (by simp [hu])) (by simpa using hl) (fun i hi1 hi2 => hp i (by simp at hi1; omega) (by simp at hi2 ⊢; omega))
    simp only [List.length_append, List.length_singleton, List.append_assoc, List.singleton_append] at ih
    have hpl := hp A.length (Nat.le_refl _) (by simp)
    rw [en, List.cons_append, Instr.fill]
    simp only [hpl, hc]
    rw [if_neg (by simp)]
    have e : (#[v] : Array Value).zipIdx = #[(v, 0)] := by simp [Array.zipIdx]
    have e2 : (#[v] : Array Value).zipIdx.foldl (fun cs (p : Value × Nat) => cs.setIfInBounds (A.length + p.2) p.1) (A ++ b :: B).toArray = (A ++ v :: B).toArray := by
      rw [e]; simp []
    rw [e2, ih]
    simp
theorem fill_tail {places : Nat → Option (Nat × Nat)} {k m : Nat} (A B vs : List Value) (hp : places k = some (k, m)) (hA : A.length = k) (hB : B.length = m) (hv : vs.length = m) : Instr.fill places (A ++ B).toArray [(k, .agg vs.toArray)] = some (A ++ vs).toArray := by
  have h : ∀ (vs done zs : List Value), zs.length = vs.length → (vs.zipIdx done.length).foldl (fun (acc : Array Value) (p : Value × Nat) => acc.setIfInBounds (A.length + p.2) p.1) (A ++ done ++ zs).toArray = (A ++ done ++ vs).toArray := by
    intro vs
    induction vs with
    | nil => intro done zs hz; have : zs = [] := List.length_eq_zero_iff.1 (by simpa using hz); subst this; simp
    | cons v vs ih =>
      intro done zs hz
      cases zs with
      | nil => simp at hz
      | cons z zs =>
        have := ih (done ++ [v]) zs (by simpa using hz)
        simp only [List.length_append, List.length_singleton, List.append_assoc, List.singleton_append] at this
        rw [List.zipIdx_cons, List.foldl_cons]
        simp only [List.append_assoc]
        rw [← this]
        congr 1
        simp []
  have h2 := h vs [] B (by omega)
  have hn : ¬ (((Value.agg vs.toArray).cells.size ≠ m || k + (Value.agg vs.toArray).cells.size > (A ++ B).toArray.size) = true) := by simp [Value.cells, hA, hB, hv]
  simp only [Instr.fill, hp]
  rw [if_neg hn]
  simp only [List.append_nil, List.length_nil] at h2
  congr 1
  rw [← hA]
  simpa [Value.cells] using h2
/-- a struct literal, its last part an array of bytes. -/
theorem r_bldT {parts : Array (Nat × Operand)} {zs : Array Value} {places : Nat → Option (Nat × Nat)} {pv : List (Nat × Value)} {pre Z : List Value} {l : List UInt8} {m : Nat} (hB : Bld P t zs places)
    (hz : zs = (Z ++ List.replicate m (V8 0)).toArray) (hp0 : pvs n σ parts.toList = pv) (hpv : pv = en 0 pre ++ [(pre.length, .agg (l.map V8).toArray)]) (hlen : pre.length = Z.length) (h1 : pre.all (·.oneCell') = true)
    (hpl : (List.range pre.length).all (fun i => places i == some (i, 1)) = true) (hpt : places pre.length = some (pre.length, m)) (hl : l.length = m) :
    (execOp (ev n σ) ⟨some d, .build t parts, ty, pos, aft, g⟩).run P w = .ok (.value (.agg (pre ++ l.map V8).toArray)) w := by
  refine r_bld' hB hp0 ?_
  subst hz hpv
  have h := fill_pre (places := places) (rest := [(pre.length, .agg (l.map V8).toArray)]) pre [] (Z ++ List.replicate m (V8 0)) (fun v hv => List.all_eq_true.1 h1 v hv) (by simp [hlen]) (fun i _ hi => by
    have := List.all_eq_true.1 hpl i (by simpa using hi)
    simpa using this)
  simp only [List.nil_append, List.length_nil] at h
  rw [h]
  rw [List.drop_append_of_le_length (by omega), List.drop_of_length_le (by omega), List.nil_append]
  exact fill_tail pre _ _ hpt rfl (by simp) (by simpa using hl)
end
end Go.Proofs.YtiepekfcegdkoaaGreatDoor
namespace Go.Proofs.YtiepekfcegdkoaaGreatDoor
open Go
/-- 32 bytes. -/
abbrev Id32 := { l : List UInt8 // l.length = 32 }
section
variable {P : Program} {Q : Exit → Act → World → Prop} {n : Nat} {σ : Nat → Value} {w w0 : World} {K : Act → World → Prop}
  {ty : TypeId} {pos : String} {aft : Array Edge} {g : Option (Nat × Bool)} {d : Nat} {t e k' yt : TypeId} {x y : Operand} {S : List Nat} {L : List Ch}
end
end Go.Proofs.YtiepekfcegdkoaaGreatDoor
namespace Go.Proofs.YtiepekfcegdkoaaGreatDoor
open Go
def keys (L : List Ch) : List Nat := L.filterMap Ch.key
/-- chunks that stand in a world, no two of one block. -/
def Own (w : World) (L : List Ch) : Prop := (∀ c ∈ L, c.ok w) ∧ L.Pairwise fun c e => ∀ b, c.key = some b → e.key ≠ some b
theorem Hp.owns {w0 w : World} {S : List Nat} {L : List Ch} (h : Hp w0 w S L) : Own w L := ⟨h.has, h.nd⟩
theorem Own.sub {w : World} {L L' : List Ch} (h : Own w L) (hs : L'.Sublist L) : Own w L' := ⟨fun c hc => h.1 c (hs.subset hc), h.2.sublist hs⟩
theorem nd_symm {c e : Ch} (h : ∀ b, c.key = some b → e.key ≠ some b) : ∀ b, e.key = some b → c.key ≠ some b := fun b h1 h2 => h b h2 h1
theorem Hp.permL {w0 w : World} {S : List Nat} {L L' : List Ch} (h : Hp w0 w S L) (hp : L.Perm L') : Hp w0 w S L' :=
  ⟨h.os, h.tape, h.output, h.size, h.frame, fun c hc => h.has c (hp.mem_iff.2 hc), fun c hc => h.fresh c (hp.mem_iff.2 hc), h.nd.perm hp (fun h => nd_symm h)⟩
theorem perm_front {α : Type} {c : α} : ∀ {L : List α} {j : Nat}, L[j]? = some c → L.Perm (c :: L.eraseIdx j)
  | a :: L, 0, h => by cases h; exact .refl _
  | a :: L, j + 1, h => by
    have := perm_front (L := L) (j := j) h
    exact (List.Perm.cons a this).trans (.swap ..)
theorem mem_keys {L : List Ch} {b : Nat} : b ∈ keys L ↔ ∃ c ∈ L, c.key = some b := List.mem_filterMap
theorem Own.start {w : World} {L : List Ch} (h : Own w L) : Hp w w (keys L) L :=
  ⟨rfl, rfl, rfl, Nat.le_refl _, fun _ _ _ => rfl, h.1, fun c hc b hb => .inl (mem_keys.2 ⟨c, hc, hb⟩), h.2⟩
theorem Hp.callG {w0 w w' : World} {S : List Nat} {L L1 L1' Lr : List Ch} (h : Hp w0 w S L) (hL : L = L1 ++ Lr) (hc : Hp w w' (keys L1) L1') : Hp w0 w' S (Lr ++ L1') := by
  subst hL
  obtain ⟨n1, n2, n3⟩ := List.pairwise_append.1 h.nd
  have out : ∀ e ∈ Lr, ∀ b, e.key = some b → b < w.heap.size ∧ b ∉ keys L1 := fun e he b hb =>
    ⟨Ch.lt (h.has e (List.mem_append_right _ he)) hb, fun hm => by
      obtain ⟨c, hcm, hcb⟩ := mem_keys.1 hm
      exact n3 c hcm e he b hcb hb⟩
  refine ⟨hc.os.trans h.os, hc.tape.trans h.tape, hc.output.trans h.output, Nat.le_trans h.size hc.size, fun b hlt hn => ?_, fun c hcm => ?_, fun c hcm b hb => ?_, ?_⟩
  · have hk : b ∉ keys L1 := fun hm => by
      obtain ⟨c, hcm, hcb⟩ := mem_keys.1 hm
      rcases h.fresh c (List.mem_append_left _ hcm) b hcb with h1 | h1
      · exact hn h1
      · omega
    exact (hc.frame b (Nat.lt_of_lt_of_le hlt h.size) hk).trans (h.frame b hlt hn)
  · rcases List.mem_append.1 hcm with h1 | h1
    · exact Ch.ok_of (h.has c (List.mem_append_right _ h1)) fun b hb => hc.frame b (out c h1 b hb).1 (out c h1 b hb).2
    · exact hc.has c h1
  · rcases List.mem_append.1 hcm with h1 | h1
    · exact h.fresh c (List.mem_append_right _ h1) b hb
    · rcases hc.fresh c h1 b hb with h2 | h2
      · obtain ⟨e, hem, heb⟩ := mem_keys.1 h2
        exact h.fresh e (List.mem_append_left _ hem) b heb
      · exact .inr (Nat.le_trans h.size h2)
  · refine List.pairwise_append.2 ⟨n2, hc.nd, fun e he c hcm b hb hb2 => ?_⟩
    have ho := out e he b hb
    rcases hc.fresh c hcm b hb2 with h2 | h2
    · exact ho.2 h2
    · omega
theorem Hp.own1 {w0 w : World} {S : List Nat} {L L1 Lr : List Ch} (h : Hp w0 w S L) (hL : L = L1 ++ Lr) : Own w L1 := by
  subst hL; exact h.owns.sub (List.sublist_append_left ..)
theorem Hp.ownP {w0 w : World} {S : List Nat} {L LL L1 Lr : List Ch} (h : Hp w0 w S L) (hp : L.Perm LL) (hL : LL = L1 ++ Lr) : Own w L1 := (h.permL hp).own1 hL
theorem Hp.callP {w0 w w' : World} {S : List Nat} {L LL L1 L1' Lr L' : List Ch} (h : Hp w0 w S L) (hp : L.Perm LL) (hL : LL = L1 ++ Lr) (hc : Hp w w' (keys L1) L1') (hq : (Lr ++ L1').Perm L') : Hp w0 w' S L' :=
  ((h.permL hp).callG hL hc).permL hq
end Go.Proofs.YtiepekfcegdkoaaGreatDoor
namespace Go.Proofs.YtiepekfcegdkoaaGreatDoor
open Go
/-- C is A, then B at a of b cells, then D. -/
structure Cut3 (C A B D : List Value) (a b : Nat) : Prop where
  e : C = A ++ (B ++ D)
  ha : A.length = a
  hb : B.length = b
section
variable {C A B D V : List Value} {a b : Nat}
theorem Cut3.get {v : Value} (h : Cut3 C A [v] D a 1) : C[a]? = some v := by
  rw [h.e, ← h.ha, List.getElem?_append_right (Nat.le_refl _), Nat.sub_self]; rfl
theorem Cut3.seg (h : Cut3 C A B D a b) : (C.drop a).take b = B := by
  rw [h.e, ← h.ha, ← h.hb, List.drop_left, List.take_left]
theorem Cut3.le (h : Cut3 C A B D a b) : a + b ≤ C.length := by
  rw [h.e, List.length_append, List.length_append, h.ha, h.hb]; omega
theorem Cut3.put (h : Cut3 C A B D a b) : C.take a ++ V ++ C.drop (a + b) = A ++ (V ++ D) := by
  rw [h.e, ← h.ha, ← h.hb, List.take_left, ← List.drop_drop, List.drop_left, List.drop_left, List.append_assoc]
theorem Cut3.set1 {v u : Value} (h : Cut3 C A [v] D a 1) : C.set a u = A ++ ([u] ++ D) := by
  rw [h.e, ← h.ha, List.set_append_right _ _ (Nat.le_refl _), Nat.sub_self]; rfl
theorem fill_step {places : Nat → Option (Nat × Nat)} {k : Nat} {v : Value} {rest : List (Nat × Value)} (hp : places k = some (a, b)) (h : Cut3 C A B D a b) (hv : v.cells.toList = V) (hl : V.length = b) :
    Instr.fill places C.toArray ((k, v) :: rest) = Instr.fill places (A ++ (V ++ D)).toArray rest := by
  have hs : v.cells.size = b := by rw [← hl, ← hv, Array.length_toList]
  have hn : ¬ ((v.cells.size ≠ b || a + v.cells.size > C.toArray.size) = true) := by
    have := h.le
    simp [hs]; omega
  have h2 : ∀ (vs done zs : List Value), zs.length = vs.length → (vs.zipIdx done.length).foldl (fun (acc : Array Value) (p : Value × Nat) => acc.setIfInBounds (A.length + p.2) p.1) (A ++ done ++ zs ++ D).toArray = (A ++ done ++ vs ++ D).toArray := by
    intro vs
    induction vs with
    | nil => intro done zs hz; have : zs = [] := List.length_eq_zero_iff.1 (by simpa using hz); subst this; simp
    | cons v vs ih =>
      intro done zs hz
      cases zs with
      | nil => simp at hz
      | cons z zs =>
        have := ih (done ++ [v]) zs (by simpa using hz)
        simp only [List.length_append, List.length_singleton, List.append_assoc, List.cons_append, List.nil_append] at this
        rw [List.zipIdx_cons, List.foldl_cons]
        simp only [List.append_assoc, List.cons_append]
        rw [← this]
        congr 1
        simp []
  have h3 := h2 V [] B (by rw [hl, h.hb])
  simp only [Instr.fill, hp]
  rw [if_neg hn]
  simp only [List.append_nil, List.length_nil] at h3
  rw [h.ha] at h3
  have e1 : v.cells.zipIdx.foldl (fun (acc : Array Value) (p : Value × Nat) => acc.setIfInBounds (a + p.2) p.1) C.toArray = (A ++ (V ++ D)).toArray := by
    rw [h.e, ← List.append_assoc, ← List.append_assoc, ← h3]
    have : v.cells.zipIdx = (V.zipIdx 0).toArray := by rw [← hv]; simp [← Array.toList_inj]
    rw [this]; simp
  first | exact congrArg (fun z => Instr.fill places z rest) e1 | (rw [← e1])
inductive Fills (places : Nat → Option (Nat × Nat)) : List Value → List (Nat × Value) → List Value → Prop
  | nil (C : List Value) : Fills places C [] C
  | cons {C A B D V E : List Value} {a b k : Nat} {v : Value} {rest : List (Nat × Value)} : places k = some (a, b) → Cut3 C A B D a b → v.cells.toList = V → V.length = b → Fills places (A ++ (V ++ D)) rest E → Fills places C ((k, v) :: rest) E
theorem Fills.run {places : Nat → Option (Nat × Nat)} {C E : List Value} {pv : List (Nat × Value)} (h : Fills places C pv E) : Instr.fill places C.toArray pv = some E.toArray := by
  induction h with
  | nil C => rfl
  | cons hp hc hv hl _ ih => rw [fill_step hp hc hv hl, ih]
end
section
variable {P : Program} {Q : Exit → Act → World → Prop} {n : Nat} {σ : Nat → Value} {w w0 : World} {K : Act → World → Prop}
  {ty : TypeId} {pos : String} {aft : Array Edge} {g : Option (Nat × Bool)} {d : Nat} {t : TypeId} {x y : Operand} {S : List Nat} {L : List Ch} {C A B D : List Value} {a k : Nat}
theorem r_bldG {parts : Array (Nat × Operand)} {zs : Array Value} {places : Nat → Option (Nat × Nat)} {pv : List (Nat × Value)} {Z E : List Value} (hB : Bld P t zs places) (hz : zs = Z.toArray) (hp0 : pvs n σ parts.toList = pv) (hf : Fills places Z pv E) :
    (execOp (ev n σ) ⟨some d, .build t parts, ty, pos, aft, g⟩).run P w = .ok (.value (.agg E.toArray)) w :=
  r_bld' hB hp0 (by rw [hz]; exact hf.run)
/-- a part of a struct in memory. -/
theorem r_l1 {b i : Nat} {v : Value} {T : TypeId} (H : Hp w0 w S L) (hi : L[i]? = some (.blk b C T)) (hx : ev n σ x = .pointer (some ⟨b, a, none⟩)) (ht : cellTy P t = true) (h : Cut3 C A [v] D a 1) :
    (execOp (ev n σ) ⟨some d, .load t x, ty, pos, aft, g⟩).run P w = .ok (.value v) w := r_ld H hi hx ht h.get
theorem r_lk {b i : Nat} {T : TypeId} (H : Hp w0 w S L) (hi : L[i]? = some (.blk b C T)) (hx : ev n σ x = .pointer (some ⟨b, a, none⟩)) (ht : rowTy P t = some k) (h : Cut3 C A B D a k) :
    (execOp (ev n σ) ⟨some d, .load t x, ty, pos, aft, g⟩).run P w = .ok (.value (.agg B.toArray)) w := by
  rw [← h.seg]; exact r_ldr H hi hx ht h.le
theorem o_s1 {b i : Nat} {v u : Value} {T : TypeId} (H : Hp w0 w S L) (hi : L[i]? = some (.blk b C T)) (hx : ev n σ x = .pointer (some ⟨b, a, none⟩)) (hy : ev n σ y = u) (hs : cellSz P t = some 1) (h1 : u.oneCell' = true) (hc : Cut3 C A [v] D a 1)
    (h : ∀ w', Hp w0 w' S (L.set i (.blk b (A ++ ([u] ++ D)) T)) → K (mk n σ) w') : Oper.wp P ⟨none, .store t x y, ty, pos, aft, g⟩ (mk n σ) w K Q := by
  refine o_st H hi hx hy hs h1 (by have := hc.le; omega) fun w' H' => h w' ?_
  rwa [hc.set1] at H'
theorem o_sk {b i : Nat} {V : List Value} {T : TypeId} (H : Hp w0 w S L) (hi : L[i]? = some (.blk b C T)) (hx : ev n σ x = .pointer (some ⟨b, a, none⟩)) (hy : ev n σ y = .agg V.toArray) (hs : cellSz P t = some k) (h1 : V.all (·.oneCell') = true) (hV : V.length = k) (hc : Cut3 C A B D a k)
    (h : ∀ w', Hp w0 w' S (L.set i (.blk b (A ++ (V ++ D)) T)) → K (mk n σ) w') : Oper.wp P ⟨none, .store t x y, ty, pos, aft, g⟩ (mk n σ) w K Q := by
  refine o_sr H hi hx hy (by rw [hs, List.size_toArray, hV]) (by rw [List.all_toArray]; exact h1) (by rw [List.size_toArray, hV]; exact hc.le) fun w' H' => h w' ?_
  rw [List.size_toArray, hV, hc.put] at H'
  exact H'
end
end Go.Proofs.YtiepekfcegdkoaaGreatDoor
namespace Go.Proofs.YtiepekfcegdkoaaGreatDoor
open Go Go.MapKept
section
variable {P : Program} {Q : Exit → Act → World → Prop} {n : Nat} {σ : Nat → Value} {w w0 : World} {K : Act → World → Prop}
  {ty : TypeId} {pos : String} {aft : Array Edge} {g : Option (Nat × Bool)} {d : Nat} {t kt et : TypeId} {x y : Operand} {S : List Nat} {L : List Ch}
/-- a slice compared with nil. -/
theorem r_slnil {a : Option Addr} {l c : Nat} {e yt : TypeId} (hu : P.underlying t = some (.slice e)) (_hg : P.eqGuardType P.depth t = false) (hx : ev n σ x = .slice a l c) (hy : ev n σ y = .slice none 0 0) :
    (execOp (ev n σ) ⟨some d, .binOp .eql t x y yt, ty, pos, aft, g⟩).run P w = .ok (.value (.bool a.isNone)) w := by
  have e3 : (eqGuard .eql t x y (.slice a l c) (.slice none 0 0)).run P w = .ok () w := by simp [eqGuard]
  have e4 : (binOp .eql t (.slice a l c) (.slice none 0 0)).run P w = .ok (.bool a.isNone) w := by
    simp [binOp, run_equal_slice_nil w t e a l c hu]
  simp [execOp, hx, hy, e3, e4]
end
end Go.Proofs.YtiepekfcegdkoaaGreatDoor
namespace Go.Proofs.YtiepekfcegdkoaaGreatDoor
open Go
theorem Hp.slMid {w0 w : World} {S : List Nat} {L : List Ch} (H : Hp w0 w S L) {i b o k : Nat} {C A D : List Value} {l : List UInt8} {T : TypeId} (hi : L[i]? = some (.blk b C T)) (hc : Cut3 C A (l.map V8) D o k) (hm : k ≤ 9223372036854775807) : (⟨some ⟨b, o, none⟩, k, k, l⟩ : Sl).ok w := by
  have h := (Ch.rd_blk (H.has _ (List.mem_of_getElem? hi)) o).take k
  have e : (C.drop o).take k = l.map V8 := by rw [hc.e, ← hc.ha, List.drop_left, ← hc.hb, List.take_left]
  rw [e] at h
  exact ⟨h, by have := hc.hb; simpa using this, Nat.le_refl _, hm⟩
end Go.Proofs.YtiepekfcegdkoaaGreatDoor
namespace Go.Proofs.YtiepekfcegdkoaaGreatDoor
open Go
/-- C and C' are the same but for a part at a of n cells: B, and V. -/
structure Put3 (C C' B V : List Value) (a n : Nat) : Prop where
  ex : ∃ A D, C = A ++ (B ++ D) ∧ C' = A ++ (V ++ D) ∧ A.length = a ∧ B.length = n ∧ V.length = n
theorem Cut3.comp {C A B D A' B' D' : List Value} {a n a' n' : Nat} (h : Cut3 C A B D a n) (h' : Cut3 B A' B' D' a' n') : Cut3 C (A ++ A') B' (D' ++ D) (a + a') n' :=
  ⟨by rw [h.e, h'.e]; simp only [List.append_assoc], by rw [List.length_append, h.ha, h'.ha], h'.hb⟩
theorem Put3.of {C C' A B D V : List Value} {a n : Nat} (h : Cut3 C A B D a n) (h' : C' = A ++ (V ++ D)) (hv : V.length = n) : Put3 C C' B V a n := ⟨A, D, h.e, h', h.ha, h.hb, hv⟩
theorem Fills.consP {places : Nat → Option (Nat × Nat)} {C C' B V E : List Value} {a n k : Nat} {v : Value} {rest : List (Nat × Value)} (hp : places k = some (a, n)) (h : Put3 C C' B V a n) (hv : v.cells.toList = V) (hr : Fills places C' rest E) : Fills places C ((k, v) :: rest) E := by
  obtain ⟨A, D, e1, e2, l1, l2, l3⟩ := h.ex
  exact .cons hp ⟨e1, l1, l2⟩ hv l3 (e2 ▸ hr)
section
variable {P : Program} {Q : Exit → Act → World → Prop} {n : Nat} {σ : Nat → Value} {w w0 : World} {K : Act → World → Prop}
  {ty : TypeId} {pos : String} {aft : Array Edge} {g : Option (Nat × Bool)} {d : Nat} {t : TypeId} {x y : Operand} {S : List Nat} {L : List Ch} {C C' B V : List Value} {a k : Nat}
theorem o_s1P {b i : Nat} {v u : Value} {T : TypeId} (H : Hp w0 w S L) (hi : L[i]? = some (.blk b C T)) (hx : ev n σ x = .pointer (some ⟨b, a, none⟩)) (hy : ev n σ y = u) (hs : cellSz P t = some 1) (h1 : u.oneCell' = true) (hp : Put3 C C' [v] [u] a 1)
    (h : ∀ w', Hp w0 w' S (L.set i (.blk b C' T)) → K (mk n σ) w') : Oper.wp P ⟨none, .store t x y, ty, pos, aft, g⟩ (mk n σ) w K Q := by
  obtain ⟨A, D, e1, e2, l1, l2, _⟩ := hp.ex
  exact o_s1 H hi hx hy hs h1 ⟨e1, l1, l2⟩ fun w' H' => h w' (by rw [e2]; exact H')
theorem o_skP {b i : Nat} {T : TypeId} (H : Hp w0 w S L) (hi : L[i]? = some (.blk b C T)) (hx : ev n σ x = .pointer (some ⟨b, a, none⟩)) (hy : ev n σ y = .agg V.toArray) (hs : cellSz P t = some k) (h1 : V.all (·.oneCell') = true) (hp : Put3 C C' B V a k)
    (h : ∀ w', Hp w0 w' S (L.set i (.blk b C' T)) → K (mk n σ) w') : Oper.wp P ⟨none, .store t x y, ty, pos, aft, g⟩ (mk n σ) w K Q := by
  obtain ⟨A, D, e1, e2, l1, l2, l3⟩ := hp.ex
  exact o_sk H hi hx hy hs h1 l3 ⟨e1, l1, l2⟩ fun w' H' => h w' (by rw [e2]; exact H')
end
end Go.Proofs.YtiepekfcegdkoaaGreatDoor
namespace Go.Proofs.YtiepekfcegdkoaaGreatDoor
open Go
def W64 (x : UInt32) : Value := V64 x.toUInt64
def turnN (x : Nat) : Nat → Nat
  | 0 => x
  | i + 1 => turnN x i / 2 + turnN x i % 2 * 2147483648
theorem turnN_eq (x : Nat) : ∀ i, i ≤ 31 → turnN x i = x / 2 ^ i + (x % 2 ^ i) * 2 ^ (32 - i)
  | 0, _ => by simp [turnN, Nat.mod_one]
  | i + 1, h => by
    have ih := turnN_eq x i (by omega)
    have e1 : 2 ^ (32 - i) = 2 * 2 ^ (31 - i) := by
      rw [show 32 - i = (31 - i) + 1 by omega, Nat.pow_succ, Nat.mul_comm]
    have e2 : 2 ^ (32 - (i + 1)) = 2 ^ (31 - i) := by rw [show 32 - (i + 1) = 31 - i by omega]
    have e3 : x % 2 ^ (i + 1) = x % 2 ^ i + (x / 2 ^ i % 2) * 2 ^ i := by
      rw [Nat.pow_succ, Nat.mod_mul]; rw [Nat.mul_comm]
    have e4 : 2 ^ i * 2 ^ (31 - i) = 2147483648 := by
      rw [← Nat.pow_add, show i + (31 - i) = 31 by omega]
    have e5 : x / 2 ^ (i + 1) = x / 2 ^ i / 2 := by rw [Nat.pow_succ, Nat.div_div_eq_div_mul]
    rw [turnN, ih, e1, e2, e3, e5]
    generalize x / 2 ^ i = q at *
    generalize x % 2 ^ i = r at *
    generalize 2 ^ (31 - i) = p at *
    have e6 : r * (2 * p) = 2 * (r * p) := by rw [Nat.mul_left_comm]
    have e7 : (r + q % 2 * 2 ^ i) * p = r * p + q % 2 * 2147483648 := by
      rw [Nat.add_mul, Nat.mul_assoc, e4]
    rw [e6, e7]
    omega
theorem turnN_lt (x : Nat) (hx : x < 4294967296) : ∀ i, turnN x i < 4294967296
  | 0 => hx
  | i + 1 => by have := turnN_lt x hx i; rw [turnN]; omega
def turn64 (x : UInt64) : Nat → UInt64
  | 0 => x
  | i + 1 => turn64 x i / 2 + turn64 x i % 2 * 2147483648
theorem turn64_nat (x : UInt32) : ∀ i, (turn64 x.toUInt64 i).toNat = turnN x.toNat i
  | 0 => by simp [turn64, turnN]
  | i + 1 => by
    have ih := turn64_nat x i
    have hl := turnN_lt x.toNat x.toNat_lt i
    rw [turn64, turnN, UInt64.toNat_add, UInt64.toNat_mul, UInt64.toNat_div, UInt64.toNat_mod, ih]
    have e2 : (2 : UInt64).toNat = 2 := rfl
    have e3 : (2147483648 : UInt64).toNat = 2147483648 := rfl
    rw [e2, e3]
    omega
theorem rotl_nat (x : UInt32) (n : Nat) (h0 : 0 < n) (h : n < 32) : (rotl x (32 - n)).toNat = turnN x.toNat n := by
  rw [turnN_eq _ n (by omega), rotl, UInt32.toNat_or, UInt32.toNat_shiftLeft, UInt32.toNat_shiftRight]
  have e1 : (UInt32.ofNat (32 - n)).toNat % 32 = 32 - n := by rw [UInt32.toNat_ofNat']; omega
  have e2 : (UInt32.ofNat (32 - (32 - n))).toNat % 32 = n := by rw [UInt32.toNat_ofNat']; omega
  rw [e1, e2, Nat.shiftRight_eq_div_pow, Nat.shiftLeft_eq]
  have hx := x.toNat_lt
  have e3 : x.toNat * 2 ^ (32 - n) % 2 ^ 32 = (x.toNat % 2 ^ n) * 2 ^ (32 - n) := by
    have : 2 ^ 32 = 2 ^ n * 2 ^ (32 - n) := by rw [← Nat.pow_add]; congr 1; omega
    rw [this, Nat.mul_mod_mul_right]
  rw [e3, Nat.add_comm, ← Nat.shiftLeft_eq]
  refine (Nat.shiftLeft_add_eq_or_of_lt ?_ _).symm; have : 2 ^ 32 = 2 ^ (32 - n) * 2 ^ n := by rw [← Nat.pow_add]; congr 1; omega
  exact Nat.div_lt_of_lt_mul (by rw [Nat.mul_comm, ← this]; exact hx)
theorem turn64_eq (x : UInt32) (n : Nat) (h0 : 0 < n) (h : n < 32) : turn64 x.toUInt64 n = (rotl x (32 - n)).toUInt64 := by
  apply UInt64.toNat_inj.1
  rw [turn64_nat, UInt32.toNat_toUInt64, rotl_nat x n h0 h]
def down64 (x : UInt64) : Nat → UInt64
  | 0 => x
  | i + 1 => down64 x i / 2
theorem down64_nat (x : UInt64) : ∀ i, (down64 x i).toNat = x.toNat / 2 ^ i
  | 0 => by simp [down64]
  | i + 1 => by
    rw [down64, UInt64.toNat_div, down64_nat x i, Nat.pow_succ, Nat.div_div_eq_div_mul]; rfl
theorem down64_eq (x : UInt32) (n : Nat) (h : n < 32) : down64 x.toUInt64 n = (x >>> UInt32.ofNat n).toUInt64 := by
  apply UInt64.toNat_inj.1
  rw [down64_nat, UInt32.toNat_toUInt64, UInt32.toNat_toUInt64, UInt32.toNat_shiftRight, Nat.shiftRight_eq_div_pow]
  have e1 : (UInt32.ofNat n).toNat % 32 = n := by rw [UInt32.toNat_ofNat']; omega
  rw [e1]
theorem and_all (x : UInt64) : x &&& 4294967295 = x.toUInt32.toUInt64 := by
  apply UInt64.toNat_inj.1
  rw [UInt64.toNat_and, UInt32.toNat_toUInt64, UInt64.toNat_toUInt32]
  have : (4294967295 : UInt64).toNat = 2 ^ 32 - 1 := rfl
  rw [this, Nat.and_two_pow_sub_one_eq_mod]
section
variable {P : Program} {t : TypeId} {w : World}
theorem b_quo_u64 {x y : UInt64} (h : y.toNat ≠ 0) : (binOp .quo t (V64 x) (V64 y)).run P w = .ok (V64 (x / y)) w := by
  have hx := u64_lt x
  have h2 : (y.toNat : Int) ≠ 0 := by omega
  have e1 : (x.toNat : Int) / (y.toNat : Int) = ((x.toNat / y.toNat : Nat) : Int) := by simp
  have h3 := Nat.div_le_self x.toNat y.toNat
  have e : IntKind.u64.wrap ((x.toNat : Int) / (y.toNat : Int)) = ((x / y).toNat : Int) := by
    rw [wrap_u64, UInt64.toNat_div, e1]
    generalize x.toNat / y.toNat = q at h3
    omega
  simp [binOp, Op.intDiv, h, e, Int.tdiv_eq_ediv_of_nonneg (show (0 : Int) ≤ (x.toNat : Int) by omega)]
theorem b_rem_u64 {x y : UInt64} (h : y.toNat ≠ 0) : (binOp .rem t (V64 x) (V64 y)).run P w = .ok (V64 (x % y)) w := by
  have e := b_rem (P := P) (t := t) (w := w) (k := .u64) (a := (x.toNat : Int)) (b := (y.toNat : Int)) (by omega) (by omega)
  rw [show V64 (x % y) = .int .u64 ((x.toNat : Int) % (y.toNat : Int)) by rw [V64, UInt64.toNat_mod]; simp]
  exact e
end
end Go.Proofs.YtiepekfcegdkoaaGreatDoor
namespace Go.Proofs.YtiepekfcegdkoaaGreatDoor
open Go
set_option maxRecDepth 100000
theorem turn_ret (w : World) (x : UInt64) (n : Nat) (hn : n ≤ 64) : Ret Tryz.prog 144 [V64 x, VI n] w fun v w' => v = V64 (turn64 x n) ∧ w' = w := by
  refine ret_mk Tryz.func144 rfl Tryz.ntmps144 (by simp) ?_
  repeat refine c_seq ?_
  refine c_region ?_; refine l_op (o_as ?_); first | refine l_end ?_ | refine l_nil ?_
  repeat refine c_seq ?_
  refine c_region ?_; refine l_op (o_as ?_); first | refine l_end ?_ | refine l_nil ?_
  repeat refine c_seq ?_
  refine c_block ?_; refine c_loop (ι := Nat) (fun i => [(5, VI i), (0, V64 (turn64 x i)), (1, VI n)]) (fun i w' => i ≤ n ∧ w' = w) (fun i => n - i) 0 ⟨rfl, rfl, rfl, trivial⟩ ⟨by omega, rfl⟩ ?_; rintro i τ w' ⟨hi, hw⟩
  rw [hw]; clear hw w'
  repeat refine c_seq ?_
  refine c_region ?_; refine l_op (o_mv ?_); refine l_op (o_mv ?_); refine l_op (o_bin rfl rfl (fun _ => b_lss) ?_); first | refine l_end ?_ | refine l_nil ?_
  repeat refine c_seq ?_
  refine c_ifD rfl (fun hlt => ?_) (fun hlt => ?_)
  · have hlt' : i < n := by omega
    refine c_skip ?_; repeat refine c_seq ?_
    refine c_block ?_; repeat refine c_seq ?_
    refine c_region ?_; refine l_op (o_mv ?_); refine l_op (o_bin rfl (c64 2 (by decide)) (fun _ => b_quo_u64 (by decide)) ?_); refine l_op (o_mv ?_); refine l_op (o_bin rfl (c64 2 (by decide)) (fun _ => b_rem_u64 (by decide)) ?_); refine l_op (o_bin rfl (c64 2147483648 (by decide)) (fun _ => b_mul_u64) ?_); refine l_op (o_bin rfl rfl (fun _ => b_add_u64) ?_); refine l_op (o_as ?_); first | refine l_end ?_ | refine l_nil ?_
    repeat refine c_seq ?_
    refine c_region ?_; refine l_op (o_mv ?_); refine l_op (o_bin rfl rfl (fun _ => b_add (by omega) (by omega)) ?_); refine l_op (o_as ?_); first | refine l_end ?_ | refine l_nil ?_
    refine round_end (i + 1) ?_ ?_ ?_
    · exact ⟨rfl, rfl, rfl, trivial⟩
    · exact ⟨hlt', rfl⟩
    · show n - (i + 1) < n - i; omega
  · have hi' : i = n := by omega
    subst hi'
    refine c_exit ?_; repeat refine c_seq ?_
    refine c_region ?_; refine l_op (o_mv ?_); refine l_op (o_as ?_); first | refine l_end ?_ | refine l_nil ?_
    exact c_ret (e_ret1 Tryz.results144 rfl ⟨_, rfl, rfl, rfl⟩)
theorem down_ret (w : World) (x : UInt64) (n : Nat) (hn : n ≤ 64) : Ret Tryz.prog 145 [V64 x, VI n] w fun v w' => v = V64 (down64 x n) ∧ w' = w := by
  refine ret_mk Tryz.func145 rfl Tryz.ntmps145 (by simp) ?_
  repeat refine c_seq ?_
  refine c_region ?_; refine l_op (o_as ?_); first | refine l_end ?_ | refine l_nil ?_
  repeat refine c_seq ?_
  refine c_region ?_; refine l_op (o_as ?_); first | refine l_end ?_ | refine l_nil ?_
  repeat refine c_seq ?_
  refine c_block ?_; refine c_loop (ι := Nat) (fun i => [(5, VI i), (0, V64 (down64 x i)), (1, VI n)]) (fun i w' => i ≤ n ∧ w' = w) (fun i => n - i) 0 ⟨rfl, rfl, rfl, trivial⟩ ⟨by omega, rfl⟩ ?_; rintro i τ w' ⟨hi, hw⟩
  rw [hw]; clear hw w'
  repeat refine c_seq ?_
  refine c_region ?_; refine l_op (o_mv ?_); refine l_op (o_mv ?_); refine l_op (o_bin rfl rfl (fun _ => b_lss) ?_); first | refine l_end ?_ | refine l_nil ?_
  repeat refine c_seq ?_
  refine c_ifD rfl (fun hlt => ?_) (fun hlt => ?_)
  · have hlt' : i < n := by omega
    refine c_skip ?_; repeat refine c_seq ?_
    refine c_block ?_; repeat refine c_seq ?_
    refine c_region ?_; refine l_op (o_mv ?_); refine l_op (o_bin rfl (c64 2 (by decide)) (fun _ => b_quo_u64 (by decide)) ?_); refine l_op (o_as ?_); first | refine l_end ?_ | refine l_nil ?_
    repeat refine c_seq ?_
    refine c_region ?_; refine l_op (o_mv ?_); refine l_op (o_bin rfl rfl (fun _ => b_add (by omega) (by omega)) ?_); refine l_op (o_as ?_); first | refine l_end ?_ | refine l_nil ?_
    refine round_end (i + 1) ?_ ?_ ?_
    · exact ⟨rfl, rfl, rfl, trivial⟩
    · exact ⟨hlt', rfl⟩
    · show n - (i + 1) < n - i; omega
  · have hi' : i = n := by omega
    subst hi'
    refine c_exit ?_; repeat refine c_seq ?_
    refine c_region ?_; refine l_op (o_mv ?_); refine l_op (o_as ?_); first | refine l_end ?_ | refine l_nil ?_
    exact c_ret (e_ret1 Tryz.results145 rfl ⟨_, rfl, rfl, rfl⟩)
theorem keys_ret (w0 : World) : Ret Tryz.prog 112 [] w0 fun v w' => v = .agg (primeWords.map W64).toArray ∧ Hp w0 w' [] [] := by
  refine ret_mk Tryz.func112 rfl Tryz.ntmps112 (by simp) ?_
  have H := Hp.refl w0 []
  repeat refine c_seq ?_
  refine c_region ?_; refine l_op (o_alloc H zc169 (fun b0 w H hb0 => ?_)); first | refine l_end ?_ | refine l_nil ?_
  repeat refine c_seq ?_
  refine c_region ?_; refine l_op (o_bld' (cells := (primeWords.map W64).toArray) bd169 rfl (by kernel_rfl) ?_); refine l_op (o_stw H (i := 0) rfl rfl rfl (by rw [cs169]; rfl) (by kernel_rfl) (by rfl) (fun w H => ?_)); first | refine l_end ?_ | refine l_nil ?_
  refine c_ret (e_retc Tryz.results112 H (i := 0) rfl rfl rt169 (by rfl) ⟨_, rfl, rfl, ?_⟩); exact H.sub (List.nil_sublist _)
end Go.Proofs.YtiepekfcegdkoaaGreatDoor
namespace Go.Proofs.YtiepekfcegdkoaaGreatDoor
open Go
set_option maxRecDepth 100000
def padW (l : List UInt32) : List Value := l.map W64 ++ List.replicate (64 - l.length) (W64 0)
theorem padW_length (l : List UInt32) (h : l.length ≤ 64) : (padW l).length = 64 := by simp [padW]; omega
theorem padW_get (l : List UInt32) (j : Nat) (h : j < l.length) : (padW l)[j]? = some (W64 (l.getD j 0)) := by
  rw [padW, List.getElem?_append_left (by simpa using h)]
  simp [h]
theorem padW_set (l : List UInt32) (v : UInt32) (h : l.length < 64) : (padW l).set l.length (W64 v) = padW (l ++ [v]) := by
  unfold padW
  rw [List.set_append_right _ _ (by simp)]
  have : 64 - l.length = (64 - (l ++ [v]).length) + 1 := by simp; omega
  rw [this, List.replicate_succ]
  simp
theorem turnW_ret (w : World) (x : UInt32) (n : Nat) (h0 : 0 < n) (h : n < 32) : Ret Tryz.prog 144 [W64 x, VI n] w fun v w' => v = W64 (rotl x (32 - n)) ∧ w' = w :=
  (turn_ret w x.toUInt64 n (by omega)).mono fun v w' ⟨hv, hw⟩ => ⟨by rw [hv, turn64_eq x n h0 h]; rfl, hw⟩
theorem downW_ret (w : World) (x : UInt32) (n : Nat) (h : n < 32) : Ret Tryz.prog 145 [W64 x, VI n] w fun v w' => v = W64 (x >>> UInt32.ofNat n) ∧ w' = w :=
  (down_ret w x.toUInt64 n (by omega)).mono fun v w' ⟨hv, hw⟩ => ⟨by rw [hv, down64_eq x n h]; rfl, hw⟩
section
variable {P : Program} {t : TypeId} {w : World}
theorem b_xorW {x y : UInt32} : (binOp .xor t (W64 x) (W64 y)).run P w = .ok (W64 (x ^^^ y)) w := by
  have := b_xor_u64 (P := P) (t := t) (w := w) (x := x.toUInt64) (y := y.toUInt64)
  rw [W64, W64, this, W64, UInt32.toUInt64_xor]
theorem b_andW {x y : UInt32} : (binOp .and t (W64 x) (W64 y)).run P w = .ok (W64 (x &&& y)) w := by
  have := b_and_u64 (P := P) (t := t) (w := w) (x := x.toUInt64) (y := y.toUInt64)
  rw [W64, W64, this, W64, UInt32.toUInt64_and]
theorem b_notW {x : UInt32} : (binOp .sub t (V64 4294967295) (W64 x)).run P w = .ok (W64 (~~~ x)) w := by
  have := b_sub_u64 (P := P) (t := t) (w := w) (x := 4294967295) (y := x.toUInt64)
  have e : (4294967295 : UInt64) - x.toUInt64 = (~~~ x).toUInt64 := by
    apply UInt64.toNat_inj.1
    have hx := x.toNat_lt
    rw [UInt64.toNat_sub, UInt32.toNat_toUInt64, UInt32.toNat_toUInt64, UInt32.toNat_not]
    have : (4294967295 : UInt64).toNat = 4294967295 := rfl
    rw [this]
    have : UInt32.size = 4294967296 := rfl
    omega
  rw [W64, this, W64, e]
theorem b_maskW {u : UInt64} (x : UInt32) (h : u.toUInt32 = x) : (binOp .and t (V64 u) (V64 4294967295)).run P w = .ok (W64 x) w := by
  have := b_and_u64 (P := P) (t := t) (w := w) (x := u) (y := 4294967295)
  rw [this, and_all, h, W64]
end
theorem all_W64 (l : List UInt32) : (l.map W64).toArray.all (·.oneCell') = true := by
  rw [List.all_toArray]; simp [Value.oneCell', W64]
theorem red (x : UInt32) : x.toUInt64.toUInt32 = x := UInt32.toUInt32_toUInt64 x
attribute [local irreducible] rnds
set_option maxHeartbeats 4000000 in
theorem block_ret (w0 : World) (st : S8) (bs : List UInt8) : Ret Tryz.prog 113 [.agg (st.l.map W64).toArray, .agg (padW (firsts bs 16)).toArray, .agg (primeWords.map W64).toArray] w0 fun v w' => v = .agg ((comp st bs).l.map W64).toArray ∧ Hp w0 w' [] [] := by
  refine ret_mk Tryz.func113 rfl Tryz.ntmps113 (by simp) ?_
  have H := Hp.refl w0 []
  repeat refine c_seq ?_
  refine c_region ?_; refine l_op (o_box H rfl (fun b3 w H hb3 => ?_)); refine l_op (o_box H rfl (fun b4 w H hb4 => ?_)); refine l_op (o_box H rfl (fun b5 w H hb5 => ?_)); refine l_op (o_alloc H zc171 (fun b6 w H hb6 => ?_)); first | refine l_end ?_ | refine l_nil ?_
  replace H : Hp w0 w [] [.blk b3 (st.l.map W64) 171, .blk b4 (padW (sched bs 0)) 169, .blk b5 (primeWords.map W64) 169, .blk b6 (List.replicate 8 (Value.int .u64 0)) 171] := H
  repeat refine c_seq ?_
  refine c_region ?_; refine l_op (o_as ?_); first | refine l_end ?_ | refine l_nil ?_
  repeat refine c_seq ?_
  refine c_block ?_; refine c_loop (ι := Nat) (fun k => [(7, VI ((16 + k : Nat) : Int)), (3, .pointer (some ⟨b3, 0, none⟩)), (4, .pointer (some ⟨b4, 0, none⟩)), (5, .pointer (some ⟨b5, 0, none⟩)), (6, .pointer (some ⟨b6, 0, none⟩))])
    (fun k w => k ≤ 48 ∧ Hp w0 w [] [.blk b3 (st.l.map W64) 171, .blk b4 (padW (sched bs k)) 169, .blk b5 (primeWords.map W64) 169, .blk b6 (List.replicate 8 (Value.int .u64 0)) 171])
    (fun k => 48 - k) 0 ⟨rfl, rfl, rfl, rfl, rfl, trivial⟩ ⟨by omega, H⟩ ?_
  clear H
  rintro k τ w ⟨hk, H⟩
  have hsl := sched_length bs k
  repeat refine c_seq ?_
  refine c_region ?_; refine l_op (o_mv ?_); refine l_op (o_bin rfl rfl (fun _ => b_lss) ?_); first | refine l_end ?_ | refine l_nil ?_
  repeat refine c_seq ?_
  refine c_ifD rfl (fun hlt => ?_) (fun hlt => ?_)
  · have hlt' : k < 48 := by omega
    have hg : ∀ j, j < 16 + k → (padW (sched bs k))[j]? = some (W64 ((sched bs k).getD j 0)) := fun j hj => padW_get _ _ (by omega)
    have x0 : 0 + (((16 + k : Nat) : Int) - 16).toNat * 1 = 16 + k - 16 := by omega
    have x1 : 0 + (((16 + k : Nat) : Int) - 15).toNat * 1 = 16 + k - 15 := by omega
    have x2 : 0 + (((16 + k : Nat) : Int) - 2).toNat * 1 = 16 + k - 2 := by omega
    have x3 : 0 + (((16 + k : Nat) : Int) - 7).toNat * 1 = 16 + k - 7 := by omega
    generalize hA : (sched bs k).getD (16 + k - 16) 0 = xa
    generalize hB : (sched bs k).getD (16 + k - 15) 0 = xb
    generalize hC : (sched bs k).getD (16 + k - 2) 0 = xc
    generalize hD : (sched bs k).getD (16 + k - 7) 0 = xd
    have hnx : nextWord (sched bs k) = ((xa + sg0 xb) + xd) + sg1 xc := by rw [nextWord, hsl, hA, hB, hC, hD]
    refine c_skip ?_; repeat refine c_seq ?_
    refine c_block ?_; repeat refine c_seq ?_
    refine c_still mixed (by kernel_rfl) ?_; replace H := H.drew
    refine s_op (r_mv) ?_; refine s_op (r_bin rfl rfl (fun _ => b_sub (by omega) (by omega))) ?_; refine s_op (r_ia rfl rfl ar169 (by omega) (by omega)) ?_; refine s_op (r_ld H (v := W64 xb) (i := 1) rfl rfl ct33 (by rw [x1, hg _ (by omega), hB])) ?_; refine s_op (r_mv) ?_; refine s_op (r_bin rfl rfl (fun _ => b_sub (by omega) (by omega))) ?_; refine s_op (r_ia rfl rfl ar169 (by omega) (by omega)) ?_; refine s_op (r_ld H (v := W64 xc) (i := 1) rfl rfl ct33 (by rw [x2, hg _ (by omega), hC])) ?_; refine s_op (r_as) ?_; refine s_op (r_as) ?_; refine s_nil ?_; repeat refine c_seq ?_
    refine c_region ?_; refine l_op (o_mv ?_); refine l_op (o_callR Tryz.func144 rfl rfl rfl (turnW_ret _ _ 7 (by decide) (by decide)) ?_); rintro _ w' ⟨rfl, hw⟩
    rw [hw]; clear hw w'
    refine l_op (o_mv ?_); refine l_op (o_callR Tryz.func144 rfl rfl rfl (turnW_ret _ _ 18 (by decide) (by decide)) ?_); rintro _ w' ⟨rfl, hw⟩
    rw [hw]; clear hw w'
    refine l_op (o_bin rfl rfl (fun _ => b_xorW) ?_); refine l_op (o_mv ?_); refine l_op (o_callR Tryz.func145 rfl rfl rfl (downW_ret _ _ 3 (by decide)) ?_); rintro _ w' ⟨rfl, hw⟩
    rw [hw]; clear hw w'
    refine l_op (o_bin (v := W64 (sg0 xb)) rfl rfl (fun _ => b_xorW) ?_); refine l_op (o_as ?_); first | refine l_end ?_ | refine l_nil ?_
    repeat refine c_seq ?_
    refine c_region ?_; refine l_op (o_mv ?_); refine l_op (o_callR Tryz.func144 rfl rfl rfl (turnW_ret _ _ 17 (by decide) (by decide)) ?_); rintro _ w' ⟨rfl, hw⟩
    rw [hw]; clear hw w'
    refine l_op (o_mv ?_); refine l_op (o_callR Tryz.func144 rfl rfl rfl (turnW_ret _ _ 19 (by decide) (by decide)) ?_); rintro _ w' ⟨rfl, hw⟩
    rw [hw]; clear hw w'
    refine l_op (o_bin rfl rfl (fun _ => b_xorW) ?_); refine l_op (o_mv ?_); refine l_op (o_callR Tryz.func145 rfl rfl rfl (downW_ret _ _ 10 (by decide)) ?_); rintro _ w' ⟨rfl, hw⟩
    rw [hw]; clear hw w'
    refine l_op (o_bin (v := W64 (sg1 xc)) rfl rfl (fun _ => b_xorW) ?_); refine l_op (o_as ?_); first | refine l_end ?_ | refine l_nil ?_
    repeat refine c_seq ?_
    refine c_tail 15 mixed (by kernel_rfl) ?_; replace H := H.drew
    refine s_op (r_mv) ?_; refine s_op (r_mv) ?_; refine s_op (r_bin rfl rfl (fun _ => b_sub (by omega) (by omega))) ?_; refine s_op (r_ia rfl rfl ar169 (by omega) (by omega)) ?_; refine s_op (r_ld H (v := W64 xa) (i := 1) rfl rfl ct33 (by rw [x0, hg _ (by omega), hA])) ?_; refine s_op (r_mv) ?_; refine s_op (r_bin rfl rfl (fun _ => b_add_u64)) ?_; refine s_op (r_mv) ?_; refine s_op (r_bin rfl rfl (fun _ => b_sub (by omega) (by omega))) ?_; refine s_op (r_ia rfl rfl ar169 (by omega) (by omega)) ?_; refine s_op (r_ld H (v := W64 xd) (i := 1) rfl rfl ct33 (by rw [x3, hg _ (by omega), hD])) ?_; refine s_op (r_bin rfl rfl (fun _ => b_add_u64)) ?_; refine s_op (r_mv) ?_; refine s_op (r_bin rfl rfl (fun _ => b_add_u64)) ?_; refine s_op (r_bin (v := W64 (nextWord (sched bs k))) rfl (c64 4294967295 (by decide)) (fun _ => b_maskW _ (by rw [hnx]; simp only [UInt64.toUInt32_add, red]))) ?_; refine s_nil ?_; refine l_op (o_ia rfl rfl ar169 (by omega) (by omega) ?_); refine l_op (o_st H (i := 1) (v := W64 (nextWord (sched bs k))) rfl rfl rfl cs33 rfl (by rw [padW_length _ (by omega)]; omega) (fun w H => ?_)); first | refine l_end ?_ | refine l_nil ?_
    have e : (padW (sched bs k)).set (0 + ((16 + k : Nat) : Int).toNat * 1) (W64 (nextWord (sched bs k))) = padW (sched bs (k + 1)) := by
      rw [sched, ← padW_set _ _ (by omega), hsl]; congr 1; omega
    rw [e] at H
    repeat refine c_seq ?_
    refine c_region ?_; refine l_op (o_mv ?_); refine l_op (o_bin rfl rfl (fun _ => b_add (by omega) (by omega)) ?_); refine l_op (o_as ?_); first | refine l_end ?_ | refine l_nil ?_
    refine round_end (k + 1) ?_ ?_ ?_
    · exact ⟨rfl, rfl, rfl, rfl, rfl, trivial⟩
    · exact ⟨by omega, H⟩
    · show 48 - (k + 1) < 48 - k; omega
  · have hk48 : k = 48 := by omega
    subst hk48
    clear hlt hk hsl
    have hcomp : comp st bs = addS st (rnds (sched bs 48) st 64) := rfl
    rw [hcomp]
    have hsl := sched_length bs 48
    obtain ⟨sc, hsc⟩ : ∃ sc, sched bs 48 = sc := ⟨_, rfl⟩
    rw [hsc] at H hsl ⊢
    clear hsc hcomp
    have hpw : primeWords.length = 64 := rfl
    have hpad : padW sc = sc.map W64 := by simp [padW, hsl]
    rw [hpad] at H
    have g1 : ∀ j, j < 64 → (primeWords.map W64)[j]? = some (W64 (primeWords.getD j 0)) := fun j hj => by simp [show j < primeWords.length by omega]
    have g2 : ∀ j, j < 64 → (sc.map W64)[j]? = some (W64 (sc.getD j 0)) := fun j hj => by simp [show j < sc.length by omega]
    refine c_exit ?_; repeat refine c_seq ?_
    refine c_region ?_; refine l_op (o_ldr H (i := 0) rfl rfl rt171 (Nat.le_refl 8) ?_); refine l_op (o_alloc H zc171 (fun b12 w H hb12 => ?_)); refine l_op (o_stw H (i := 4) rfl rfl rfl (by rw [cs171]; rfl) (all_W64 st.l) (by rfl) (fun w H => ?_)); first | refine l_end ?_ | refine l_nil ?_
    repeat refine c_seq ?_
    refine c_region ?_; refine l_op (o_as ?_); first | refine l_end ?_ | refine l_nil ?_
    repeat refine c_seq ?_
    refine c_block ?_; refine c_loop (ι := Nat) (fun i => [(13, VI i), (3, .pointer (some ⟨b3, 0, none⟩)), (4, .pointer (some ⟨b4, 0, none⟩)), (5, .pointer (some ⟨b5, 0, none⟩)), (6, .pointer (some ⟨b6, 0, none⟩)), (12, .pointer (some ⟨b12, 0, none⟩))])
      (fun i w => i ≤ 64 ∧ Hp w0 w [] [.blk b3 (st.l.map W64) 171, .blk b4 (sc.map W64) 169, .blk b5 (primeWords.map W64) 169, .blk b6 (List.replicate 8 (Value.int .u64 0)) 171, .blk b12 ((rnds sc st i).l.map W64) 171])
      (fun i => 64 - i) 0 ⟨rfl, rfl, rfl, rfl, rfl, rfl, trivial⟩ ⟨by omega, by rw [rnds]; exact H⟩ ?_
    clear H
    rintro i τ w ⟨hi, H⟩
    repeat refine c_seq ?_
    refine c_region ?_; refine l_op (o_mv ?_); refine l_op (o_bin rfl rfl (fun _ => b_lss) ?_); first | refine l_end ?_ | refine l_nil ?_
    repeat refine c_seq ?_
    refine c_ifD rfl (fun hlt => ?_) (fun hlt => ?_)
    · have hlt' : i < 64 := by omega
      have x1 : 0 + (i : Int).toNat * 1 = i := by omega
      have e9 := rnds.eq_2 sc st i
      generalize rnds sc st i = r at H e9
      generalize hkk : primeWords.getD i 0 = kk at e9
      generalize hww : sc.getD i 0 = ww at e9
      refine c_skip ?_; repeat refine c_seq ?_
      refine c_block ?_; repeat refine c_seq ?_
      refine c_still mixed (by kernel_rfl) ?_; replace H := H.drew
      refine s_op (r_ia rfl rfl ar171 (by omega) (by omega)) ?_; refine s_op (r_ld H (i := 4) rfl rfl ct33 rfl) ?_; refine s_op (r_ia rfl rfl ar171 (by omega) (by omega)) ?_; refine s_op (r_ld H (i := 4) rfl rfl ct33 rfl) ?_; refine s_op (r_as) ?_; refine s_op (r_as) ?_; refine s_nil ?_; repeat refine c_seq ?_
      refine c_region ?_; refine l_op (o_mv ?_); refine l_op (o_callR Tryz.func144 rfl rfl rfl (turnW_ret _ _ 6 (by decide) (by decide)) ?_); rintro _ w' ⟨rfl, hw⟩
      rw [hw]; clear hw w'
      refine l_op (o_mv ?_); refine l_op (o_callR Tryz.func144 rfl rfl rfl (turnW_ret _ _ 11 (by decide) (by decide)) ?_); rintro _ w' ⟨rfl, hw⟩
      rw [hw]; clear hw w'
      refine l_op (o_bin rfl rfl (fun _ => b_xorW) ?_); refine l_op (o_mv ?_); refine l_op (o_callR Tryz.func144 rfl rfl rfl (turnW_ret _ _ 25 (by decide) (by decide)) ?_); rintro _ w' ⟨rfl, hw⟩
      rw [hw]; clear hw w'
      refine l_op (o_bin rfl rfl (fun _ => b_xorW) ?_); refine l_op (o_as ?_); first | refine l_end ?_ | refine l_nil ?_
      repeat refine c_seq ?_
      refine c_region ?_; refine l_op (o_mv ?_); refine l_op (o_ia rfl rfl ar171 (by omega) (by omega) ?_); refine l_op (o_ld H (i := 4) rfl rfl ct33 rfl ?_); refine l_op (o_bin rfl rfl (fun _ => b_andW) ?_); refine l_op (o_mv ?_); refine l_op (o_bin (c64 4294967295 (by decide)) rfl (fun _ => b_notW) ?_); refine l_op (o_ia rfl rfl ar171 (by omega) (by omega) ?_); refine l_op (o_ld H (i := 4) rfl rfl ct33 rfl ?_); refine l_op (o_bin rfl rfl (fun _ => b_andW) ?_); refine l_op (o_bin rfl rfl (fun _ => b_xorW) ?_); refine l_op (o_as ?_); first | refine l_end ?_ | refine l_nil ?_
      repeat refine c_seq ?_
      refine c_still mixed (by kernel_rfl) ?_; replace H := H.drew
      refine s_op (r_ia rfl rfl ar171 (by omega) (by omega)) ?_; refine s_op (r_ld H (i := 4) rfl rfl ct33 rfl) ?_; refine s_op (r_mv) ?_; refine s_op (r_bin rfl rfl (fun _ => b_add_u64)) ?_; refine s_op (r_mv) ?_; refine s_op (r_bin rfl rfl (fun _ => b_add_u64)) ?_; refine s_op (r_mv) ?_; refine s_op (r_ia rfl rfl ar169 (by omega) (by omega)) ?_; refine s_op (r_ld H (v := W64 kk) (i := 2) rfl rfl ct33 (by rw [x1, g1 i hlt', hkk])) ?_; refine s_op (r_bin rfl rfl (fun _ => b_add_u64)) ?_; refine s_op (r_mv) ?_; refine s_op (r_ia rfl rfl ar169 (by omega) (by omega)) ?_; refine s_op (r_ld H (v := W64 ww) (i := 1) rfl rfl ct33 (by rw [x1, g2 i hlt', hww])) ?_; refine s_op (r_bin rfl rfl (fun _ => b_add_u64)) ?_; refine s_op (r_as) ?_; refine s_nil ?_; repeat refine c_seq ?_
      refine c_region ?_; refine l_op (o_mv ?_); refine l_op (o_callR Tryz.func144 rfl rfl rfl (turnW_ret _ _ 2 (by decide) (by decide)) ?_); rintro _ w' ⟨rfl, hw⟩
      rw [hw]; clear hw w'
      refine l_op (o_mv ?_); refine l_op (o_callR Tryz.func144 rfl rfl rfl (turnW_ret _ _ 13 (by decide) (by decide)) ?_); rintro _ w' ⟨rfl, hw⟩
      rw [hw]; clear hw w'
      refine l_op (o_bin rfl rfl (fun _ => b_xorW) ?_); refine l_op (o_mv ?_); refine l_op (o_callR Tryz.func144 rfl rfl rfl (turnW_ret _ _ 22 (by decide) (by decide)) ?_); rintro _ w' ⟨rfl, hw⟩
      rw [hw]; clear hw w'
      refine l_op (o_bin rfl rfl (fun _ => b_xorW) ?_); refine l_op (o_as ?_); first | refine l_end ?_ | refine l_nil ?_
      repeat refine c_seq ?_
      refine c_region ?_; refine l_op (o_mv ?_); refine l_op (o_ia rfl rfl ar171 (by omega) (by omega) ?_); refine l_op (o_ld H (i := 4) rfl rfl ct33 rfl ?_); refine l_op (o_bin rfl rfl (fun _ => b_andW) ?_); refine l_op (o_mv ?_); refine l_op (o_ia rfl rfl ar171 (by omega) (by omega) ?_); refine l_op (o_ld H (i := 4) rfl rfl ct33 rfl ?_); refine l_op (o_bin rfl rfl (fun _ => b_andW) ?_); refine l_op (o_bin rfl rfl (fun _ => b_xorW) ?_); refine l_op (o_ia rfl rfl ar171 (by omega) (by omega) ?_); refine l_op (o_ld H (i := 4) rfl rfl ct33 rfl ?_); refine l_op (o_ia rfl rfl ar171 (by omega) (by omega) ?_); refine l_op (o_ld H (i := 4) rfl rfl ct33 rfl ?_); refine l_op (o_bin rfl rfl (fun _ => b_andW) ?_); refine l_op (o_bin rfl rfl (fun _ => b_xorW) ?_); refine l_op (o_as ?_); first | refine l_end ?_ | refine l_nil ?_
      repeat refine c_seq ?_
      refine c_region ?_; refine l_op (o_mv ?_); refine l_op (o_mv ?_); refine l_op (o_bin rfl rfl (fun _ => b_add_u64) ?_); refine l_op (o_mv ?_); refine l_op (o_bin rfl rfl (fun _ => b_add_u64) ?_); refine l_op (o_bin (v := W64 (rnd r kk ww).a) rfl (c64 4294967295 (by decide)) (fun _ => b_maskW _ (by simp only [UInt64.toUInt32_add, red]; exact UInt32.add_assoc _ _ _)) ?_); refine l_op (o_ia rfl rfl ar171 (by omega) (by omega) ?_); refine l_op (o_ld H (i := 4) rfl rfl ct33 rfl ?_); refine l_op (o_ia rfl rfl ar171 (by omega) (by omega) ?_); refine l_op (o_ld H (i := 4) rfl rfl ct33 rfl ?_); refine l_op (o_ia rfl rfl ar171 (by omega) (by omega) ?_); refine l_op (o_ld H (i := 4) rfl rfl ct33 rfl ?_); refine l_op (o_ia rfl rfl ar171 (by omega) (by omega) ?_); refine l_op (o_ld H (i := 4) rfl rfl ct33 rfl ?_); refine l_op (o_mv ?_); refine l_op (o_bin rfl rfl (fun _ => b_add_u64) ?_); refine l_op (o_bin (v := W64 (rnd r kk ww).e) rfl (c64 4294967295 (by decide)) (fun _ => b_maskW _ (by simp only [UInt64.toUInt32_add, red]; rfl)) ?_); refine l_op (o_ia rfl rfl ar171 (by omega) (by omega) ?_); refine l_op (o_ld H (i := 4) rfl rfl ct33 rfl ?_); refine l_op (o_ia rfl rfl ar171 (by omega) (by omega) ?_); refine l_op (o_ld H (i := 4) rfl rfl ct33 rfl ?_); refine l_op (o_ia rfl rfl ar171 (by omega) (by omega) ?_); refine l_op (o_ld H (i := 4) rfl rfl ct33 rfl ?_); refine l_op (o_bld' (pv := en 0 ((rnd r kk ww).l.map W64)) bd171 rfl (fill_en _ (all_W64 _) rfl) ?_); refine l_op (o_stw H (i := 4) rfl rfl rfl (by rw [cs171]; rfl) (all_W64 _) (by rfl) (fun w H => ?_)); first | refine l_end ?_ | refine l_nil ?_
      repeat refine c_seq ?_
      refine c_region ?_; refine l_op (o_mv ?_); refine l_op (o_bin rfl rfl (fun _ => b_add (by omega) (by omega)) ?_); refine l_op (o_as ?_); first | refine l_end ?_ | refine l_nil ?_
      refine round_end (i + 1) ?_ ?_ ?_
      · exact ⟨rfl, rfl, rfl, rfl, rfl, rfl, trivial⟩
      · exact ⟨hlt', by rw [e9]; exact H⟩
      · show 64 - (i + 1) < 64 - i; omega
    · have hi64 : i = 64 := by omega
      subst hi64
      clear hlt hi
      obtain ⟨rr, hrr⟩ : ∃ rr, rnds sc st 64 = rr := ⟨_, rfl⟩
      rw [hrr] at H ⊢
      clear hrr
      refine c_exit ?_; repeat refine c_seq ?_
      refine c_region ?_; refine l_op (o_as ?_); first | refine l_end ?_ | refine l_nil ?_
      repeat refine c_seq ?_
      refine c_block ?_; refine c_loop (ι := Nat) (fun i => [(21, VI i), (3, .pointer (some ⟨b3, 0, none⟩)), (6, .pointer (some ⟨b6, 0, none⟩)), (12, .pointer (some ⟨b12, 0, none⟩))])
        (fun i w => i ≤ 8 ∧ Hp w0 w [] [.blk b3 ((parts (addS st rr).l st.l i).map W64) 171, .blk b4 (sc.map W64) 169, .blk b5 (primeWords.map W64) 169, .blk b6 (List.replicate 8 (Value.int .u64 0)) 171, .blk b12 (rr.l.map W64) 171])
        (fun i => 8 - i) 0 ⟨rfl, rfl, rfl, rfl, trivial⟩ ⟨by omega, H⟩ ?_
      clear H
      rintro i τ w ⟨hi, H⟩
      repeat refine c_seq ?_
      refine c_region ?_; refine l_op (o_mv ?_); refine l_op (o_bin rfl rfl (fun _ => b_lss) ?_); first | refine l_end ?_ | refine l_nil ?_
      repeat refine c_seq ?_
      refine c_ifD rfl (fun hlt => ?_) (fun hlt => ?_)
      · have hlt' : i < 8 := by omega
        have h8 : (addS st rr).l.length = 8 := rfl
        have h8' : st.l.length = 8 := rfl
        have hpl8 : (parts (addS st rr).l st.l i).length = 8 := parts_length _ _ i rfl (by omega)
        have x1 : 0 + (i : Int).toNat * 1 = i := by omega
        have g3 : ((parts (addS st rr).l st.l i).map W64)[i]? = some (W64 (st.l.getD i 0)) := by
          rw [← parts_get _ _ i (h8.trans h8'.symm) (by omega)]
          simp [show i < (parts (addS st rr).l st.l i).length by omega]
        have g4 : (rr.l.map W64)[i]? = some (W64 (rr.l.getD i 0)) := by
          have : i < rr.l.length := hlt'
          simp [this]
        refine c_skip ?_; repeat refine c_seq ?_
        refine c_block ?_; repeat refine c_seq ?_
        refine c_tail 9 mixed (by kernel_rfl) ?_; replace H := H.drew
        refine s_op (r_mv) ?_; refine s_op (r_mv) ?_; refine s_op (r_ia rfl rfl ar171 (by omega) (by omega)) ?_; refine s_op (r_ld H (i := 0) rfl rfl ct33 (by rw [x1]; exact g3)) ?_; refine s_op (r_mv) ?_; refine s_op (r_ia rfl rfl ar171 (by omega) (by omega)) ?_; refine s_op (r_ld H (i := 4) rfl rfl ct33 (by rw [x1]; exact g4)) ?_; refine s_op (r_bin rfl rfl (fun _ => b_add_u64)) ?_; refine s_op (r_bin (v := W64 ((addS st rr).l.getD i 0)) rfl (c64 4294967295 (by decide)) (fun _ => b_maskW _ (by simp only [UInt64.toUInt32_add, red]; exact add_get _ _ i hlt'))) ?_; refine s_nil ?_; refine l_op (o_ia rfl rfl ar171 (by omega) (by omega) ?_); refine l_op (o_st H (i := 0) (v := W64 ((addS st rr).l.getD i 0)) rfl rfl rfl cs33 rfl (by rw [x1, List.length_map, hpl8]; exact hlt') (fun w H => ?_)); first | refine l_end ?_ | refine l_nil ?_
        have e : ((parts (addS st rr).l st.l i).map W64).set (0 + (i : Int).toNat * 1) (W64 ((addS st rr).l.getD i 0)) = (parts (addS st rr).l st.l (i + 1)).map W64 := by
          rw [x1, ← List.map_set, parts_set _ _ i (h8.trans h8'.symm) (by omega)]
        rw [e] at H
        repeat refine c_seq ?_
        refine c_region ?_; refine l_op (o_mv ?_); refine l_op (o_bin rfl rfl (fun _ => b_add (by omega) (by omega)) ?_); refine l_op (o_as ?_); first | refine l_end ?_ | refine l_nil ?_
        refine round_end (i + 1) ?_ ?_ ?_
        · exact ⟨rfl, rfl, rfl, rfl, trivial⟩
        · exact ⟨by omega, H⟩
        · show 8 - (i + 1) < 8 - i; omega
      · have hi8 : i = 8 := by omega
        subst hi8
        refine c_exit ?_; repeat refine c_seq ?_
        refine c_region ?_; refine l_op (o_ldr H (i := 0) rfl rfl rt171 (Nat.le_refl 8) ?_); refine l_op (o_stw H (i := 3) rfl rfl rfl (by rw [cs171]; rfl) (all_W64 (addS st rr).l) (by rfl) (fun w H => ?_)); first | refine l_end ?_ | refine l_nil ?_
        refine c_ret (e_retc Tryz.results113 H (i := 3) rfl rfl rt171 (by rfl) ⟨_, rfl, rfl, ?_⟩); exact H.sub (List.nil_sublist _)
end Go.Proofs.YtiepekfcegdkoaaGreatDoor
namespace Go.Proofs.YtiepekfcegdkoaaGreatDoor
open Go
/-- the first c bytes of word j of a block, as a number. -/
def pwN (bs : List UInt8) (j : Nat) : Nat → Nat
  | 0 => 0
  | c + 1 => pwN bs j c * 256 + (bs.getD (4 * j + c) 0).toNat
theorem wordAt_nat (bs : List UInt8) (j : Nat) : (wordAt bs j).toNat = pwN bs j 4 := by
  simp only [wordAt, pwN, Nat.add_zero, Nat.zero_mul, Nat.zero_add]
  generalize bs.getD (4 * j) 0 = a
  generalize bs.getD (4 * j + 1) 0 = b
  generalize bs.getD (4 * j + 2) 0 = c
  generalize bs.getD (4 * j + 3) 0 = d
  have ha := a.toNat_lt
  have hb := b.toNat_lt
  have hc := c.toNat_lt
  have hd := d.toNat_lt
  have e24 : (UInt32.ofNat 24).toNat % 32 = 24 := rfl
  have e16 : (UInt32.ofNat 16).toNat % 32 = 16 := rfl
  have e8 : (UInt32.ofNat 8).toNat % 32 = 8 := rfl
  simp only [UInt32.toNat_or, UInt32.toNat_shiftLeft, UInt8.toNat_toUInt32, e24, e16, e8]
  have m1 : a.toNat <<< 24 % 2 ^ 32 = a.toNat <<< 24 := by rw [Nat.shiftLeft_eq]; omega
  have m2 : b.toNat <<< 16 % 2 ^ 32 = b.toNat <<< 16 := by rw [Nat.shiftLeft_eq]; omega
  have m3 : c.toNat <<< 8 % 2 ^ 32 = c.toNat <<< 8 := by rw [Nat.shiftLeft_eq]; omega
  rw [m1, m2, m3, Nat.or_assoc, Nat.or_assoc]
  have s3 : c.toNat <<< 8 ||| d.toNat = c.toNat <<< 8 + d.toNat := (Nat.shiftLeft_add_eq_or_of_lt (by omega) _).symm
  have s2 : b.toNat <<< 16 ||| (c.toNat <<< 8 + d.toNat) = b.toNat <<< 16 + (c.toNat <<< 8 + d.toNat) := (Nat.shiftLeft_add_eq_or_of_lt (by rw [Nat.shiftLeft_eq]; omega) _).symm
  have s1 : a.toNat <<< 24 ||| (b.toNat <<< 16 + (c.toNat <<< 8 + d.toNat)) = a.toNat <<< 24 + (b.toNat <<< 16 + (c.toNat <<< 8 + d.toNat)) := (Nat.shiftLeft_add_eq_or_of_lt (by rw [Nat.shiftLeft_eq, Nat.shiftLeft_eq]; omega) _).symm
  rw [s3, s2, s1, Nat.shiftLeft_eq, Nat.shiftLeft_eq, Nat.shiftLeft_eq]
  omega
end Go.Proofs.YtiepekfcegdkoaaGreatDoor
namespace Go.Proofs.YtiepekfcegdkoaaGreatDoor
open Go
/-- the sixty-four words when i bytes have been read. -/
def wpart (bs : List UInt8) (i : Nat) : List Value := (List.range 64).map fun j => V64 (UInt64.ofNat (pwN bs j (min 4 (i - 4 * j))))
theorem wpart_length (bs : List UInt8) (i : Nat) : (wpart bs i).length = 64 := by simp [wpart]
theorem wpart_get (bs : List UInt8) (i : Nat) (h : i < 64) : (wpart bs i)[i / 4]? = some (V64 (UInt64.ofNat (pwN bs (i / 4) (i % 4)))) := by
  have e : min 4 (i - 4 * (i / 4)) = i % 4 := by omega
  simp [wpart, List.getElem?_range (show i / 4 < 64 by omega), e]
theorem wpart_set (bs : List UInt8) (i : Nat) (h : i < 64) : (wpart bs i).set (i / 4) (V64 (UInt64.ofNat (pwN bs (i / 4) (i % 4 + 1)))) = wpart bs (i + 1) := by
  apply List.ext_getElem?
  intro j
  rw [List.getElem?_set, wpart_length]
  by_cases hj : i / 4 = j
  · subst hj
    have e : min 4 (i + 1 - 4 * (i / 4)) = i % 4 + 1 := by omega
    rw [if_pos rfl, if_pos (by omega)]
    simp [wpart, List.getElem?_range (show i / 4 < 64 by omega), e]
  · rw [if_neg hj]
    by_cases hl : j < 64
    · have e : min 4 (i - 4 * j) = min 4 (i + 1 - 4 * j) := by omega
      simp [wpart, List.getElem?_range hl, e]
    · simp [wpart, show 64 ≤ j by omega]
theorem wpart_zero (bs : List UInt8) : wpart bs 0 = List.replicate 64 (Value.int .u64 0) := by
  apply List.ext_getElem?
  intro j
  by_cases hl : j < 64
  · rw [List.getElem?_replicate, if_pos hl]; simp [wpart, List.getElem?_range hl, pwN, V64]
  · simp [wpart, show 64 ≤ j by omega]
theorem ofNat_word (x : UInt32) : UInt64.ofNat x.toNat = x.toUInt64 := by
  apply UInt64.toNat_inj.1
  have := x.toNat_lt
  rw [UInt64.toNat_ofNat', UInt32.toNat_toUInt64]; omega
theorem firsts_get (bs : List UInt8) : ∀ (n j : Nat), j < n → (firsts bs n)[j]? = some (wordAt bs j)
  | 0, _, h => by omega
  | n + 1, j, h => by
    by_cases hj : j < n
    · rw [firsts, List.getElem?_append_left (by rw [firsts_length]; exact hj)]; exact firsts_get bs n j hj
    · have : j = n := by omega
      subst this
      rw [firsts, List.getElem?_append_right (by rw [firsts_length]; exact Nat.le_refl _), firsts_length]; simp
theorem wpart_all (bs : List UInt8) : wpart bs 64 = padW (firsts bs 16) := by
  apply List.ext_getElem?
  intro j
  have hfl := firsts_length bs 16
  by_cases h1 : j < 16
  · have e : min 4 (64 - 4 * j) = 4 := by omega
    rw [padW, List.getElem?_append_left (by rw [List.length_map, hfl]; exact h1), List.getElem?_map, firsts_get bs 16 j h1]
    simp [wpart, List.getElem?_range (show j < 64 by omega), e, ← wordAt_nat, W64]
  · by_cases hl : j < 64
    · have e : 64 - 4 * j = 0 := by omega
      rw [padW, List.getElem?_append_right (by rw [List.length_map, hfl]; omega), List.length_map, hfl, List.getElem?_replicate, if_pos (by omega)]
      simp [wpart, List.getElem?_range hl, e, pwN, W64]
    · rw [List.getElem?_eq_none (by rw [wpart_length]; omega), List.getElem?_eq_none (by rw [padW_length _ (by omega)]; omega)]
end Go.Proofs.YtiepekfcegdkoaaGreatDoor
namespace Go.Proofs.YtiepekfcegdkoaaGreatDoor
open Go
def foldB (st : S8) (M : List UInt8) : Nat → S8
  | 0 => st
  | n + 1 => comp (foldB st M n) ((M.drop (64 * n)).take 64)
theorem foldB_ext (st : S8) (M M' : List UInt8) : ∀ n, M.take (64 * n) = M'.take (64 * n) → foldB st M n = foldB st M' n
  | 0, _ => rfl
  | n + 1, h => by
    have h1 : M.take (64 * n) = M'.take (64 * n) := by
      have := congrArg (List.take (64 * n)) h
      rwa [List.take_take, List.take_take, Nat.min_eq_left (by omega)] at this
    have h2 : (M.drop (64 * n)).take 64 = (M'.drop (64 * n)).take 64 := by
      have := congrArg (List.drop (64 * n)) h
      rwa [List.drop_take, List.drop_take, show 64 * (n + 1) - 64 * n = 64 by omega] at this
    rw [foldB, foldB, foldB_ext st M M' n h1, h2]
theorem absorb_blocks (s : HS) (hwt : s.wt.length = 64) (hat : s.at_ = 0) : ∀ (n : Nat) (M : List UInt8), M.length = 64 * n → (absorb s M).st = foldB s.st M n
  | 0, M, h => by
    have : M = [] := List.length_eq_zero_iff.1 (by omega)
    subst this; rfl
  | n + 1, M, h => by
    have ih := absorb_blocks s hwt hat n (M.take (64 * n)) (by rw [List.length_take]; omega)
    have e : M = M.take (64 * n) ++ M.drop (64 * n) := (List.take_append_drop _ _).symm
    have hl : (M.drop (64 * n)).length = 64 := by rw [List.length_drop]; omega
    have ha : (absorb s (M.take (64 * n))).at_ = 0 := by
      simp only [HS.at_] at hat ⊢
      rw [absorb_m, List.length_take, UInt64.toNat_add, UInt64.toNat_ofNat', Nat.min_eq_left (by omega)]
      omega
    have hw : (absorb s (M.take (64 * n))).wt.length = 64 := by rw [absorb_wt, hwt]
    have hf := absorb_full (M.drop (64 * n)) (absorb s (M.take (64 * n))) hw (by rw [ha, hl]) (fun e => by rw [e] at hl; simp at hl)
    have hsp : spl (absorb s (M.take (64 * n))).wt 0 (M.drop (64 * n)) = M.drop (64 * n) := by
      have hd : (absorb s (M.take (64 * n))).wt.drop (0 + (M.drop (64 * n)).length) = [] := List.drop_of_length_le (by rw [hl]; omega)
      unfold spl
      rw [hd, List.take_zero, List.nil_append, List.append_nil]
    rw [ha, hsp] at hf
    have e2 : absorb s M = absorb (absorb s (M.take (64 * n))) (M.drop (64 * n)) := by rw [← absorb_append, ← e]
    rw [e2, hf]
    simp only
    rw [ih, foldB, foldB_ext s.st (M.take (64 * n)) M n (by rw [List.take_take, Nat.min_self]), List.take_of_length_le (Nat.le_of_eq hl)]
/-- the text with what stands behind it. -/
def padded (l : List UInt8) : List UInt8 := l ++ tailOf (UInt64.ofNat l.length)
theorem init_at : HS.at_ HS.init = 0 := rfl
theorem digest_padded (l : List UInt8) (n : Nat) (h : (padded l).length = 64 * n) : digest (absorb HS.init l) = wordBytes (foldB initS (padded l) n).l := by
  have hm : (absorb HS.init l).m = UInt64.ofNat l.length := by
    rw [absorb_m]
    show (0 : UInt64) + _ = _
    rw [UInt64.zero_add]
  rw [digest, closed, hm, ← absorb_append]
  have := absorb_blocks HS.init rfl init_at n (padded l) h
  rw [padded] at this
  rw [this]; rfl
theorem padded_len (l : List UInt8) (h : l.length < 1152921504606846976) : 64 ∣ (padded l).length := by
  have e : (UInt64.ofNat l.length).toNat = l.length := by rw [UInt64.toNat_ofNat']; omega
  simp only [padded, tailOf, zerosOf, e, List.length_append, List.length_cons, List.length_replicate, lenBytes_length]
  omega
end Go.Proofs.YtiepekfcegdkoaaGreatDoor
namespace Go.Proofs.YtiepekfcegdkoaaGreatDoor
open Go
set_option maxRecDepth 100000
/-- the hash of a text. -/
def sha256 (l : List UInt8) : List UInt8 := digest (absorb HS.init l)
theorem sha256_len (l : List UInt8) : (sha256 l).length = 32 := digest_length _
theorem sha1_ret (w0 : World) (a : Option Addr) (s : Sl) (hr : RdS w0 a [s.v]) (hs : s.ok w0) :
    Ret Tryz.prog 66 [.slice a 1 1] w0 fun v w' => v = .agg ((sha256 s.l).map V8).toArray ∧ Hp w0 w' [] [] := by
  have h := of_ret w0 a 1 1 [s] hr rfl (all1 hs) (by decide)
  rw [show cat [s] = s.l by simp [cat]] at h
  exact h
theorem sha2_ret (w0 : World) (a : Option Addr) (s u : Sl) (hr : RdS w0 a [s.v, u.v]) (hs : s.ok w0) (hu : u.ok w0) :
    Ret Tryz.prog 66 [.slice a 2 2] w0 fun v w' => v = .agg ((sha256 (s.l ++ u.l)).map V8).toArray ∧ Hp w0 w' [] [] := by
  have h := of_ret w0 a 2 2 [s, u] hr rfl (all2 hs hu) (by decide)
  rw [show cat [s, u] = s.l ++ u.l by simp [cat]] at h
  exact h
theorem sha256_eq (l : List UInt8) : sha256 l = digest (absorb HS.init l) := rfl
/-- a hash of which it is known what it was told. -/
def hashX (x : List UInt8) : List Value := hashH (absorb HS.init x)
attribute [irreducible] sha256 hashX
/-- v in n bytes, the highest first. -/
def be (v : Nat) : Nat → List UInt8
  | 0 => []
  | i + 1 => UInt8.ofNat (v / 256 ^ i) :: be v i
theorem be_len (v : Nat) : ∀ n, (be v n).length = n
  | 0 => rfl
  | n + 1 => by simp [be, be_len v n]
theorem shr_be (v : UInt64) (k : Nat) (h : k < 8) : (v >>> UInt64.ofNat (8 * k)).toUInt8 = UInt8.ofNat (v.toNat / 256 ^ k) := by
  apply UInt8.toNat_inj.1
  have e : (UInt64.ofNat (8 * k)).toNat % 64 = 8 * k := by rw [UInt64.toNat_ofNat']; omega
  rw [UInt64.toNat_toUInt8, UInt64.toNat_shiftRight, e, Nat.shiftRight_eq_div_pow, UInt8.toNat_ofNat', Nat.pow_mul]
theorem shr_fit (v : UInt64) (k : Nat) (h : k < 8) (hv : v.toNat < 256 ^ k) : v >>> UInt64.ofNat (8 * k) = 0 := by
  apply UInt64.toNat_inj.1
  have e : (UInt64.ofNat (8 * k)).toNat % 64 = 8 * k := by rw [UInt64.toNat_ofNat']; omega
  rw [UInt64.toNat_shiftRight, e, Nat.shiftRight_eq_div_pow, Nat.pow_mul]
  exact Nat.div_eq_of_lt hv
theorem own_ret (w0 : World) (s : Sl) (hs : s.ok w0) (n : Nat) (hm : s.len + n ≤ 1099511627776) :
    Ret Tryz.prog 67 [s.v, VI (n : Int)] w0 fun v w' => ∃ a cap, v = .slice (hd a) s.len cap ∧ Hp w0 w' [] [.own a s.len cap (s.l.map V8) 5 1] := by
  refine ret_mk Tryz.func67 rfl Tryz.ntmps67 (by simp) ?_
  have H := Hp.refl w0 []
  repeat refine c_seq ?_
  refine c_region ?_; refine l_op (o_val r_as ?_); first | refine l_end ?_ | refine l_nil ?_
  repeat refine c_seq ?_
  refine c_region ?_; refine l_op (o_val r_mv ?_); refine l_op (o_val (r_lens el24 rfl) ?_); refine l_op (o_val r_mv ?_); refine l_op (o_val (r_bin (a := (s.len : Int)) (b := (n : Int)) rfl rfl (fun _ => b_add (by omega) (by omega))) ?_); refine l_op (o_makeB0 (s.len + n) H sl24 zc5 rfl rfl rfl (by omega) (by omega) (fun b1 w H hb1 => ?_)); replace H : Hp _ w _ ([.own (some b1) 0 (s.len + n) ((([] : List UInt8)).map V8) 5 1]) := H
  refine l_op (o_val r_mv ?_); refine l_op (o_appB (s := s) (l' := s.l) (len' := s.len) rfl (Nat.zero_add _) H (i := 0) rfl sl24 Tryz.underlying24 rfl rfl (hs.up H (fun _ => apart_nil _)) (by omega) (fun a2 c3 w H => ?_)); replace H : Hp _ w _ ([.own a2 s.len c3 ((s.l).map V8) 5 1]) := H
  refine l_op (o_val r_as ?_); first | refine l_end ?_ | refine l_nil ?_
  refine c_ret ?_; try dsimp only [Exit.then, Exit.inBlock]
  refine e_ret1 (v := .slice (hd a2) s.len c3) Tryz.results67 rfl ?_
  refine ⟨_, rfl, ?_⟩
  exact ⟨_, _, rfl, H⟩
theorem put_ret (w0 : World) (s : Sl) (hs : s.ok w0) (u : UInt64) (n : Nat) (h1 : 1 ≤ n) (h8 : n ≤ 8) (hf : n = 8 ∨ u.toNat < 256 ^ n) (hm : s.len ≤ 1048576) :
    Ret Tryz.prog 23 [s.v, V64 u, VI (n : Int)] w0 fun v w' => ∃ a cap, v = .tuple #[.slice (hd a) (s.len + n) cap, VI 0] ∧ Hp w0 w' [] [.own a (s.len + n) cap ((s.l ++ be u.toNat n).map V8) 5 1] := by
  refine ret_mk Tryz.func23 rfl Tryz.ntmps23 (by simp) ?_
  have H := Hp.refl w0 []
  repeat refine c_seq ?_
  refine c_region ?_; refine l_op (o_val r_as ?_); refine l_op (o_val r_as ?_); first | refine l_end ?_ | refine l_nil ?_
  repeat refine c_seq ?_
  refine c_block ?_; repeat refine c_seq ?_
  refine c_region ?_; refine l_op (o_val r_mv ?_); refine l_op (o_val (r_bin (a := (n : Int)) (b := 1) rfl rfl (fun _ => b_lssB false (decide_eq_false (by omega)))) ?_); refine l_op (o_val r_mv ?_); refine l_yes rfl rfl rfl (o_val r_mv ?_); refine l_yes rfl rfl rfl (o_val (r_bin (a := (n : Int)) (b := 8) rfl rfl (fun _ => b_gtrB false (decide_eq_false (by omega)))) ?_); refine l_op (o_val (r_pick rfl) ?_); refine l_op (o_val r_as ?_); first | refine l_end ?_ | refine l_nil ?_
  repeat refine c_seq ?_
  refine c_no rfl ?_; repeat refine c_seq ?_
  refine c_region ?_; refine l_op (o_val r_mv ?_); refine l_op (o_val (r_bin (a := (n : Int)) (b := 8) rfl rfl (fun _ => b_lss)) ?_); refine l_op (o_val r_mv ?_)
  by_cases hc1 : (n : Int) < 8
  ·
   refine l_yes rfl rfl (by exact congrArg Value.bool (decide_eq_true hc1)) (o_val r_mv ?_); refine l_yes rfl rfl (by exact congrArg Value.bool (decide_eq_true hc1)) (o_val r_mv ?_); refine l_yes rfl rfl (by exact congrArg Value.bool (decide_eq_true hc1)) (o_val (r_conv (v := ((UInt64.ofNat n).toNat : Int)) Tryz.underlying3 Tryz.underlying117 rfl (w_u64_N n (by omega))) ?_); refine l_yes rfl rfl (by exact congrArg Value.bool (decide_eq_true hc1)) (o_val (r_bin (c64 8 (by decide)) rfl (fun _ => b_mul_u64N)) ?_); refine l_yes rfl rfl (by exact congrArg Value.bool (decide_eq_true hc1)) (o_val (r_shift rfl rfl (.inr rfl) (fun _ => b_shr_u64N (8 * n) (by omega))) ?_); refine l_yes rfl rfl (by exact congrArg Value.bool (decide_eq_true hc1)) (o_val (r_bin (a := ((u >>> UInt64.ofNat (8 * n)).toNat : Int)) (b := 0) rfl rfl (fun _ => b_neqB false (decide_eq_false (fun hne => hne (by rw [shr_fit u n (by omega) (by omega)]; rfl))))) ?_); refine l_op (o_val (r_pick (b := true) (congrArg Value.bool (decide_eq_true hc1))) ?_); refine l_op (o_val r_as ?_); first | refine l_end ?_ | refine l_nil ?_
   repeat refine c_seq ?_
   refine c_no rfl ?_; refine c_skip ?_; repeat refine c_seq ?_
   refine c_region ?_; refine l_op (o_val r_mv ?_); refine l_op (o_val r_mv ?_); refine l_op (o_callR Tryz.func67 rfl rfl rfl (own_ret _ s (hs.up H (fun _ => apart_nil _)) n (by omega)) ?_); rintro _ w ⟨a2, c3, rfl, Hc⟩
   replace H : Hp _ w _ ([.own a2 s.len c3 ((s.l).map V8) 5 1]) := H.call Hc
   clear Hc
   refine l_op (o_val r_as ?_); first | refine l_end ?_ | refine l_nil ?_
   repeat refine c_seq ?_
   refine c_region ?_; refine l_op (o_val r_mv ?_); refine l_op (o_val (r_bin (a := (n : Int)) (b := 1) rfl rfl (fun _ => b_sub (by omega) (by omega))) ?_); refine l_op (o_val r_as ?_); first | refine l_end ?_ | refine l_nil ?_
   repeat refine c_seq ?_
   refine c_block ?_; repeat refine c_seq ?_
   refine c_loop5 (fun (k : Nat) (l : List UInt8) (a : Option Nat) (ln : Nat) (c : Nat) => [(1, V64 u), (8, .slice (hd a) ln c), (9, VI ((k : Int) - 1))])
     (fun (k : Nat) (l : List UInt8) (a : Option Nat) (ln : Nat) (c : Nat) w => (k ≤ n ∧ l ++ be u.toNat k = s.l ++ be u.toNat n ∧ ln + k = s.len + n) ∧ Hp w0 w [] ([.own a ln c ((l).map V8) 5 1]))
     (fun (k : Nat) (l : List UInt8) (a : Option Nat) (ln : Nat) (c : Nat) => k) n s.l _ s.len _ ⟨rfl, rfl, rfl, trivial⟩ ⟨⟨Nat.le_refl _, rfl, rfl⟩, H⟩ ?_
   clear H
   rintro k l a ln c τ w ⟨⟨hk, hl, hln⟩, H⟩
   repeat refine c_seq ?_
   refine c_region ?_; refine l_op (o_val r_mv ?_); refine l_op (o_val (r_bin (a := ((k : Int) - 1)) (b := 0) rfl rfl (fun _ => b_geq)) ?_); first | refine l_end ?_ | refine l_nil ?_
   by_cases hc4 : 0 ≤ ((k : Int) - 1)
   ·
    repeat refine c_seq ?_
    refine c_yes (by exact congrArg Value.bool (decide_eq_true hc4)) ?_; refine c_skip ?_; repeat refine c_seq ?_
    refine c_block ?_; have hk1 : k = (k - 1) + 1 := by omega
    rw [hk1, be] at hl
    repeat refine c_seq ?_
    refine c_region ?_; refine l_op (o_val r_mv ?_); refine l_op (o_val r_mv ?_); refine l_op (o_val r_mv ?_); refine l_op (o_val (r_conv (v := ((UInt64.ofNat (k - 1)).toNat : Int)) Tryz.underlying3 Tryz.underlying117 rfl (w_u64_N (k - 1) (by omega))) ?_); refine l_op (o_val (r_bin (c64 8 (by decide)) rfl (fun _ => b_mul_u64N)) ?_); refine l_op (o_val (r_shift rfl rfl (.inr rfl) (fun _ => b_shr_u64N (8 * (k - 1)) (by omega))) ?_); refine l_op (o_val (r_conv Tryz.underlying33 Tryz.underlying5 rfl (w_u8_64 _)) ?_); refine l_op (o_bslB ([(u >>> UInt64.ofNat (8 * (k - 1))).toUInt8]) H sl24 zc5 rfl rfl (by decide) (fun b5 w H hb5 => ?_)); replace H : Hp _ w _ ([_, .own (some b5) 1 1 (([(u >>> UInt64.ofNat (8 * (k - 1))).toUInt8]).map V8) 5 1]) := H
    refine l_op (o_appB (s := ⟨hd (some b5), 1, 1, [(u >>> UInt64.ofNat (8 * (k - 1))).toUInt8]⟩) (l' := l ++ [UInt8.ofNat (u.toNat / 256 ^ (k - 1))]) (len' := ln + 1) (by rw [← shr_be u (k - 1) (by omega)]) rfl H (i := 0) rfl sl24 Tryz.underlying24 rfl rfl (H.slOwn (i := 1) rfl) (by omega) (fun a6 c7 w H => ?_)); replace H : Hp _ w _ ([.own a6 (ln + 1) c7 ((l ++ [UInt8.ofNat (u.toNat / 256 ^ (k - 1))]).map V8) 5 1, _]) := H
    refine l_op (o_val r_as ?_); first | refine l_end ?_ | refine l_nil ?_
    repeat refine c_seq ?_
    refine c_region ?_; refine l_op (o_val r_mv ?_); refine l_op (o_val (r_bin (a := ((k : Int) - 1)) (b := 1) rfl rfl (fun _ => b_sub (by omega) (by omega))) ?_); refine l_op (o_val r_as ?_); first | refine l_end ?_ | refine l_nil ?_
    refine round_end (k - 1, l ++ [UInt8.ofNat (u.toNat / 256 ^ (k - 1))], a6, ln + 1, c7) ?_ ?_ ?_
    · exact ⟨rfl, rfl, show VI (((k : Int) - 1) - 1) = VI (((k - 1 : Nat) : Int) - 1) from congrArg VI (by omega), trivial⟩
    · refine ⟨?_, ?_⟩
      · try dsimp only
        exact ⟨by omega, by simpa using hl, by omega⟩
      · exact H.sub (.cons_cons _ (List.nil_sublist _))
    · show (k - 1 : Nat) < k; omega
   ·
    repeat refine c_seq ?_
    refine c_no (by exact congrArg Value.bool (decide_eq_false hc4)) ?_; refine c_exit ?_; repeat refine c_seq ?_
    refine c_region ?_; refine l_op (o_val r_mv ?_); refine l_op (o_val r_as ?_); refine l_op (o_val r_as ?_); first | refine l_end ?_ | refine l_nil ?_
    refine c_ret ?_; try dsimp only [Exit.then, Exit.inBlock]
    refine e_retN (vs := [.slice (hd a) ln c, VI 0]) _ Tryz.results23 rfl (resT (v := .slice (hd a) ln c) rfl (resT (v := VI 0) rfl (resZ))) ?_
    refine ⟨_, rfl, ?_⟩
    have hk0 : k = 0 := by omega
    subst hk0
    simp only [be, List.append_nil, Nat.add_zero] at hl hln
    subst hl hln
    exact ⟨_, _, rfl, H⟩
  ·
   refine l_no rfl rfl (by exact congrArg Value.bool (decide_eq_false hc1)) rfl ?_; refine l_no rfl rfl (by exact congrArg Value.bool (decide_eq_false hc1)) rfl ?_; refine l_no rfl rfl (by exact congrArg Value.bool (decide_eq_false hc1)) rfl ?_; refine l_no rfl rfl (by exact congrArg Value.bool (decide_eq_false hc1)) rfl ?_; refine l_no rfl rfl (by exact congrArg Value.bool (decide_eq_false hc1)) rfl ?_; refine l_no rfl rfl (by exact congrArg Value.bool (decide_eq_false hc1)) rfl ?_; refine l_op (o_val (r_pick (b := false) (congrArg Value.bool (decide_eq_false hc1))) ?_); refine l_op (o_val r_as ?_); first | refine l_end ?_ | refine l_nil ?_
   repeat refine c_seq ?_
   refine c_no rfl ?_; refine c_skip ?_; repeat refine c_seq ?_
   refine c_region ?_; refine l_op (o_val r_mv ?_); refine l_op (o_val r_mv ?_); refine l_op (o_callR Tryz.func67 rfl rfl rfl (own_ret _ s (hs.up H (fun _ => apart_nil _)) n (by omega)) ?_); rintro _ w ⟨a8, c9, rfl, Hc⟩
   replace H : Hp _ w _ ([.own a8 s.len c9 ((s.l).map V8) 5 1]) := H.call Hc
   clear Hc
   refine l_op (o_val r_as ?_); first | refine l_end ?_ | refine l_nil ?_
   repeat refine c_seq ?_
   refine c_region ?_; refine l_op (o_val r_mv ?_); refine l_op (o_val (r_bin (a := (n : Int)) (b := 1) rfl rfl (fun _ => b_sub (by omega) (by omega))) ?_); refine l_op (o_val r_as ?_); first | refine l_end ?_ | refine l_nil ?_
   repeat refine c_seq ?_
   refine c_block ?_; repeat refine c_seq ?_
   refine c_loop5 (fun (k : Nat) (l : List UInt8) (a : Option Nat) (ln : Nat) (c : Nat) => [(1, V64 u), (8, .slice (hd a) ln c), (9, VI ((k : Int) - 1))])
     (fun (k : Nat) (l : List UInt8) (a : Option Nat) (ln : Nat) (c : Nat) w => (k ≤ n ∧ l ++ be u.toNat k = s.l ++ be u.toNat n ∧ ln + k = s.len + n) ∧ Hp w0 w [] ([.own a ln c ((l).map V8) 5 1]))
     (fun (k : Nat) (l : List UInt8) (a : Option Nat) (ln : Nat) (c : Nat) => k) n s.l _ s.len _ ⟨rfl, rfl, rfl, trivial⟩ ⟨⟨Nat.le_refl _, rfl, rfl⟩, H⟩ ?_
   clear H
   rintro k l a ln c τ w ⟨⟨hk, hl, hln⟩, H⟩
   repeat refine c_seq ?_
   refine c_region ?_; refine l_op (o_val r_mv ?_); refine l_op (o_val (r_bin (a := ((k : Int) - 1)) (b := 0) rfl rfl (fun _ => b_geq)) ?_); first | refine l_end ?_ | refine l_nil ?_
   by_cases hc10 : 0 ≤ ((k : Int) - 1)
   ·
    repeat refine c_seq ?_
    refine c_yes (by exact congrArg Value.bool (decide_eq_true hc10)) ?_; refine c_skip ?_; repeat refine c_seq ?_
    refine c_block ?_; have hk1 : k = (k - 1) + 1 := by omega
    rw [hk1, be] at hl
    repeat refine c_seq ?_
    refine c_region ?_; refine l_op (o_val r_mv ?_); refine l_op (o_val r_mv ?_); refine l_op (o_val r_mv ?_); refine l_op (o_val (r_conv (v := ((UInt64.ofNat (k - 1)).toNat : Int)) Tryz.underlying3 Tryz.underlying117 rfl (w_u64_N (k - 1) (by omega))) ?_); refine l_op (o_val (r_bin (c64 8 (by decide)) rfl (fun _ => b_mul_u64N)) ?_); refine l_op (o_val (r_shift rfl rfl (.inr rfl) (fun _ => b_shr_u64N (8 * (k - 1)) (by omega))) ?_); refine l_op (o_val (r_conv Tryz.underlying33 Tryz.underlying5 rfl (w_u8_64 _)) ?_); refine l_op (o_bslB ([(u >>> UInt64.ofNat (8 * (k - 1))).toUInt8]) H sl24 zc5 rfl rfl (by decide) (fun b11 w H hb11 => ?_)); replace H : Hp _ w _ ([_, .own (some b11) 1 1 (([(u >>> UInt64.ofNat (8 * (k - 1))).toUInt8]).map V8) 5 1]) := H
    refine l_op (o_appB (s := ⟨hd (some b11), 1, 1, [(u >>> UInt64.ofNat (8 * (k - 1))).toUInt8]⟩) (l' := l ++ [UInt8.ofNat (u.toNat / 256 ^ (k - 1))]) (len' := ln + 1) (by rw [← shr_be u (k - 1) (by omega)]) rfl H (i := 0) rfl sl24 Tryz.underlying24 rfl rfl (H.slOwn (i := 1) rfl) (by omega) (fun a12 c13 w H => ?_)); replace H : Hp _ w _ ([.own a12 (ln + 1) c13 ((l ++ [UInt8.ofNat (u.toNat / 256 ^ (k - 1))]).map V8) 5 1, _]) := H
    refine l_op (o_val r_as ?_); first | refine l_end ?_ | refine l_nil ?_
    repeat refine c_seq ?_
    refine c_region ?_; refine l_op (o_val r_mv ?_); refine l_op (o_val (r_bin (a := ((k : Int) - 1)) (b := 1) rfl rfl (fun _ => b_sub (by omega) (by omega))) ?_); refine l_op (o_val r_as ?_); first | refine l_end ?_ | refine l_nil ?_
    refine round_end (k - 1, l ++ [UInt8.ofNat (u.toNat / 256 ^ (k - 1))], a12, ln + 1, c13) ?_ ?_ ?_
    · exact ⟨rfl, rfl, show VI (((k : Int) - 1) - 1) = VI (((k - 1 : Nat) : Int) - 1) from congrArg VI (by omega), trivial⟩
    · refine ⟨?_, ?_⟩
      · try dsimp only
        exact ⟨by omega, by simpa using hl, by omega⟩
      · exact H.sub (.cons_cons _ (List.nil_sublist _))
    · show (k - 1 : Nat) < k; omega
   ·
    repeat refine c_seq ?_
    refine c_no (by exact congrArg Value.bool (decide_eq_false hc10)) ?_; refine c_exit ?_; repeat refine c_seq ?_
    refine c_region ?_; refine l_op (o_val r_mv ?_); refine l_op (o_val r_as ?_); refine l_op (o_val r_as ?_); first | refine l_end ?_ | refine l_nil ?_
    refine c_ret ?_; try dsimp only [Exit.then, Exit.inBlock]
    refine e_retN (vs := [.slice (hd a) ln c, VI 0]) _ Tryz.results23 rfl (resT (v := .slice (hd a) ln c) rfl (resT (v := VI 0) rfl (resZ))) ?_
    refine ⟨_, rfl, ?_⟩
    have hk0 : k = 0 := by omega
    subst hk0
    simp only [be, List.append_nil, Nat.add_zero] at hl hln
    subst hl hln
    exact ⟨_, _, rfl, H⟩
end Go.Proofs.YtiepekfcegdkoaaGreatDoor
namespace Go.Proofs.YtiepekfcegdkoaaGreatDoor
open Go
set_option maxRecDepth 100000
/-- the text, 128 and j zeros. -/
def pz (l : List UInt8) (j : Nat) : List UInt8 := l ++ 128 :: List.replicate j 0
theorem pz_succ (l : List UInt8) (j : Nat) : pz l j ++ [0] = pz l (j + 1) := by simp [pz, List.replicate_succ']
def Zn (n : Nat) : Nat := (119 - n % 64) % 64
theorem mul8N (n : Nat) : UInt64.ofNat (n * 8) = UInt64.ofNat n <<< (3 : UInt64) := by
  rw [UInt64.ofNat_mul]
  apply UInt64.toNat_inj.1
  rw [UInt64.toNat_mul, UInt64.toNat_shiftLeft, Nat.shiftLeft_eq]
  rfl
/-- the text, what is behind it, and i bytes of its length. -/
def plen (l : List UInt8) (n i : Nat) : List UInt8 := pz l (Zn n) ++ (lenBytes (UInt64.ofNat n)).take i
theorem zeros_Zn (n : Nat) : zerosOf (UInt64.ofNat n) = Zn n := by
  rw [zerosOf, UInt64.toNat_ofNat', Zn]; congr 2; omega
theorem plen_zero (l : List UInt8) (n : Nat) : pz l (Zn n) = plen l n 0 := by simp [plen]
theorem plen_succ (l : List UInt8) (n i : Nat) (h : i < 8) (k : Nat) (hk : k = 56 - 8 * i) : plen l n i ++ [(UInt64.ofNat (n * 8) >>> UInt64.ofNat k).toUInt8] = plen l n (i + 1) := by
  rw [plen, plen, lenBytes_succ _ i h, mul8N, hk, List.append_assoc]
theorem plen_all (l : List UInt8) (n : Nat) (h : l.length = n) : plen l n 8 = padded l := by
  rw [plen, List.take_of_length_le (Nat.le_of_eq (lenBytes_length _)), padded, tailOf, pz, h, zeros_Zn]; simp
theorem padded_length (l : List UInt8) (n : Nat) (h : l.length = n) (_hn : n < 1152921504606846976) : (padded l).length = n + 1 + Zn n + 8 := by
  rw [padded, tailOf, h, zeros_Zn]; simp [lenBytes_length, h]; omega
theorem W64_word (x : UInt32) (q k : Nat) (hk : k = 24 - 8 * (q % 4)) : (x.toUInt64 >>> UInt64.ofNat k).toUInt8 = (x >>> UInt32.ofNat (24 - 8 * (q % 4))).toUInt8 := by
  apply UInt8.toNat_inj.1
  have e1 : (UInt64.ofNat k).toNat % 64 = k := by rw [UInt64.toNat_ofNat']; omega
  have e2 : (UInt32.ofNat (24 - 8 * (q % 4))).toNat % 32 = 24 - 8 * (q % 4) := by rw [UInt32.toNat_ofNat']; omega
  rw [UInt64.toNat_toUInt8, UInt64.toNat_shiftRight, e1, UInt32.toNat_toUInt8, UInt32.toNat_shiftRight, e2, UInt32.toNat_toUInt64, hk]
theorem u8_u64 (x : UInt8) : x.toUInt64 = UInt64.ofNat x.toNat := by
  apply UInt64.toNat_inj.1
  have := u8_lt x
  rw [UInt8.toNat_toUInt64, UInt64.toNat_ofNat']; omega
theorem wstep (M : List UInt8) (i q : Nat) (hq : q < 64) (x : UInt8) (hx : x = M.getD (64 * i + q) 0) :
    UInt64.ofNat (pwN ((M.drop (64 * i)).take 64) (q / 4) (q % 4) * 256) + x.toUInt64 = UInt64.ofNat (pwN ((M.drop (64 * i)).take 64) (q / 4) (q % 4 + 1)) := by
  have e : ((M.drop (64 * i)).take 64).getD (4 * (q / 4) + q % 4) 0 = x := by
    rw [show 4 * (q / 4) + q % 4 = q by omega, hx, List.getD_eq_getElem?_getD, List.getD_eq_getElem?_getD, List.getElem?_take_of_lt hq, List.getElem?_drop]
  rw [pwN, e, UInt64.ofNat_add, u8_u64]
/-- the first q bytes of a hash, zeros behind. -/
def wbp (W : List UInt32) (q : Nat) : List UInt8 := (wordBytes W).take q ++ List.replicate (32 - q) 0
theorem wbp_len (W : List UInt32) (q : Nat) (h : q ≤ 32) : (wbp W q).length = 32 := by simp [wbp, wordBytes_length]; omega
theorem wbp_set (W : List UInt32) (q : Nat) (h : q < 32) (v : UInt8) (hv : v = ((W.getD (q / 4) 0) >>> UInt32.ofNat (24 - 8 * (q % 4))).toUInt8) : (wbp W q).set q v = wbp W (q + 1) := by
  have hl : ((wordBytes W).take q).length = q := by simp [wordBytes_length]; omega
  have hg : (wordBytes W)[q]? = some v := by rw [hv, wordBytes]; simp [h]
  unfold wbp
  rw [List.set_append_right _ _ (by omega), hl, Nat.sub_self, show 32 - q = (32 - (q + 1)) + 1 by omega, List.replicate_succ, List.set_cons_zero, List.take_add_one, hg]
  simp
theorem wbp_all (W : List UInt32) : wbp W 32 = wordBytes W := by
  rw [wbp, List.take_of_length_le (Nat.le_of_eq (wordBytes_length _))]; simp
theorem W64_get (l : List UInt32) (k : Nat) (h : k < l.length) : (l.map W64)[k]? = some (V64 ((l.getD k 0).toUInt64)) := by
  simp [List.getD_eq_getElem?_getD, h, W64]
theorem foldB0 (M : List UInt8) : foldB initS M 0 = initS := rfl
attribute [local irreducible] padded wordBytes lenBytes plen
set_option maxHeartbeats 4000000 in
theorem sum2_ret (w0 : World) (s : Sl) (hs : s.ok w0) (hm : s.len ≤ 1048576) :
    Ret Tryz.prog 70 [s.v] w0 fun v w' => v = .agg ((sha256 s.l).map V8).toArray ∧ Hp w0 w' [] [] := by
  refine ret_mk Tryz.func70 rfl Tryz.ntmps70 (by simp) ?_
  have H := Hp.refl w0 []
  have hln := hs.ln
  have hle := hs.le
  repeat refine c_seq ?_
  refine c_region ?_; refine l_op (o_alloc H zc23 (fun b1 w H hb1 => ?_)); replace H : Hp _ w _ ([.blk b1 ((List.replicate 32 (0 : UInt8)).map V8) 23]) := H
  first | refine l_end ?_ | refine l_nil ?_
  repeat refine c_seq ?_
  refine c_region ?_; refine l_op (o_callR Tryz.func112 rfl rfl rfl (keys_ret _) ?_); rintro _ w ⟨rfl, Hc⟩
  replace H : Hp _ w _ ([_]) := H.call Hc
  clear Hc
  refine l_op (o_alloc H zc169 (fun b2 w H hb2 => ?_)); replace H : Hp _ w _ ([_, .blk b2 ((List.replicate 64 (Value.int .u64 0))) 169]) := H
  refine l_op (o_stw (vs := (primeWords.map W64).toArray) H (i := 1) rfl rfl rfl (by rw [cs169]; rfl) (all_W64 _) (by rfl) (fun w H => ?_)); replace H : Hp _ w _ ([_, .blk b2 (primeWords.map W64) 169]) := H
  first | refine l_end ?_ | refine l_nil ?_
  repeat refine c_seq ?_
  refine c_region ?_; refine l_op (o_bslB (([] : List UInt8)) H sl24 zc5 rfl rfl (by decide) (fun b3 w H hb3 => ?_)); replace H : Hp _ w _ ([_, _, .own (some b3) 0 0 ((([] : List UInt8)).map V8) 5 1]) := H
  refine l_op (o_val r_mv ?_); refine l_op (o_appB (s := s) (l' := s.l) (len' := s.len) rfl (Nat.zero_add _) H (i := 2) rfl sl24 Tryz.underlying24 rfl rfl (hs.up H (fun _ => apart_nil _)) (by omega) (fun a4 c5 w H => ?_)); replace H : Hp _ w _ ([_, _, .own a4 s.len c5 ((s.l).map V8) 5 1]) := H
  refine l_op (o_bslB ([(128 : UInt8)]) H sl24 zc5 rfl rfl (by decide) (fun b6 w H hb6 => ?_)); replace H : Hp _ w _ ([_, _, _, .own (some b6) 1 1 (([(128 : UInt8)]).map V8) 5 1]) := H
  refine l_op (o_appB (s := ⟨hd (some b6), 1, 1, [(128 : UInt8)]⟩) (l' := s.l ++ ([(128 : UInt8)])) (len' := s.len + 1) rfl rfl H (i := 2) rfl sl24 Tryz.underlying24 rfl rfl (H.slOwn (i := 3) rfl) (by omega) (fun a7 c8 w H => ?_)); replace H : Hp _ w _ ([_, _, .own a7 (s.len + 1) c8 ((s.l ++ ([(128 : UInt8)])).map V8) 5 1, _]) := H
  refine l_op (o_val r_as ?_); first | refine l_end ?_ | refine l_nil ?_
  repeat refine c_seq ?_
  refine c_block ?_; repeat refine c_seq ?_
  refine c_loop3 (fun (j : Nat) (a : Option Nat) (c : Nat) => [(0, s.v), (2, .pointer (some ⟨b1, 0, none⟩)), (3, .pointer (some ⟨b2, 0, none⟩)), (4, .slice (hd a) (s.len + 1 + j) c)])
    (fun (j : Nat) (a : Option Nat) (c : Nat) w => (j ≤ Zn s.len) ∧ Hp w0 w [] ([.blk b1 ((List.replicate 32 (0 : UInt8)).map V8) 23, .blk b2 (primeWords.map W64) 169, .own a (s.len + 1 + j) c ((pz s.l j).map V8) 5 1]))
    (fun (j : Nat) (a : Option Nat) (c : Nat) => Zn s.len - j) 0 a7 c8 ⟨rfl, rfl, rfl, rfl, trivial⟩ ⟨Nat.zero_le _, H.sub (.cons_cons _ (.cons_cons _ (.cons_cons _ (List.nil_sublist _))))⟩ ?_
  clear H
  rintro j a c τ w ⟨hj, H⟩
  have hZ : Zn s.len = (119 - s.len % 64) % 64 := rfl
  repeat refine c_seq ?_
  refine c_region ?_; refine l_op (o_val r_mv ?_); refine l_op (o_val (r_lens el24 rfl) ?_); refine l_op (o_val (r_bin (a := ((s.len + 1 + j : Nat) : Int)) (b := 64) rfl rfl (fun _ => b_rem (by omega) (by omega))) ?_); refine l_op (o_val (r_bin (a := ((s.len + 1 + j : Nat) : Int) % 64) (b := 56) rfl rfl (fun _ => b_neq)) ?_); first | refine l_end ?_ | refine l_nil ?_
  by_cases hc9 : ((s.len + 1 + j : Nat) : Int) % 64 ≠ 56
  ·
   repeat refine c_seq ?_
   refine c_yes (by exact congrArg Value.bool (decide_eq_true hc9)) ?_; refine c_skip ?_; repeat refine c_seq ?_
   refine c_block ?_; repeat refine c_seq ?_
   refine c_region ?_; refine l_op (o_val r_mv ?_); refine l_op (o_bslB ([(0 : UInt8)]) H sl24 zc5 rfl rfl (by decide) (fun b10 w H hb10 => ?_)); replace H : Hp _ w _ ([_, _, _, .own (some b10) 1 1 (([(0 : UInt8)]).map V8) 5 1]) := H
   refine l_op (o_appB (s := ⟨hd (some b10), 1, 1, [(0 : UInt8)]⟩) (l' := pz s.l (j + 1)) (len' := s.len + 1 + (j + 1)) (pz_succ _ _) rfl H (i := 2) rfl sl24 Tryz.underlying24 rfl rfl (H.slOwn (i := 3) rfl) (by omega) (fun a11 c12 w H => ?_)); replace H : Hp _ w _ ([_, _, .own a11 (s.len + 1 + (j + 1)) c12 ((pz s.l (j + 1)).map V8) 5 1, _]) := H
   refine l_op (o_val r_as ?_); first | refine l_end ?_ | refine l_nil ?_
   refine round_end (j + 1, a11, c12) ?_ ?_ ?_
   · exact ⟨rfl, rfl, rfl, rfl, trivial⟩
   · refine ⟨?_, ?_⟩
     · try dsimp only
       exact by omega
     · exact H.sub (.cons_cons _ (.cons_cons _ (.cons_cons _ (List.nil_sublist _))))
   · show Zn s.len - (j + 1 : Nat) < Zn s.len - j; omega
  ·
   repeat refine c_seq ?_
   refine c_no (by exact congrArg Value.bool (decide_eq_false hc9)) ?_; refine c_exit ?_; have hjz : j = Zn s.len := by omega
   subst hjz
   clear hj
   rw [plen_zero] at H
   replace H : Hp _ w _ ([_, _, .own a (s.len + 1 + Zn s.len) c ((plen s.l s.len 0).map V8) 5 1]) := H
   repeat refine c_seq ?_
   refine c_region ?_; refine l_op (o_val r_mv ?_); refine l_op (o_val (r_lens el24 rfl) ?_); refine l_op (o_val (r_conv (v := ((UInt64.ofNat s.len).toNat : Int)) Tryz.underlying3 Tryz.underlying33 rfl (w_u64_N s.len (by omega))) ?_); refine l_op (o_val (r_bin rfl (c64 8 (by decide)) (fun _ => b_mul_u64N)) ?_); refine l_op (o_val r_as ?_); first | refine l_end ?_ | refine l_nil ?_
   repeat refine c_seq ?_
   refine c_region ?_; refine l_op (o_val r_as ?_); first | refine l_end ?_ | refine l_nil ?_
   repeat refine c_seq ?_
   refine c_block ?_; repeat refine c_seq ?_
   refine c_loop3 (fun (i : Nat) (a : Option Nat) (c : Nat) => [(2, .pointer (some ⟨b1, 0, none⟩)), (3, .pointer (some ⟨b2, 0, none⟩)), (4, .slice (hd a) (s.len + 1 + Zn s.len + i) c), (5, V64 (UInt64.ofNat (s.len * 8))), (6, VI (i : Int))])
     (fun (i : Nat) (a : Option Nat) (c : Nat) w => (i ≤ 8) ∧ Hp w0 w [] ([.blk b1 ((List.replicate 32 (0 : UInt8)).map V8) 23, .blk b2 (primeWords.map W64) 169, .own a (s.len + 1 + Zn s.len + i) c ((plen s.l s.len i).map V8) 5 1]))
     (fun (i : Nat) (a : Option Nat) (c : Nat) => 8 - i) 0 a c ⟨rfl, rfl, rfl, rfl, rfl, trivial⟩ ⟨Nat.zero_le _, H⟩ ?_
   clear H
   rintro i a c τ w ⟨hi, H⟩
   have hZ : Zn s.len = (119 - s.len % 64) % 64 := rfl
   repeat refine c_seq ?_
   refine c_region ?_; refine l_op (o_val r_mv ?_); refine l_op (o_val (r_bin (a := (i : Int)) (b := 8) rfl rfl (fun _ => b_lss)) ?_); first | refine l_end ?_ | refine l_nil ?_
   by_cases hc13 : (i : Int) < 8
   ·
    repeat refine c_seq ?_
    refine c_yes (by exact congrArg Value.bool (decide_eq_true hc13)) ?_; refine c_skip ?_; repeat refine c_seq ?_
    refine c_block ?_; repeat refine c_seq ?_
    refine c_region ?_; refine l_op (o_val r_mv ?_); refine l_op (o_val r_mv ?_); refine l_op (o_val r_mv ?_); refine l_op (o_val (r_bin (a := 8) (b := (i : Int)) rfl rfl (fun _ => b_mul (by omega) (by omega))) ?_); refine l_op (o_val (r_bin (a := 56) (b := 8 * (i : Int)) rfl rfl (fun _ => b_sub (by omega) (by omega))) ?_); refine l_op (o_val (r_shift rfl rfl (.inr rfl) (fun _ => b_shr_u64 (by omega) (by omega))) ?_); refine l_op (o_val (r_conv Tryz.underlying33 Tryz.underlying5 rfl (w_u8_64 _)) ?_); refine l_op (o_bslB ([((UInt64.ofNat (s.len * 8)) >>> UInt64.ofNat (56 - (8 * (i : Int))).toNat).toUInt8]) H sl24 zc5 rfl rfl (by decide) (fun b14 w H hb14 => ?_)); replace H : Hp _ w _ ([_, _, _, .own (some b14) 1 1 (([((UInt64.ofNat (s.len * 8)) >>> UInt64.ofNat (56 - (8 * (i : Int))).toNat).toUInt8]).map V8) 5 1]) := H
    refine l_op (o_appB (s := ⟨hd (some b14), 1, 1, [((UInt64.ofNat (s.len * 8)) >>> UInt64.ofNat (56 - (8 * (i : Int))).toNat).toUInt8]⟩) (l' := plen s.l s.len (i + 1)) (len' := s.len + 1 + Zn s.len + (i + 1)) (plen_succ _ _ _ (by omega) _ (by omega)) rfl H (i := 2) rfl sl24 Tryz.underlying24 rfl rfl (H.slOwn (i := 3) rfl) (by omega) (fun a15 c16 w H => ?_)); replace H : Hp _ w _ ([_, _, .own a15 (s.len + 1 + Zn s.len + (i + 1)) c16 ((plen s.l s.len (i + 1)).map V8) 5 1, _]) := H
    refine l_op (o_val r_as ?_); first | refine l_end ?_ | refine l_nil ?_
    repeat refine c_seq ?_
    refine c_region ?_; refine l_op (o_val r_mv ?_); refine l_op (o_val (r_bin (a := (i : Int)) (b := 1) rfl rfl (fun _ => b_add (by omega) (by omega))) ?_); refine l_op (o_val r_as ?_); first | refine l_end ?_ | refine l_nil ?_
    refine round_end (i + 1, a15, c16) ?_ ?_ ?_
    · exact ⟨rfl, rfl, rfl, rfl, show VI ((i : Int) + 1) = VI ((i + 1 : Nat) : Int) from congrArg VI (by omega), trivial⟩
    · refine ⟨?_, ?_⟩
      · try dsimp only
        exact by omega
      · exact H.sub (.cons_cons _ (.cons_cons _ (.cons_cons _ (List.nil_sublist _))))
    · show 8 - (i + 1 : Nat) < 8 - i; omega
   ·
    repeat refine c_seq ?_
    refine c_no (by exact congrArg Value.bool (decide_eq_false hc13)) ?_; refine c_exit ?_; have hi8 : i = 8 := by omega
    subst hi8
    clear hi
    have hpd := padded_length s.l s.len hln (by omega)
    rw [plen_all s.l s.len hln] at H
    obtain ⟨N, hN⟩ := padded_len s.l (by omega)
    rw [hpd] at hN
    replace H : Hp _ w _ ([_, _, .own a (s.len + 1 + Zn s.len + 8) c ((padded s.l).map V8) 5 1]) := H
    repeat refine c_seq ?_
    refine c_region ?_; refine l_op (o_val (r_bld' (pv := en 0 (initS.l.map W64)) bd171 rfl (fill_en _ (all_W64 _) rfl)) ?_); refine l_op (o_alloc H zc171 (fun b17 w H hb17 => ?_)); replace H : Hp _ w _ ([_, _, _, .blk b17 ((List.replicate 8 (Value.int .u64 0))) 171]) := H
    refine l_op (o_stw (vs := (initS.l.map W64).toArray) H (i := 3) rfl rfl rfl (by rw [cs171]; rfl) (all_W64 _) (by rfl) (fun w H => ?_)); replace H : Hp _ w _ ([_, _, _, .blk b17 (initS.l.map W64) 171]) := H
    first | refine l_end ?_ | refine l_nil ?_
    repeat refine c_seq ?_
    refine c_region ?_; refine l_op (o_val r_as ?_); first | refine l_end ?_ | refine l_nil ?_
    repeat refine c_seq ?_
    refine c_block ?_; repeat refine c_seq ?_
    refine c_loop (fun (i : Nat) => [(2, .pointer (some ⟨b1, 0, none⟩)), (3, .pointer (some ⟨b2, 0, none⟩)), (4, .slice (hd a) (s.len + 1 + Zn s.len + 8) c), (7, .pointer (some ⟨b17, 0, none⟩)), (8, VI ((64 * i : Nat) : Int))])
      (fun (i : Nat) w => (i ≤ N) ∧ Hp w0 w [] ([.blk b1 ((List.replicate 32 (0 : UInt8)).map V8) 23, .blk b2 (primeWords.map W64) 169, .own a (s.len + 1 + Zn s.len + 8) c ((padded s.l).map V8) 5 1, .blk b17 ((foldB initS (padded s.l) i).l.map W64) 171]))
      (fun (i : Nat) => N - i) 0 ⟨rfl, rfl, rfl, rfl, rfl, trivial⟩ ⟨Nat.zero_le _, (by rw [foldB0]; exact H)⟩ ?_
    clear H
    rintro i τ w ⟨hi, H⟩
    repeat refine c_seq ?_
    refine c_region ?_; refine l_op (o_val r_mv ?_); refine l_op (o_val r_mv ?_); refine l_op (o_val (r_lens el24 rfl) ?_); refine l_op (o_val (r_bin (a := ((64 * i : Nat) : Int)) (b := ((s.len + 1 + Zn s.len + 8 : Nat) : Int)) rfl rfl (fun _ => b_lss)) ?_); first | refine l_end ?_ | refine l_nil ?_
    by_cases hc18 : ((64 * i : Nat) : Int) < ((s.len + 1 + Zn s.len + 8 : Nat) : Int)
    ·
     repeat refine c_seq ?_
     refine c_yes (by exact congrArg Value.bool (decide_eq_true hc18)) ?_; refine c_skip ?_; repeat refine c_seq ?_
     refine c_block ?_; repeat refine c_seq ?_
     refine c_region ?_; refine l_op (o_alloc H zc169 (fun b19 w H hb19 => ?_)); replace H : Hp _ w _ ([_, _, _, _, .blk b19 ((List.replicate 64 (Value.int .u64 0))) 169]) := H
     first | refine l_end ?_ | refine l_nil ?_
     repeat refine c_seq ?_
     refine c_region ?_; refine l_op (o_val r_as ?_); first | refine l_end ?_ | refine l_nil ?_
     repeat refine c_seq ?_
     refine c_block ?_; repeat refine c_seq ?_
     refine c_loop (fun (q : Nat) => [(2, .pointer (some ⟨b1, 0, none⟩)), (3, .pointer (some ⟨b2, 0, none⟩)), (4, .slice (hd a) (s.len + 1 + Zn s.len + 8) c), (7, .pointer (some ⟨b17, 0, none⟩)), (8, VI ((64 * i : Nat) : Int)), (9, .pointer (some ⟨b19, 0, none⟩)), (10, VI (q : Int))])
       (fun (q : Nat) w => (q ≤ 64) ∧ Hp w0 w [] ([.blk b1 ((List.replicate 32 (0 : UInt8)).map V8) 23, .blk b2 (primeWords.map W64) 169, .own a (s.len + 1 + Zn s.len + 8) c ((padded s.l).map V8) 5 1, .blk b17 ((foldB initS (padded s.l) i).l.map W64) 171, .blk b19 (wpart (((padded s.l).drop (64 * i)).take 64) q) 169]))
       (fun (q : Nat) => 64 - q) 0 ⟨rfl, rfl, rfl, rfl, rfl, rfl, rfl, trivial⟩ ⟨Nat.zero_le _, (by rw [wpart_zero]; exact H)⟩ ?_
     clear H
     rintro q τ w ⟨hq, H⟩
     repeat refine c_seq ?_
     refine c_region ?_; refine l_op (o_val r_mv ?_); refine l_op (o_val (r_bin (a := (q : Int)) (b := 64) rfl rfl (fun _ => b_lss)) ?_); first | refine l_end ?_ | refine l_nil ?_
     by_cases hc20 : (q : Int) < 64
     ·
      repeat refine c_seq ?_
      refine c_yes (by exact congrArg Value.bool (decide_eq_true hc20)) ?_; refine c_skip ?_; repeat refine c_seq ?_
      refine c_block ?_; repeat refine c_seq ?_
      refine wp_held (fun w => Hp w0 w [] [.blk b1 ((List.replicate 32 (0 : UInt8)).map V8) 23, .blk b2 (primeWords.map W64) 169, .own a (s.len + 1 + Zn s.len + 8) c ((padded s.l).map V8) 5 1, .blk b17 ((foldB initS (padded s.l) i).l.map W64) 171]) mixed ?_; replace H := H.drew
      have HS := H.sub (.cons_cons _ (.cons_cons _ (.cons_cons _ (.cons_cons _ (List.nil_sublist _)))))
      refine t_take 0 rfl (by kernel_rfl) (by kernel_rfl) (by kernel_rfl) (fun _ _ _ h => h) (fun w HS => r_mv) HS ?_; refine t_take 1 rfl (by kernel_rfl) (by kernel_rfl) (by kernel_rfl) (fun _ _ _ h => h) (fun w HS => r_bin (a := (q : Int)) (b := 4) rfl rfl (fun _ => b_quo (by omega) (by omega) (by omega))) HS ?_; refine t_take 2 rfl (by kernel_rfl) (by kernel_rfl) (by kernel_rfl) (fun _ _ _ h => h) (fun w HS => r_mv) HS ?_; refine t_take 3 rfl (by kernel_rfl) (by kernel_rfl) (by kernel_rfl) (fun _ _ _ h => h) (fun w HS => r_bin (a := (q : Int)) (b := 4) rfl rfl (fun _ => b_quo (by omega) (by omega) (by omega))) HS ?_; refine t_take 4 rfl (by kernel_rfl) (by kernel_rfl) (by kernel_rfl) (fun _ _ _ h => h) (fun w HS => r_iaN (q / 4) rfl rfl ar169 (by omega) (by omega)) HS ?_; refine t_take 7 rfl (by kernel_rfl) (by kernel_rfl) (by kernel_rfl) (fun _ _ _ h => h) (fun w HS => r_mv) HS ?_; refine t_take 8 rfl (by kernel_rfl) (by kernel_rfl) (by kernel_rfl) (fun _ _ _ h => h) (fun w HS => r_mv) HS ?_; refine t_take 9 rfl (by kernel_rfl) (by kernel_rfl) (by kernel_rfl) (fun _ _ _ h => h) (fun w HS => r_mv) HS ?_; refine t_take 10 rfl (by kernel_rfl) (by kernel_rfl) (by kernel_rfl) (fun _ _ _ h => h) (fun w HS => r_bin (a := ((64 * i : Nat) : Int)) (b := (q : Int)) rfl rfl (fun _ => b_add (by omega) (by omega))) HS ?_; have ah22 := HS.ownAddr (i := 2) rfl (by omega)
      obtain ⟨ab21, ah22⟩ := ah22
      refine t_take 11 rfl (by kernel_rfl) (by kernel_rfl) (by kernel_rfl) (fun _ _ _ h => h) (fun w HS => r_isN ((64 * i) + q) rfl rfl el24 ah22 (by omega) (by (try simp only [Sl.cut]); omega)) HS ?_; refine t_take 12 rfl (by kernel_rfl) (by kernel_rfl) (by kernel_rfl) (fun _ _ _ h => h) (fun w HS => r_ldB (s := ⟨hd a, s.len + 1 + Zn s.len + 8, c, padded s.l⟩) (k := (64 * i) + q) (HS.slOwn (i := 2) rfl) ah22 rfl ct5 (by (try simp only []); omega)) HS ?_; refine t_take 13 rfl (by kernel_rfl) (by kernel_rfl) (by kernel_rfl) (fun _ _ _ h => h) (fun w HS => r_conv Tryz.underlying5 Tryz.underlying33 rfl (w_u64_8 _)) HS ?_; refine t_step 5 rfl (by kernel_rfl) (o_val (r_ld H (v := V64 (UInt64.ofNat (pwN (((padded s.l).drop (64 * i)).take 64) (q / 4) (q % 4)))) (i := 4) rfl rfl ct33 (by rw [Nat.mul_one, Nat.zero_add]; exact wpart_get _ q (by omega))) ?_); refine ⟨H.sub (.cons_cons _ (.cons_cons _ (.cons_cons _ (.cons_cons _ (List.nil_sublist _))))), ?_⟩
      replace HS := H.sub (.cons_cons _ (.cons_cons _ (.cons_cons _ (.cons_cons _ (List.nil_sublist _)))))
      refine t_take 6 rfl (by kernel_rfl) (by kernel_rfl) (by kernel_rfl) (fun _ _ _ h => h) (fun w HS => r_bin rfl (c64 256 (by decide)) (fun _ => b_mul_u64N)) HS ?_; refine t_take 14 rfl (by kernel_rfl) (by kernel_rfl) (by kernel_rfl) (fun _ _ _ h => h) (fun w HS => r_bin rfl rfl (fun _ => b_add_u64)) HS ?_; refine t_take 15 rfl (by kernel_rfl) (by kernel_rfl) (by kernel_rfl) (fun _ _ _ h => h) (fun w HS => r_iaN (q / 4) rfl rfl ar169 (by omega) (by omega)) HS ?_; refine t_step 16 rfl (by kernel_rfl) (o_st (v := V64 (UInt64.ofNat (pwN (((padded s.l).drop (64 * i)).take 64) (q / 4) (q % 4 + 1)))) H (i := 4) rfl rfl (congrArg V64 (wstep (padded s.l) i q (by omega) _ rfl)) cs33 rfl (by rw [wpart_length]; omega) (fun w H => ?_))
      rw [Nat.mul_one, Nat.zero_add, wpart_set _ q (by omega)] at H
      replace H : Hp _ w _ ([_, _, _, _, .blk b19 (wpart (((padded s.l).drop (64 * i)).take 64) (q + 1)) 169]) := H
      refine ⟨H.sub (.cons_cons _ (.cons_cons _ (.cons_cons _ (.cons_cons _ (List.nil_sublist _))))), ?_⟩
      replace HS := H.sub (.cons_cons _ (.cons_cons _ (.cons_cons _ (.cons_cons _ (List.nil_sublist _)))))
      refine t_done (by kernel_rfl) ?_
      clear HS
      repeat refine c_seq ?_
      refine c_region ?_; refine l_op (o_val r_mv ?_); refine l_op (o_val (r_bin (a := (q : Int)) (b := 1) rfl rfl (fun _ => b_add (by omega) (by omega))) ?_); refine l_op (o_val r_as ?_); first | refine l_end ?_ | refine l_nil ?_
      refine round_end (q + 1) ?_ ?_ ?_
      · exact ⟨rfl, rfl, rfl, rfl, rfl, rfl, show VI ((q : Int) + 1) = VI ((q + 1 : Nat) : Int) from congrArg VI (by omega), trivial⟩
      · refine ⟨?_, ?_⟩
        · try dsimp only
          exact by omega
        · exact H
      · show 64 - (q + 1 : Nat) < 64 - q; omega
     ·
      repeat refine c_seq ?_
      refine c_no (by exact congrArg Value.bool (decide_eq_false hc20)) ?_; refine c_exit ?_; have hq64 : q = 64 := by omega
      subst hq64
      clear hq
      rw [wpart_all] at H
      replace H : Hp _ w _ ([_, _, _, _, .blk b19 (padW (firsts (((padded s.l).drop (64 * i)).take 64) 16)) 169]) := H
      repeat refine c_seq ?_
      refine c_region ?_; refine l_op (o_val (r_ldA H (i := 3) rfl rfl rt171 (by rw [List.length_map]; rfl)) ?_); refine l_op (o_val (r_ldA H (i := 4) rfl rfl rt169 (padW_length _ (by rw [firsts_length]; omega))) ?_); refine l_op (o_val (r_ldA H (i := 1) rfl rfl rt169 (by rfl)) ?_); refine l_op (o_callR Tryz.func113 rfl rfl rfl (block_ret _ (foldB initS (padded s.l) i) (((padded s.l).drop (64 * i)).take 64)) ?_); rintro _ w ⟨rfl, Hc⟩
      replace H : Hp _ w _ ([_, _, _, _, _]) := H.call Hc
      clear Hc
      refine l_op (o_stw (vs := ((foldB initS (padded s.l) (i + 1)).l.map W64).toArray) H (i := 3) rfl rfl rfl (by rw [cs171]; rfl) (all_W64 _) (by rw [List.length_map]; rfl) (fun w H => ?_)); replace H : Hp _ w _ ([_, _, _, .blk b17 ((foldB initS (padded s.l) (i + 1)).l.map W64) 171, _]) := H
      first | refine l_end ?_ | refine l_nil ?_
      repeat refine c_seq ?_
      refine c_region ?_; refine l_op (o_val r_mv ?_); refine l_op (o_val (r_bin (a := ((64 * i : Nat) : Int)) (b := 64) rfl rfl (fun _ => b_add (by omega) (by omega))) ?_); refine l_op (o_val r_as ?_); first | refine l_end ?_ | refine l_nil ?_
      refine round_end (i + 1) ?_ ?_ ?_
      · exact ⟨rfl, rfl, rfl, rfl, show VI (((64 * i : Nat) : Int) + 64) = VI ((64 * (i + 1 : Nat) : Nat) : Int) from congrArg VI (by omega), trivial⟩
      · refine ⟨?_, ?_⟩
        · try dsimp only
          exact by omega
        · exact H.sub (.cons_cons _ (.cons_cons _ (.cons_cons _ (.cons_cons _ (List.nil_sublist _)))))
      · show N - (i + 1 : Nat) < N - i; omega
    ·
     repeat refine c_seq ?_
     refine c_no (by exact congrArg Value.bool (decide_eq_false hc18)) ?_; refine c_exit ?_; have hiN : i = N := by omega
     subst hiN
     clear hi
     repeat refine c_seq ?_
     refine c_region ?_; refine l_op (o_alloc H zc23 (fun b23 w H hb23 => ?_)); replace H : Hp _ w _ ([_, _, _, _, .blk b23 ((List.replicate 32 (0 : UInt8)).map V8) 23]) := H
     first | refine l_end ?_ | refine l_nil ?_
     repeat refine c_seq ?_
     refine c_region ?_; refine l_op (o_val r_as ?_); first | refine l_end ?_ | refine l_nil ?_
     repeat refine c_seq ?_
     refine c_block ?_; repeat refine c_seq ?_
     refine c_loop (fun (q : Nat) => [(2, .pointer (some ⟨b1, 0, none⟩)), (7, .pointer (some ⟨b17, 0, none⟩)), (11, .pointer (some ⟨b23, 0, none⟩)), (12, VI (q : Int))])
       (fun (q : Nat) w => (q ≤ 32) ∧ Hp w0 w [] ([.blk b1 ((List.replicate 32 (0 : UInt8)).map V8) 23, .blk b2 (primeWords.map W64) 169, .own a (s.len + 1 + Zn s.len + 8) c ((padded s.l).map V8) 5 1, .blk b17 ((foldB initS (padded s.l) i).l.map W64) 171, .blk b23 ((wbp (foldB initS (padded s.l) i).l q).map V8) 23]))
       (fun (q : Nat) => 32 - q) 0 ⟨rfl, rfl, rfl, rfl, trivial⟩ ⟨Nat.zero_le _, (by rw [show wbp (foldB initS (padded s.l) i).l 0 = List.replicate 32 (0 : UInt8) by simp [wbp]]; exact H)⟩ ?_
     clear H
     rintro q τ w ⟨hq, H⟩
     repeat refine c_seq ?_
     refine c_region ?_; refine l_op (o_val r_mv ?_); refine l_op (o_val (r_bin (a := (q : Int)) (b := 32) rfl rfl (fun _ => b_lss)) ?_); first | refine l_end ?_ | refine l_nil ?_
     by_cases hc24 : (q : Int) < 32
     ·
      repeat refine c_seq ?_
      refine c_yes (by exact congrArg Value.bool (decide_eq_true hc24)) ?_; refine c_skip ?_; repeat refine c_seq ?_
      refine c_block ?_; repeat refine c_seq ?_
      refine c_region ?_; refine l_op (o_val r_mv ?_); refine l_op (o_val r_mv ?_); refine l_op (o_val (r_bin (a := (q : Int)) (b := 4) rfl rfl (fun _ => b_quo (by omega) (by omega) (by omega))) ?_); refine l_op (o_val (r_iaN (q / 4) rfl rfl ar171 (by omega) (by omega)) ?_); refine l_op (o_val (r_ld H (v := V64 (((foldB initS (padded s.l) i).l.getD (q / 4) 0).toUInt64)) (i := 3) rfl rfl ct33 (by rw [Nat.mul_one, Nat.zero_add]; exact W64_get _ _ (by show q / 4 < 8; omega))) ?_); refine l_op (o_val r_mv ?_); refine l_op (o_val (r_bin (a := (q : Int)) (b := 4) rfl rfl (fun _ => b_rem (by omega) (by omega))) ?_); refine l_op (o_val (r_bin (a := 8) (b := (q : Int) % 4) rfl rfl (fun _ => b_mul (by omega) (by omega))) ?_); refine l_op (o_val (r_bin (a := 24) (b := 8 * ((q : Int) % 4)) rfl rfl (fun _ => b_sub (by omega) (by omega))) ?_); refine l_op (o_val (r_shift rfl rfl (.inr rfl) (fun _ => b_shr_u64 (by omega) (by omega))) ?_); refine l_op (o_val (r_conv Tryz.underlying33 Tryz.underlying5 rfl (w_u8_64 _)) ?_); refine l_op (o_val (r_iaN q rfl rfl ar23 (by omega) (by omega)) ?_); refine l_op (o_stAB (u := ((((foldB initS (padded s.l) i).l.getD (q / 4) 0).toUInt64) >>> UInt64.ofNat (24 - (8 * ((q : Int) % 4))).toNat).toUInt8) (k := q) H (i := 4) rfl rfl rfl cs5 (by rw [(show (wbp (foldB initS (padded s.l) i).l q).length = 32 from wbp_len _ _ (by omega))]; omega) (fun w H => ?_))
      rw [show (wbp (foldB initS (padded s.l) i).l q).set q (((((foldB initS (padded s.l) i).l.getD (q / 4) 0).toUInt64) >>> UInt64.ofNat (24 - (8 * ((q : Int) % 4))).toNat).toUInt8) = wbp (foldB initS (padded s.l) i).l (q + 1) from wbp_set _ q (by omega) _ (W64_word _ q _ (by omega))] at H
      replace H : Hp _ w _ ([_, _, _, _, .blk b23 ((wbp (foldB initS (padded s.l) i).l (q + 1)).map V8) 23]) := H
      first | refine l_end ?_ | refine l_nil ?_
      repeat refine c_seq ?_
      refine c_region ?_; refine l_op (o_val r_mv ?_); refine l_op (o_val (r_bin (a := (q : Int)) (b := 1) rfl rfl (fun _ => b_add (by omega) (by omega))) ?_); refine l_op (o_val r_as ?_); first | refine l_end ?_ | refine l_nil ?_
      refine round_end (q + 1) ?_ ?_ ?_
      · exact ⟨rfl, rfl, rfl, show VI ((q : Int) + 1) = VI ((q + 1 : Nat) : Int) from congrArg VI (by omega), trivial⟩
      · refine ⟨?_, ?_⟩
        · try dsimp only
          exact by omega
        · exact H
      · show 32 - (q + 1 : Nat) < 32 - q; omega
     ·
      repeat refine c_seq ?_
      refine c_no (by exact congrArg Value.bool (decide_eq_false hc24)) ?_; refine c_exit ?_; repeat refine c_seq ?_
      refine c_region ?_; refine l_op (o_val (r_ldAA (l := wbp (foldB initS (padded s.l) i).l q) H (i := 4) rfl rfl rt23 (show (wbp (foldB initS (padded s.l) i).l q).length = 32 from wbp_len _ _ (by omega))) ?_); refine l_op (o_stA (l' := wbp (foldB initS (padded s.l) i).l q) H (i := 0) rfl rfl rfl cs23 (show (List.replicate 32 (0 : UInt8)).length = 32 from (List.length_replicate ..)) (show (wbp (foldB initS (padded s.l) i).l q).length = 32 from wbp_len _ _ (by omega)) (fun w H => ?_)); replace H : Hp _ w _ ([.blk b1 ((wbp (foldB initS (padded s.l) i).l q).map V8) 23, _, _, _, _]) := H
      first | refine l_end ?_ | refine l_nil ?_
      refine c_ret ?_; try dsimp only [Exit.then, Exit.inBlock]
      refine e_retA (l := wbp (foldB initS (padded s.l) i).l q) Tryz.results70 H (i := 0) rfl rfl rt23 (show (wbp (foldB initS (padded s.l) i).l q).length = 32 from wbp_len _ _ (by omega)) ?_
      refine ⟨_, rfl, ?_⟩
      have hq32 : q = 32 := by omega
      subst hq32
      refine ⟨?_, H.sub (List.nil_sublist _)⟩
      rw [wbp_all, sha256_eq, digest_padded s.l i (by rw [hpd]; omega)]
end Go.Proofs.YtiepekfcegdkoaaGreatDoor
namespace Go.Proofs.YtiepekfcegdkoaaGreatDoor
open Go
set_option maxRecDepth 100000
theorem or_xor_zero (x a b : UInt8) : x ||| (a ^^^ b) = 0 ↔ x = 0 ∧ a = b := by
  constructor
  · intro h
    have h1 := congrArg UInt8.toBitVec h
    simp only [UInt8.toBitVec_or, UInt8.toBitVec_xor] at h1
    have hx : x.toBitVec = 0#8 := by
      apply BitVec.eq_of_getElem_eq
      intro i hi
      have := congrArg (·[i]) h1
      simp at this
      simp [this.1]
    have hab : a.toBitVec = b.toBitVec := by
      apply BitVec.eq_of_getElem_eq
      intro i hi
      have := congrArg (·[i]) h1
      simp at this
      exact this.2
    exact ⟨UInt8.toBitVec_inj.1 hx, UInt8.toBitVec_inj.1 hab⟩
  · rintro ⟨rfl, rfl⟩; simp
theorem take_succ_eq {a b : List UInt8} (i : Nat) (ha : i < a.length) (hb : i < b.length) : a.take (i + 1) = b.take (i + 1) ↔ a.take i = b.take i ∧ a.getD i 0 = b.getD i 0 := by
  have e : ∀ l : List UInt8, i < l.length → l.take (i + 1) = l.take i ++ [l.getD i 0] := fun l hl => by
    rw [List.take_add_one, List.getD_eq_getElem?_getD]; simp [hl]
  rw [e a ha, e b hb]
  constructor
  · intro h
    have := List.append_inj h (by simp; omega)
    exact ⟨this.1, by simpa using this.2⟩
  · rintro ⟨h1, h2⟩; rw [h1, h2]
theorem equal_ret (w0 : World) (s u : Sl) (hs : s.ok w0) (hu : u.ok w0) :
    Ret Tryz.prog 78 [s.v, u.v] w0 fun v w' => v = .bool (decide (s.l = u.l)) ∧ Hp w0 w' [] [] := by
  refine ret_mk Tryz.func78 rfl Tryz.ntmps78 (by simp) ?_
  have H := Hp.refl w0 []
  have hsl := hs.ln
  have hul := hu.ln
  have hmx := hs.mx
  repeat refine c_seq ?_
  refine c_region ?_; refine l_op (o_val r_as ?_); first | refine l_end ?_ | refine l_nil ?_
  repeat refine c_seq ?_
  refine c_region ?_; refine l_op (o_val r_mv ?_); refine l_op (o_val (r_lens el24 rfl) ?_); refine l_op (o_val r_mv ?_); refine l_op (o_val (r_lens el24 rfl) ?_); refine l_op (o_val (r_bin (a := (s.len : Int)) (b := (u.len : Int)) rfl rfl (fun _ => b_neq)) ?_); first | refine l_end ?_ | refine l_nil ?_
  by_cases hc1 : (s.len : Int) ≠ (u.len : Int)
  ·
   repeat refine c_seq ?_
   refine c_yes (by exact congrArg Value.bool (decide_eq_true hc1)) ?_; repeat refine c_seq ?_
   refine c_region ?_; refine l_op (o_val r_as ?_); first | refine l_end ?_ | refine l_nil ?_
   refine c_ret ?_; try dsimp only [Exit.then, Exit.inBlock]
   refine e_ret1 (v := .bool false) Tryz.results78 rfl ?_
   refine ⟨_, rfl, ?_⟩
   refine ⟨?_, H⟩
   have e : ¬ s.l = u.l := fun e => by rw [e] at hsl; omega
   rw [decide_eq_false e]
  ·
   repeat refine c_seq ?_
   refine c_no (by exact congrArg Value.bool (decide_eq_false hc1)) ?_; refine c_skip ?_; repeat refine c_seq ?_
   refine c_region ?_; refine l_op (o_val (r_asV (c8 0 (by decide))) ?_); first | refine l_end ?_ | refine l_nil ?_
   repeat refine c_seq ?_
   refine c_region ?_; refine l_op (o_val r_mv ?_); refine l_op (o_val (r_lens el24 rfl) ?_); refine l_op (o_val r_mv ?_); first | refine l_end ?_ | refine l_nil ?_
   repeat refine c_seq ?_
   refine c_block ?_; repeat refine c_seq ?_
   refine c_loop2 (fun (i : Nat) (x : UInt8) => [(0, s.v), (1, u.v), (5, V8 x), (13, VI (s.len : Int)), (14, VI (i : Int))])
     (fun (i : Nat) (x : UInt8) w => (i ≤ s.len ∧ (x = 0 ↔ s.l.take i = u.l.take i)) ∧ Hp w0 w [] ([]))
     (fun (i : Nat) (x : UInt8) => s.len - i) 0 (UInt8.ofNat 0) ⟨rfl, rfl, rfl, rfl, rfl, trivial⟩ ⟨⟨Nat.zero_le _, by simp⟩, H⟩ ?_
   clear H
   rintro i x τ w ⟨⟨hi, hx⟩, H⟩
   repeat refine c_seq ?_
   refine c_region ?_; refine l_op (o_val (r_bin (a := (i : Int)) (b := (s.len : Int)) rfl rfl (fun _ => b_lss)) ?_); first | refine l_end ?_ | refine l_nil ?_
   by_cases hc2 : (i : Int) < (s.len : Int)
   ·
    repeat refine c_seq ?_
    refine c_yes (by exact congrArg Value.bool (decide_eq_true hc2)) ?_; refine c_skip ?_; repeat refine c_seq ?_
    refine c_block ?_; repeat refine c_seq ?_
    refine c_region ?_; refine l_op (o_val r_mv ?_); refine l_op (o_val r_as ?_); first | refine l_end ?_ | refine l_nil ?_
    repeat refine c_seq ?_
    refine c_still mixed (by kernel_rfl) ?_; replace H := H.drew
    refine s_op (r_mv) ?_; refine s_op (r_mv) ?_; refine s_op (r_mv) ?_; have ah5 := ((hs.up H (fun _ => apart_nil _))).addr (by (try simp only [Sl.cut]); omega)
    obtain ⟨ab3, ao4, ah5⟩ := ah5
    refine s_op (r_isN i rfl rfl el24 ah5 (by omega) (by (try simp only [Sl.cut]); omega)) ?_; refine s_op (r_ldB (s := s) (k := i) (hs.up H (fun _ => apart_nil _)) ah5 rfl ct5 (by (try simp only [Sl.cut]); omega)) ?_; refine s_op (r_mv) ?_; refine s_op (r_mv) ?_; have ah8 := ((hu.up H (fun _ => apart_nil _))).addr (by (try simp only [Sl.cut]); omega)
    obtain ⟨ab6, ao7, ah8⟩ := ah8
    refine s_op (r_isN i rfl rfl el24 ah8 (by omega) (by (try simp only [Sl.cut]); omega)) ?_; refine s_op (r_ldB (s := u) (k := i) (hu.up H (fun _ => apart_nil _)) ah8 rfl ct5 (by (try simp only [Sl.cut]); omega)) ?_; refine s_op (r_bin rfl rfl (fun _ => b_xor_u8)) ?_; refine s_op (r_bin rfl rfl (fun _ => b_or_u8)) ?_; refine s_op (r_as) ?_; refine s_nil ?_; repeat refine c_seq ?_
    refine c_region ?_; refine l_op (o_val (r_bin (a := (i : Int)) (b := 1) rfl rfl (fun _ => b_add (by omega) (by omega))) ?_); refine l_op (o_val r_mv ?_); first | refine l_end ?_ | refine l_nil ?_
    refine round_end (i + 1, x ||| (((s.l).getD i 0) ^^^ ((u.l).getD i 0))) ?_ ?_ ?_
    · exact ⟨rfl, rfl, show V8 (x ||| (((s.l).getD i 0) ^^^ ((u.l).getD i 0))) = V8 (x ||| (((s.l).getD i 0) ^^^ ((u.l).getD i 0)) : UInt8) from congrArg V8 rfl, rfl, show VI ((i : Int) + 1) = VI ((i + 1 : Nat) : Int) from congrArg VI (by omega), trivial⟩
    · refine ⟨?_, ?_⟩
      · try dsimp only
        exact ⟨by omega, by rw [or_xor_zero, hx, take_succ_eq i (by omega) (by omega)]⟩
      · exact H
    · show s.len - (i + 1 : Nat) < s.len - i; omega
   ·
    repeat refine c_seq ?_
    refine c_no (by exact congrArg Value.bool (decide_eq_false hc2)) ?_; refine c_exit ?_; repeat refine c_seq ?_
    refine c_region ?_; refine l_op (o_val r_mv ?_); refine l_op (o_val (r_bin (a := (x.toNat : Int)) (b := 0) rfl rfl (fun _ => b_eql)) ?_); refine l_op (o_val r_as ?_); first | refine l_end ?_ | refine l_nil ?_
    refine c_ret ?_; try dsimp only [Exit.then, Exit.inBlock]
    refine e_ret1 (v := .bool (decide ((x.toNat : Int) = 0))) Tryz.results78 rfl ?_
    refine ⟨_, rfl, ?_⟩
    refine ⟨?_, H⟩
    congr 1
    have hi2 : i = s.len := by omega
    subst hi2
    rw [List.take_of_length_le (by omega), List.take_of_length_le (by omega)] at hx
    rw [decide_eq_decide, ← hx, ← UInt8.toNat_inj]
    have z : (0 : UInt8).toNat = 0 := rfl
    rw [z]
    omega
/-- a key's bytes, and zeros to a block. -/
def padk (k : List UInt8) : List UInt8 := k ++ List.replicate (64 - k.length) 0
def hkey (k : List UInt8) : List UInt8 := if 64 < k.length then sha256 k else k
def kpad (k : List UInt8) (m : UInt8) : List UInt8 := (padk k).map (· ^^^ m)
def hmac (k b : List UInt8) : List UInt8 := sha256 (kpad (hkey k) 92 ++ sha256 (kpad (hkey k) 54 ++ b))
theorem hmac_len (k b : List UInt8) : (hmac k b).length = 32 := by simp [hmac, sha256_len]
theorem padk_len (k : List UInt8) (h : k.length ≤ 64) : (padk k).length = 64 := by simp [padk]; omega
theorem copy_pad (k : List UInt8) (n : Nat) (hn : k.length = n) (h : n ≤ 64) : k.take (min n 64) ++ (List.replicate 64 (0 : UInt8)).drop (min n 64) = padk k := by
  rw [Nat.min_eq_left h, List.take_of_length_le (by omega), List.drop_replicate, padk, hn]
def xpart (l : List UInt8) (m : UInt8) (i : Nat) : List UInt8 := (l.take i).map (· ^^^ m) ++ l.drop i
theorem xpart_len (l : List UInt8) (m : UInt8) (i : Nat) (h : i ≤ l.length) : (xpart l m i).length = l.length := by simp [xpart]; omega
theorem xpart_hd (l : List UInt8) (m : UInt8) (i : Nat) (h : i ≤ l.length) : ((l.take i).map (· ^^^ m)).length = i := by simp; omega
theorem xpart_get (l : List UInt8) (m : UInt8) (i : Nat) (h : i < l.length) : (xpart l m i).getD i 0 = l.getD i 0 := by
  have hl := xpart_hd l m i (by omega)
  rw [xpart, List.getD_eq_getElem?_getD, List.getD_eq_getElem?_getD, List.getElem?_append_right (by omega), hl, Nat.sub_self, List.getElem?_drop, Nat.add_zero]
theorem xpart_set (l : List UInt8) (m : UInt8) (i : Nat) (h : i < l.length) : (xpart l m i).set i ((xpart l m i).getD i 0 ^^^ m) = xpart l m (i + 1) := by
  have hl := xpart_hd l m i (by omega)
  rw [xpart_get l m i h]
  unfold xpart
  rw [List.set_append_right _ _ (by omega), hl, Nat.sub_self, List.drop_eq_getElem_cons h, List.set_cons_zero, List.take_add_one, List.map_append, List.append_assoc]
  simp [List.getD_eq_getElem?_getD, h]
theorem padded_ret (w0 : World) (s : Sl) (hs : s.ok w0) (m : UInt8) :
    Ret Tryz.prog 68 [s.v, V8 m] w0 fun v w' => ∃ b, v = .slice (hd (some b)) 64 64 ∧ Hp w0 w' [] [.own (some b) 64 64 ((kpad (hkey s.l) m).map V8) 5 1] := by
  refine ret_mk Tryz.func68 rfl Tryz.ntmps68 (by simp) ?_
  have H := Hp.refl w0 []
  have hsl := hs.ln
  have hmx := hs.mx
  repeat refine c_seq ?_
  refine c_region ?_; refine l_op (o_val r_as ?_); first | refine l_end ?_ | refine l_nil ?_
  repeat refine c_seq ?_
  refine c_region ?_; refine l_op (o_val r_mv ?_); refine l_op (o_val (r_lens el24 rfl) ?_); refine l_op (o_val (r_bin (a := (s.len : Int)) (b := 64) rfl rfl (fun _ => b_gtr)) ?_); first | refine l_end ?_ | refine l_nil ?_
  by_cases hc1 : 64 < (s.len : Int)
  ·
   repeat refine c_seq ?_
   refine c_yes (by exact congrArg Value.bool (decide_eq_true hc1)) ?_; repeat refine c_seq ?_
   refine c_region ?_; refine l_op (o_val r_mv ?_); refine l_op (o_bslV ([s.v]) H sl58 zc24 rfl (by simp [Value.oneCell', Sl.v]) rfl (by decide) (fun b2 w H hb2 => ?_)); replace H : Hp _ w _ ([.own (some b2) 1 1 ([s.v]) 24 1]) := H
   refine l_op (o_callR Tryz.func66 rfl rfl rfl (sha1_ret _ _ s (H.own (i := 0) rfl) (hs.up H (fun _ => apart_nil _))) ?_); rintro _ w ⟨rfl, Hc⟩
   replace H : Hp _ w _ ([_]) := H.call Hc
   clear Hc
   refine l_op (o_alloc H zc23 (fun b3 w H hb3 => ?_)); replace H : Hp _ w _ ([_, .blk b3 ((List.replicate 32 (0 : UInt8)).map V8) 23]) := H
   refine l_op (o_stA (l' := sha256 (s.l)) H (i := 1) rfl rfl rfl cs23 (show (List.replicate 32 (0 : UInt8)).length = 32 from (List.length_replicate ..)) (show (sha256 (s.l)).length = 32 from sha256_len _) (fun w H => ?_)); replace H : Hp _ w _ ([_, .blk b3 ((sha256 (s.l)).map V8) 23]) := H
   first | refine l_end ?_ | refine l_nil ?_
   repeat refine c_seq ?_
   refine c_region ?_; refine l_op (o_val (r_slA (h := 32) (m := 32) (lv := none) (hv := none) (mv := none) rfl ar23 rfl rfl rfl (fun w => sbn w)) ?_); refine l_op (o_val r_as ?_); first | refine l_end ?_ | refine l_nil ?_
   repeat refine c_seq ?_
   refine c_region ?_; refine l_op (o_makeB 64 H sl24 zc5 rfl rfl (by omega) (by omega) (by omega) (fun b4 w H hb4 => ?_)); replace H : Hp _ w _ ([_, _, .own (some b4) 64 64 ((List.replicate 64 (0 : UInt8)).map V8) 5 1]) := H
   refine l_op (o_val r_as ?_); first | refine l_end ?_ | refine l_nil ?_
   repeat refine c_seq ?_
   refine c_region ?_; refine l_op (o_val r_mv ?_); refine l_op (o_val r_mv ?_); refine l_op (o_copyB (s := (⟨some ⟨b3, 0, none⟩, 32, 32, sha256 (s.l)⟩ : Sl)) H (i := 2) rfl Tryz.underlying24 Tryz.underlying24 cs5 rfl rfl (H.slBlkA (i := 1) rfl 32 (show (sha256 (s.l)).length = 32 from sha256_len _) (by decide)) (by omega) (fun w H => ?_)); replace H : Hp _ w _ ([_, _, .own (some b4) 64 64 (((sha256 (s.l)).take (min 32 64) ++ (List.replicate 64 (0 : UInt8)).drop (min 32 64)).map V8) 5 1]) := H
   first | refine l_end ?_ | refine l_nil ?_
   have hkl : (sha256 (s.l)).length ≤ 64 := by first | omega | simp [sha256_len]
   have en : (sha256 (s.l)).take (min 32 64) ++ (List.replicate 64 (0 : UInt8)).drop (min 32 64) = padk (sha256 (s.l)) := copy_pad _ _ (by first | omega | simp [sha256_len]) (by omega)
   rw [en] at H; clear en
   replace H : Hp _ w _ ([_, _, .own (some b4) 64 64 ((padk (sha256 (s.l))).map V8) 5 1]) := H
   repeat refine c_seq ?_
   refine c_region ?_; refine l_op (o_val r_mv ?_); refine l_op (o_val (r_lens el24 rfl) ?_); refine l_op (o_val r_mv ?_); first | refine l_end ?_ | refine l_nil ?_
   repeat refine c_seq ?_
   refine c_block ?_; repeat refine c_seq ?_
   refine c_loop (fun (i : Nat) => [(1, V8 m), (6, .slice (hd (some b4)) 64 64), (20, VI 64), (21, VI (i : Int))])
     (fun (i : Nat) w => (i ≤ 64) ∧ Hp w0 w [] ([.own (some b2) 1 1 ([s.v]) 24 1, .blk b3 ((sha256 (s.l)).map V8) 23, .own (some b4) 64 64 ((xpart (padk (sha256 (s.l))) m i).map V8) 5 1]))
     (fun (i : Nat) => 64 - i) 0 ⟨rfl, rfl, rfl, rfl, trivial⟩ ⟨by omega, H⟩ ?_
   clear H
   rintro i τ w ⟨hi, H⟩
   have hpl := padk_len (sha256 (s.l)) hkl
   have hxl := xpart_len (padk (sha256 (s.l))) m i (by omega)
   repeat refine c_seq ?_
   refine c_region ?_; refine l_op (o_val (r_bin (a := (i : Int)) (b := 64) rfl rfl (fun _ => b_lss)) ?_); first | refine l_end ?_ | refine l_nil ?_
   by_cases hc5 : (i : Int) < 64
   ·
    repeat refine c_seq ?_
    refine c_yes (by exact congrArg Value.bool (decide_eq_true hc5)) ?_; refine c_skip ?_; repeat refine c_seq ?_
    refine c_block ?_; repeat refine c_seq ?_
    refine c_region ?_; refine l_op (o_val r_mv ?_); refine l_op (o_val r_as ?_); first | refine l_end ?_ | refine l_nil ?_
    repeat refine c_seq ?_
    refine c_region ?_; refine l_op (o_val r_mv ?_); refine l_op (o_val r_mv ?_); have ah7 := H.ownAddr (i := 2) rfl (by omega)
    obtain ⟨ab6, ah7⟩ := ah7
    refine l_op (o_val (r_isN i rfl rfl el24 ah7 (by omega) (by (try simp only [Sl.cut]); omega)) ?_); refine l_op (o_val (r_ldB (s := ⟨hd (some b4), 64, 64, xpart (padk (sha256 (s.l))) m i⟩) (k := i) (H.slOwn (i := 2) rfl) ah7 rfl ct5 (by (try simp only []); omega)) ?_); refine l_op (o_val r_mv ?_); refine l_op (o_val (r_bin rfl rfl (fun _ => b_xor_u8)) ?_); refine l_op (o_val (r_isN i rfl rfl el24 ah7 (by omega) (by (try simp only [Sl.cut]); omega)) ?_); refine l_op (o_stB (u := ((xpart (padk (sha256 (s.l))) m i).getD i 0) ^^^ m) (k := i) H (i := 2) rfl rfl ah7 rfl cs5 (by omega) (fun w H => ?_)); replace H : Hp _ w _ ([_, _, .own (some b4) 64 64 (((xpart (padk (sha256 (s.l))) m i).set i (((xpart (padk (sha256 (s.l))) m i).getD i 0) ^^^ m)).map V8) 5 1]) := H
    first | refine l_end ?_ | refine l_nil ?_
    repeat refine c_seq ?_
    refine c_region ?_; refine l_op (o_val (r_bin (a := (i : Int)) (b := 1) rfl rfl (fun _ => b_add (by omega) (by omega))) ?_); refine l_op (o_val r_mv ?_); first | refine l_end ?_ | refine l_nil ?_
    have en := xpart_set (padk (sha256 (s.l))) m i (by omega)
    rw [en] at H; clear en
    refine round_end (i + 1) ?_ ?_ ?_
    · exact ⟨rfl, rfl, rfl, show VI ((i : Int) + 1) = VI ((i + 1 : Nat) : Int) from congrArg VI (by omega), trivial⟩
    · refine ⟨?_, ?_⟩
      · try dsimp only
        exact by omega
      · exact H
    · show 64 - (i + 1 : Nat) < 64 - i; omega
   ·
    repeat refine c_seq ?_
    refine c_no (by exact congrArg Value.bool (decide_eq_false hc5)) ?_; refine c_exit ?_; repeat refine c_seq ?_
    refine c_region ?_; refine l_op (o_val r_mv ?_); refine l_op (o_val r_as ?_); first | refine l_end ?_ | refine l_nil ?_
    refine c_ret ?_; try dsimp only [Exit.then, Exit.inBlock]
    refine e_ret1 (v := .slice (hd (some b4)) 64 64) Tryz.results68 rfl ?_
    refine ⟨_, rfl, ?_⟩
    have hi2 : i = 64 := by omega
    subst hi2
    have e2 : xpart (padk (sha256 (s.l))) m 64 = kpad (hkey s.l) m := by
      rw [xpart, List.take_of_length_le (by omega), List.drop_of_length_le (by omega), List.append_nil, hkey, if_pos (by omega), kpad]
    rw [e2] at H
    exact ⟨_, rfl, H.sub (.cons _ (.cons _ (.cons_cons _ (List.nil_sublist _))))⟩
  ·
   repeat refine c_seq ?_
   refine c_no (by exact congrArg Value.bool (decide_eq_false hc1)) ?_; refine c_skip ?_; repeat refine c_seq ?_
   refine c_region ?_; refine l_op (o_makeB 64 H sl24 zc5 rfl rfl (by omega) (by omega) (by omega) (fun b8 w H hb8 => ?_)); replace H : Hp _ w _ ([.own (some b8) 64 64 ((List.replicate 64 (0 : UInt8)).map V8) 5 1]) := H
   refine l_op (o_val r_as ?_); first | refine l_end ?_ | refine l_nil ?_
   repeat refine c_seq ?_
   refine c_region ?_; refine l_op (o_val r_mv ?_); refine l_op (o_val r_mv ?_); refine l_op (o_copyB (s := s) H (i := 0) rfl Tryz.underlying24 Tryz.underlying24 cs5 rfl rfl (hs.up H (fun _ => apart_nil _)) (by omega) (fun w H => ?_)); replace H : Hp _ w _ ([.own (some b8) 64 64 (((s.l).take (min s.len 64) ++ (List.replicate 64 (0 : UInt8)).drop (min s.len 64)).map V8) 5 1]) := H
   first | refine l_end ?_ | refine l_nil ?_
   have hkl : (s.l).length ≤ 64 := by first | omega | simp [sha256_len]
   have en : (s.l).take (min s.len 64) ++ (List.replicate 64 (0 : UInt8)).drop (min s.len 64) = padk (s.l) := copy_pad _ _ (by first | omega | simp [sha256_len]) (by omega)
   rw [en] at H; clear en
   replace H : Hp _ w _ ([.own (some b8) 64 64 ((padk (s.l)).map V8) 5 1]) := H
   repeat refine c_seq ?_
   refine c_region ?_; refine l_op (o_val r_mv ?_); refine l_op (o_val (r_lens el24 rfl) ?_); refine l_op (o_val r_mv ?_); first | refine l_end ?_ | refine l_nil ?_
   repeat refine c_seq ?_
   refine c_block ?_; repeat refine c_seq ?_
   refine c_loop (fun (i : Nat) => [(1, V8 m), (6, .slice (hd (some b8)) 64 64), (20, VI 64), (21, VI (i : Int))])
     (fun (i : Nat) w => (i ≤ 64) ∧ Hp w0 w [] ([.own (some b8) 64 64 ((xpart (padk (s.l)) m i).map V8) 5 1]))
     (fun (i : Nat) => 64 - i) 0 ⟨rfl, rfl, rfl, rfl, trivial⟩ ⟨by omega, H⟩ ?_
   clear H
   rintro i τ w ⟨hi, H⟩
   have hpl := padk_len (s.l) hkl
   have hxl := xpart_len (padk (s.l)) m i (by omega)
   repeat refine c_seq ?_
   refine c_region ?_; refine l_op (o_val (r_bin (a := (i : Int)) (b := 64) rfl rfl (fun _ => b_lss)) ?_); first | refine l_end ?_ | refine l_nil ?_
   by_cases hc9 : (i : Int) < 64
   ·
    repeat refine c_seq ?_
    refine c_yes (by exact congrArg Value.bool (decide_eq_true hc9)) ?_; refine c_skip ?_; repeat refine c_seq ?_
    refine c_block ?_; repeat refine c_seq ?_
    refine c_region ?_; refine l_op (o_val r_mv ?_); refine l_op (o_val r_as ?_); first | refine l_end ?_ | refine l_nil ?_
    repeat refine c_seq ?_
    refine c_region ?_; refine l_op (o_val r_mv ?_); refine l_op (o_val r_mv ?_); have ah11 := H.ownAddr (i := 0) rfl (by omega)
    obtain ⟨ab10, ah11⟩ := ah11
    refine l_op (o_val (r_isN i rfl rfl el24 ah11 (by omega) (by (try simp only [Sl.cut]); omega)) ?_); refine l_op (o_val (r_ldB (s := ⟨hd (some b8), 64, 64, xpart (padk (s.l)) m i⟩) (k := i) (H.slOwn (i := 0) rfl) ah11 rfl ct5 (by (try simp only []); omega)) ?_); refine l_op (o_val r_mv ?_); refine l_op (o_val (r_bin rfl rfl (fun _ => b_xor_u8)) ?_); refine l_op (o_val (r_isN i rfl rfl el24 ah11 (by omega) (by (try simp only [Sl.cut]); omega)) ?_); refine l_op (o_stB (u := ((xpart (padk (s.l)) m i).getD i 0) ^^^ m) (k := i) H (i := 0) rfl rfl ah11 rfl cs5 (by omega) (fun w H => ?_)); replace H : Hp _ w _ ([.own (some b8) 64 64 (((xpart (padk (s.l)) m i).set i (((xpart (padk (s.l)) m i).getD i 0) ^^^ m)).map V8) 5 1]) := H
    first | refine l_end ?_ | refine l_nil ?_
    repeat refine c_seq ?_
    refine c_region ?_; refine l_op (o_val (r_bin (a := (i : Int)) (b := 1) rfl rfl (fun _ => b_add (by omega) (by omega))) ?_); refine l_op (o_val r_mv ?_); first | refine l_end ?_ | refine l_nil ?_
    have en := xpart_set (padk (s.l)) m i (by omega)
    rw [en] at H; clear en
    refine round_end (i + 1) ?_ ?_ ?_
    · exact ⟨rfl, rfl, rfl, show VI ((i : Int) + 1) = VI ((i + 1 : Nat) : Int) from congrArg VI (by omega), trivial⟩
    · refine ⟨?_, ?_⟩
      · try dsimp only
        exact by omega
      · exact H
    · show 64 - (i + 1 : Nat) < 64 - i; omega
   ·
    repeat refine c_seq ?_
    refine c_no (by exact congrArg Value.bool (decide_eq_false hc9)) ?_; refine c_exit ?_; repeat refine c_seq ?_
    refine c_region ?_; refine l_op (o_val r_mv ?_); refine l_op (o_val r_as ?_); first | refine l_end ?_ | refine l_nil ?_
    refine c_ret ?_; try dsimp only [Exit.then, Exit.inBlock]
    refine e_ret1 (v := .slice (hd (some b8)) 64 64) Tryz.results68 rfl ?_
    refine ⟨_, rfl, ?_⟩
    have hi2 : i = 64 := by omega
    subst hi2
    have e2 : xpart (padk (s.l)) m 64 = kpad (hkey s.l) m := by
      rw [xpart, List.take_of_length_le (by omega), List.drop_of_length_le (by omega), List.append_nil, hkey, if_neg (by omega), kpad]
    rw [e2] at H
    exact ⟨_, rfl, H.sub (.cons_cons _ (List.nil_sublist _))⟩
end Go.Proofs.YtiepekfcegdkoaaGreatDoor
