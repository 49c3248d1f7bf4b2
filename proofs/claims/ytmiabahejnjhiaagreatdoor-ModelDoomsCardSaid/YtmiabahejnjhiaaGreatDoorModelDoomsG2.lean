/- Lemmas for the statement ModelDooms, part 2: rules of operations, walks through functions, plain laws. -/
import Derived.Test.YtmiabahejnjhiaaGreatDoorModelDoomsG1
import Derived.Deep.Slices
import Derived.Laws.IdiomRangeMap
import Derived.Laws.StructEq
import Derived.Maps.RangeRun
import Derived.OpenShut
import Derived.ProofKit
import Derived.Test.YtmiabahejnjhiaaGreatDoorRows
import Derived.WideKeyRuns
namespace Go.Proofs.YtmiabahejnjhiaaGreatDoor
open Go
structure HS where
  st : S8
  wt : List UInt8
  m : UInt64
def HS.at_ (s : HS) : Nat := s.m.toNat % 64
def step1 (s : HS) (b : UInt8) : HS :=
  if s.at_ = 63 then ⟨comp s.st (s.wt.set s.at_ b), s.wt.set s.at_ b, s.m + 1⟩ else ⟨s.st, s.wt.set s.at_ b, s.m + 1⟩
def absorb (s : HS) : List UInt8 → HS
  | [] => s
  | b :: l => absorb (step1 s b) l
def HS.init : HS := ⟨initS, List.replicate 64 0, 0⟩
theorem absorb_append (s : HS) (a b : List UInt8) : absorb s (a ++ b) = absorb (absorb s a) b := by
  induction a generalizing s with
  | nil => rfl
  | cons x a ih => simp [absorb, ih]
theorem step1_wt (s : HS) (b : UInt8) : (step1 s b).wt.length = s.wt.length := by unfold step1; split <;> simp
theorem absorb_wt (s : HS) (l : List UInt8) : (absorb s l).wt.length = s.wt.length := by
  induction l generalizing s with
  | nil => rfl
  | cons x l ih => rw [absorb, ih, step1_wt]
/-- l written into wt from place k on. -/
def spl (wt : List UInt8) (k : Nat) (l : List UInt8) : List UInt8 := wt.take k ++ l ++ wt.drop (k + l.length)
theorem spl_length (wt : List UInt8) (k : Nat) (l : List UInt8) (h : k + l.length ≤ wt.length) : (spl wt k l).length = wt.length := by simp [spl]; omega
theorem spl_set (wt : List UInt8) (k : Nat) (b : UInt8) (l : List UInt8) (h : k + (l.length + 1) ≤ wt.length) : spl (wt.set k b) (k + 1) l = spl wt k (b :: l) := by
  unfold spl
  have e1 : (wt.set k b).take (k + 1) = wt.take k ++ [b] := by
    rw [List.take_set, List.take_succ_eq_append_getElem oM]
    have : (wt.take k).length = k := by rw [List.length_take]; omega
    rw [List.set_append_right _ _ oM, this]; simp
  have e2 : (wt.set k b).drop (k + 1 + l.length) = wt.drop (k + (b :: l).length) := by
    rw [List.drop_set_of_lt oM]; congr 1; simp; omega
  rw [e1, e2]; simp
theorem at_add (m : UInt64) (k : Nat) (h : m.toNat % 64 + k < 64) : (m + UInt64.ofNat k).toNat % 64 = m.toNat % 64 + k := by
  rw [UInt64.toNat_add, UInt64.toNat_ofNat']; omega
theorem add_one (m : UInt64) (k : Nat) : m + 1 + UInt64.ofNat k = m + UInt64.ofNat (k + 1) := by
  apply UInt64.toNat_inj.1
  rw [UInt64.toNat_add, UInt64.toNat_add, UInt64.toNat_add, UInt64.toNat_ofNat', UInt64.toNat_ofNat']
  have : (1 : UInt64).toNat = 1 := rfl
  omega
theorem absorb_less (l : List UInt8) : ∀ s : HS, s.wt.length = 64 → s.at_ + l.length < 64 → absorb s l = ⟨s.st, spl s.wt s.at_ l, s.m + UInt64.ofNat l.length⟩ := by
  induction l with
  | nil => intro s hw _; simp [absorb, spl]
  | cons b l ih =>
    intro s hw h
    have h63 : s.at_ ≠ 63 := by simp at h; omega
    have e : step1 s b = ⟨s.st, s.wt.set s.at_ b, s.m + 1⟩ := by unfold step1; rw [if_neg h63]
    have ha : (s.m + 1).toNat % 64 = s.at_ + 1 := at_add s.m 1 (by simp [HS.at_] at h ⊢; omega)
    rw [absorb, e, ih _ (by simpa using hw) (by simp only [HS.at_, List.length_cons] at h ha ⊢; omega)]
    simp only [HS.at_] at ha ⊢
    rw [ha]
    have := spl_set s.wt (s.m.toNat % 64) b l (by simp [HS.at_] at h; omega)
    rw [this, add_one]; rfl
theorem absorb_full (l : List UInt8) : ∀ s : HS, s.wt.length = 64 → s.at_ + l.length = 64 → l ≠ [] → absorb s l = ⟨comp s.st (spl s.wt s.at_ l), spl s.wt s.at_ l, s.m + UInt64.ofNat l.length⟩ := by
  induction l with
  | nil => intro s _ _ h; exact absurd rfl h
  | cons b l ih =>
    intro s hw h _
    by_cases hl : l = []
    · subst hl
      have h63 : s.at_ = 63 := by simp at h; omega
      have e : step1 s b = ⟨comp s.st (s.wt.set s.at_ b), s.wt.set s.at_ b, s.m + 1⟩ := by unfold step1; rw [if_pos h63]
      have e2 : spl s.wt s.at_ [b] = s.wt.set s.at_ b := by
        have := spl_set s.wt s.at_ b [] (by simp; omega)
        rw [← this, spl]; simp
      rw [absorb, absorb, e, e2]; rfl
    · have hpos : 0 < l.length := List.length_pos_iff.2 hl
      have h63 : s.at_ ≠ 63 := by simp at h; omega
      have e : step1 s b = ⟨s.st, s.wt.set s.at_ b, s.m + 1⟩ := by unfold step1; rw [if_neg h63]
      have ha : (s.m + 1).toNat % 64 = s.at_ + 1 := at_add s.m 1 (by simp [HS.at_] at h ⊢; omega)
      rw [absorb, e, ih _ (by simpa using hw) (by simp only [HS.at_, List.length_cons] at h ha ⊢; omega) hl]
      simp only [HS.at_] at ha ⊢
      rw [ha]
      have := spl_set s.wt (s.m.toNat % 64) b l (by simp [HS.at_] at h; omega)
      rw [this, add_one]; rfl
end Go.Proofs.YtmiabahejnjhiaaGreatDoor
namespace Go.Proofs.YtmiabahejnjhiaaGreatDoor
open Go
set_option maxRecDepth 100000
/-- the cells of a hash that has been told s. -/
def hashH (s : HS) : List Value := hashC s.st s.wt s.m
theorem hashC_one (s : S8) (wt : List UInt8) (m : UInt64) : ∀ v ∈ hashC s wt m, v.oneCell' = true := by
  intro v hv
  simp only [hashC, List.mem_cons, List.mem_append, List.mem_map, List.not_mem_nil, or_false] at hv
  rcases hv with rfl | ⟨_, _, rfl⟩ | ⟨_, _, rfl⟩ | rfl <;> rfl
theorem hashC_splice (s : S8) (wt : List UInt8) (m : UInt64) (k : Nat) (l : List UInt8) (h : wt.length = 64) (hk : k + l.length ≤ 64) :
    (hashC s wt m).take (0 + 9 + k * 1) ++ l.map V8 ++ (hashC s wt m).drop (0 + 9 + k * 1 + l.length) = hashC s (spl wt k l) m := by
  have e : hashC s wt m = (.bool true :: s.l.map V32) ++ (wt.map V8 ++ [V64 m]) := rfl
  have h9 : (Value.bool true :: s.l.map V32).length = 9 := by simp [S8.l]
  have e2 : hashC s (spl wt k l) m = (.bool true :: s.l.map V32) ++ ((spl wt k l).map V8 ++ [V64 m]) := rfl
  have e3 : 0 + 9 + k * 1 = (Value.bool true :: s.l.map V32).length + k := by omega
  rw [e, e2, e3, Nat.add_assoc, List.take_length_add_append, List.drop_length_add_append, List.take_append_of_le_length (by simp; omega), List.drop_append_of_le_length (by simp; omega)]
  simp [spl, List.map_take, List.map_drop]
theorem at_u64 (m : UInt64) : IntKind.i64.wrap ((m.toNat : Int) % 64) = ((m.toNat % 64 : Nat) : Int) := by
  rw [wrap_i64 oM oM]; omega
theorem u64_nat (k : Nat) (_h : k < 18446744073709551616) : IntKind.u64.wrap (k : Int) = ((UInt64.ofNat k).toNat : Int) := by
  rw [wrap_u64, UInt64.toNat_ofNat']; omega
set_option maxHeartbeats 4000000 in
theorem write_ret (w0 : World) (hb : Nat) (s : HS) (a : Option Addr) (len cap : Nat) (l : List UInt8) (hwt : s.wt.length = 64) (hH : w0.heap[hb]? = some (.cells (hashH s).toArray 208 (0, 0)))
    (hr : RdS w0 a (l.map V8)) (hl : l.length = len) (hcap : len ≤ cap) (hap : l ≠ [] → Apart a [hb]) (hmx : len ≤ 9223372036854775807) :
    Ret Tryz.prog 111 [.pointer (some ⟨hb, 0, none⟩), .slice a len cap] w0 fun v w' => v = .tuple #[] ∧ Hp w0 w' [hb] [.blk hb (hashH (absorb s l)) 208] := by
  refine ret_mk Tryz.func111 rfl Tryz.ntmps111 (by simp) ?_
  have H := Hp.start w0 (.blk hb (hashH s) 208) hb hH rfl
  refine rG ?_; refine l_op (o_mv ?_); refine l_op (o_callR Tryz.func144 rfl rfl rfl (none_at _ hb true _ _ hH rfl) ?_); rintro _ w ⟨rfl, hw⟩
  rw [hw]; clear hw w
  refine eN ?_
  refine qN ?_; refine c_skip ?_; refine qB ?_; refine c_loop (ι := Option Addr × Nat × Nat × List UInt8 × HS) (fun i => [(0, .pointer (some ⟨hb, 0, none⟩)), (1, .slice i.1 i.2.1 i.2.2.1)])
    (fun i w => i.2.1 ≤ i.2.2.1 ∧ i.2.1 ≤ 9223372036854775807 ∧ i.2.2.2.1.length = i.2.1 ∧ RdS w0 i.1 (i.2.2.2.1.map V8) ∧ (i.2.2.2.1 ≠ [] → Apart i.1 [hb]) ∧ i.2.2.2.2.wt.length = 64 ∧ absorb i.2.2.2.2 i.2.2.2.1 = absorb s l ∧ Hp w0 w [hb] [.blk hb (hashH i.2.2.2.2) 208])
    (fun i => i.2.1) (a, len, cap, l, s) ⟨rfl, rfl, trivial⟩ ⟨hcap, hmx, hl, hr, hap, hwt, rfl, H⟩ ?_
  clear H hr hl hcap hap hmx hwt hH
  rintro ⟨a, len, cap, rest, s'⟩ τ w ⟨hcap, hmx, hl, hr, hap, hwt, hab, H⟩
  simp only at hcap hmx hl hr hap hwt hab H
  refine rG ?_; refine l_op (o_mv ?_); refine l_op (o_lens el33 rfl ?_); refine l_op (o_bin rfl rfl (fun _ => b_gtr) ?_); refine eN ?_
  repeat refine c_seq ?_
  refine c_ifD rfl (fun hlt => ?_) (fun hlt => ?_)
  · have hlen : 0 < len := by have : (0:Int) < (len:Int) := hlt; omega
    have hne0 : rest ≠ [] := fun e => by rw [e] at hl; simp at hl; omega
    obtain ⟨st, wt, m⟩ := s'
    simp only [hashH] at hwt H
    obtain ⟨at', hat⟩ : ∃ at', m.toNat % 64 = at' := ⟨_, rfl⟩
    have hat64 : at' < 64 := by omega
    obtain ⟨k, hk⟩ : ∃ k, min len (64 - at') = k := ⟨_, rfl⟩
    have hk1 : 0 < k := by omega
    have hk2 : k ≤ len := by omega
    have hk3 : at' + k ≤ 64 := by omega
    have hpre : (rest.take k).length = k := by rw [List.length_take]; omega
    have hC := hashC_length st wt m hwt
    refine c_skip ?_; refine qB ?_; refine rG ?_; refine l_op (o_mv ?_); refine l_op (o_nilc rfl ?_); refine l_op (o_fa rfl fo208_3 ?_); refine l_op (o_ld H (i := 0) rfl rfl ct25 (hashC_num _ _ _ hwt) ?_); refine l_op (o_bin rfl rfl (fun _ => b_rem oM oM) ?_); refine l_op (o_conv Tryz.underlying25 Tryz.underlying3 rfl ((at_u64 m).trans (congrArg _ hat)) ?_); refine l_op (o_as ?_); refine eN ?_
    refine rG ?_; refine l_op (o_mv ?_); refine l_op (o_nilc rfl ?_); refine l_op (o_fa rfl fo208_2 ?_); refine l_op (o_mv ?_); refine l_op (o_slb (l := at') rfl ar206 rfl rfl rfl (fun w => by exact sb_l oM oM w) oM ?_); refine l_op (o_mv ?_); refine l_op (o_copy H (i := 0) (vs := rest.map V8) rfl Tryz.underlying33 Tryz.underlying33 cs5 (by decide) rfl rfl (H.rd hr (hap hne0)) (by simp [hl]) (by simp [Value.oneCell']) (by rw [hC]; omega) (fun w H => ?_))
    rw [hk] at H ⊢
    have e1 : (rest.map V8).take (k * 1) = (rest.take k).map V8 := by rw [Nat.mul_one, List.map_take]
    have e2 : 0 + 9 + at' * 1 + k * 1 = 0 + 9 + at' * 1 + (rest.take k).length := by rw [hpre]; omega
    rw [e1, e2, hashC_splice st wt m at' (rest.take k) hwt oM] at H
    refine l_op (o_as ?_); refine eN ?_
    obtain ⟨wt', hwt'⟩ : ∃ x, spl wt at' (rest.take k) = x := ⟨_, rfl⟩
    have hwl : wt'.length = 64 := by rw [← hwt', spl_length _ _ _ oM, hwt]
    rw [hwt'] at H
    refine rG ?_; refine l_op (o_mv ?_); refine l_op (o_mv ?_); refine l_op (o_sl (a := a) (len := len) (cap := cap) (l := k) rfl el33 rfl rfl rfl (fun w => by exact sb_l oM oM w) ?_); refine l_op (o_as ?_); refine eN ?_
    have hr2 : RdS w0 (sa a k cap 1) ((rest.drop k).map V8) := by
      have := hr.sa k cap 1 (by simp; omega)
      rwa [Nat.mul_one, ← List.map_drop] at this
    refine rG ?_; refine l_op (o_mv ?_); refine l_op (o_nilc rfl ?_); refine l_op (o_fa rfl fo208_3 ?_); refine l_op (o_ld H (i := 0) rfl rfl ct25 (hashC_num _ _ _ hwl) ?_); refine l_op (o_mv ?_); refine l_op (o_conv Tryz.underlying3 Tryz.underlying25 rfl (u64_nat k oM) ?_); refine l_op (o_bin rfl rfl (fun _ => b_add_u64) ?_); refine l_op (o_nilc rfl ?_); refine l_op (o_fa rfl fo208_3 ?_); refine l_op (o_st H (i := 0) (v := V64 (m + UInt64.ofNat k)) rfl rfl rfl cs25 rfl (by rw [hashC_length _ _ _ hwl]; decide) (fun w H => ?_)); refine eN ?_
    have e3 : (hashC st wt' m).set (0 + 73) (V64 (m + UInt64.ofNat k)) = hashC st wt' (m + UInt64.ofNat k) := hashC_setn _ _ _ _ hwl
    simp only [List.set_cons_zero] at H
    rw [e3] at H
    refine rG ?_; refine l_op (o_mv ?_); refine l_op (o_mv ?_); refine l_op (o_bin rfl rfl (fun _ => b_add oM oM) ?_); refine l_op (o_bin rfl rfl (fun _ => b_eql) ?_); refine eN ?_
    have hsum : absorb ⟨st, wt, m⟩ rest = absorb (absorb ⟨st, wt, m⟩ (rest.take k)) (rest.drop k) := by rw [← absorb_append, List.take_append_drop]
    repeat refine c_seq ?_
    refine c_ifD rfl (fun h64 => ?_) (fun h64 => ?_)
    · have hfull : absorb ⟨st, wt, m⟩ (rest.take k) = ⟨comp st wt', wt', m + UInt64.ofNat k⟩ := by
        have hne : rest.take k ≠ [] := fun e => by rw [e] at hpre; simp at hpre; omega
        have := absorb_full (rest.take k) ⟨st, wt, m⟩ hwt (by show m.toNat % 64 + _ = 64; omega) hne
        have e4 : HS.at_ ⟨st, wt, m⟩ = at' := hat
        rw [this, e4, hpre]; simp only [hwt']
      refine rG ?_; refine l_op (o_mv ?_); refine l_op (o_callR Tryz.func145 rfl rfl rfl (mix_ret _ hb st wt' (m + UInt64.ofNat k) hwl (H.blk (i := 0) rfl)) ?_); rintro _ w ⟨rfl, Hc⟩
      replace H := H.callAt (i := 0) rfl rfl rfl Hc
      refine eN ?_
      refine round_end (sa a k cap 1, len - k, cap - k, rest.drop k, ⟨comp st wt', wt', m + UInt64.ofNat k⟩) ?_ ?_ ?_
      · exact ⟨rfl, rfl, trivial⟩
      · exact ⟨by simp only; omega, by simp only; omega, by simp only [List.length_drop]; omega, hr2, fun _ => (hap hne0).sa k cap 1, hwl, by simp only; rw [← hfull, ← hsum, hab], H⟩
      · show len - k < len; omega
    · have hless : absorb ⟨st, wt, m⟩ (rest.take k) = ⟨st, wt', m + UInt64.ofNat k⟩ := by
        have := absorb_less (rest.take k) ⟨st, wt, m⟩ hwt (by show m.toNat % 64 + _ < 64; omega)
        have e4 : HS.at_ ⟨st, wt, m⟩ = at' := hat
        rw [this, e4, hpre]; simp only [hwt']
      refine c_skip ?_; refine round_end (sa a k cap 1, len - k, cap - k, rest.drop k, ⟨st, wt', m + UInt64.ofNat k⟩) ?_ ?_ ?_
      · exact ⟨rfl, rfl, trivial⟩
      · exact ⟨by simp only; omega, by simp only; omega, by simp only [List.length_drop]; omega, hr2, fun _ => (hap hne0).sa k cap 1, hwl, by simp only; rw [← hless, ← hsum, hab], H⟩
      · show len - k < len; omega
  · have h0 : rest = [] := List.length_eq_zero_iff.1 (by have : ¬ (0:Int) < (len:Int) := hlt; omega)
    subst h0
    refine c_exit ?_
    simp only [Exit.then, Exit.inBlock, ↓reduceIte]
    refine e_norm (e_ret0 Tryz.results111 ?_); refine ⟨_, rfl, rfl, ?_⟩
    rw [← hab]; exact H
end Go.Proofs.YtmiabahejnjhiaaGreatDoor
namespace Go.Proofs.YtmiabahejnjhiaaGreatDoor
open Go
set_option maxRecDepth 100000
/-- a block that is as it was need not stand among those that turned. -/
theorem Hp.unS {w0 w : World} {S : List Nat} {L : List Ch} {b : Nat} {C : List Value} {T : TypeId} (H : Hp w0 w (b :: S) (.blk b C T :: L)) (h0 : w0.heap[b]? = some (.cells C.toArray T (0, 0))) : Hp w0 w S L := by
  have hnd := List.pairwise_cons.1 H.nd
  refine ⟨H.os, H.tape, H.output, H.size, fun b' hb' hn => ?_, fun c hc => H.has c (by simp [hc]), fun c hc b' hk => ?_, hnd.2⟩
  · by_cases h : b' = b
    · subst h; rw [h0]; exact H.has (.blk b' C T) (by simp)
    · exact H.frame b' hb' (fun hm => by rcases List.mem_cons.1 hm with h1 | h1; exact h h1; exact hn h1)
  · rcases H.fresh c (by simp [hc]) b' hk with h1 | h1
    · simp only [List.mem_cons] at h1
      rcases h1 with rfl | h1
      · exact absurd hk (hnd.1 c hc _ rfl)
      · exact .inl h1
    · exact .inr h1
theorem hashH_all (s : HS) (hwt : s.wt.length = 64) : ((hashH s).drop 0).take 74 = hashH s := by
  rw [List.drop_zero, List.take_of_length_le (by rw [hashH, hashC_length _ _ _ hwt]; decide)]
theorem hashH_1 (s : HS) : (hashH s).toArray.all (·.oneCell') = true := by
  rw [List.all_toArray, List.all_eq_true]; exact hashC_one _ _ _
theorem hashH_len (s : HS) (hwt : s.wt.length = 64) : (hashH s).length = 74 := hashC_length _ _ _ hwt
end Go.Proofs.YtmiabahejnjhiaaGreatDoor
namespace Go.Proofs.YtmiabahejnjhiaaGreatDoor
open Go
theorem step1_m (s : HS) (b : UInt8) : (step1 s b).m = s.m + 1 := by unfold step1; split <;> rfl
theorem absorb_m (l : List UInt8) : ∀ s : HS, (absorb s l).m = s.m + UInt64.ofNat l.length := by
  induction l with
  | nil => intro s; simp [absorb]
  | cons b l ih => intro s; rw [absorb, ih, step1_m, add_one]; rfl
/-- how many zeros there are behind the byte 128. -/
def zerosOf (m : UInt64) : Nat := (119 - m.toNat % 64) % 64
def lenBytes (m : UInt64) : List UInt8 := (List.range 8).map fun i => ((m <<< 3) >>> UInt64.ofNat (56 - 8 * i)).toUInt8
theorem lenBytes_length (m : UInt64) : (lenBytes m).length = 8 := by simp [lenBytes]
theorem lenBytes_succ (m : UInt64) (i : Nat) (h : i < 8) : (lenBytes m).take (i + 1) = (lenBytes m).take i ++ [((m <<< 3) >>> UInt64.ofNat (56 - 8 * i)).toUInt8] := by
  rw [List.take_succ_eq_append_getElem (by rw [lenBytes_length]; exact h)]
  simp [lenBytes]
def tailOf (m : UInt64) : List UInt8 := 128 :: (List.replicate (zerosOf m) 0 ++ lenBytes m)
def closed (s : HS) : HS := absorb s (tailOf s.m)
def wordBytes (l : List UInt32) : List UInt8 := (List.range 32).map fun j => ((l.getD (j / 4) 0) >>> UInt32.ofNat (24 - 8 * (j % 4))).toUInt8
def digest (s : HS) : List UInt8 := wordBytes (closed s).st.l
theorem wordBytes_length (l : List UInt32) : (wordBytes l).length = 32 := by simp [wordBytes]
theorem digest_length (s : HS) : (digest s).length = 32 := wordBytes_length _
/-- the first j of n bytes, zeros behind. -/
def pad8 (l : List UInt8) (j n : Nat) : List Value := (l.take j).map V8 ++ List.replicate (n - j) (V8 0)
theorem pad8_zero (l : List UInt8) (n : Nat) : pad8 l 0 n = List.replicate n (V8 0) := by simp [pad8]
theorem pad8_all (l : List UInt8) (n : Nat) (h : l.length = n) : pad8 l n n = l.map V8 := by simp [pad8, List.take_of_length_le (Nat.le_of_eq h)]
theorem pad8_length (l : List UInt8) (j n : Nat) (h : l.length = n) (hj : j ≤ n) : (pad8 l j n).length = n := by simp [pad8]; omega
theorem pad8_set (l : List UInt8) (j n : Nat) (h : l.length = n) (hj : j < n) (v : UInt8) (hv : l[j]? = some v) : (pad8 l j n).set j (V8 v) = pad8 l (j + 1) n := by
  have h1 : ((l.take j).map V8).length = j := by simp; omega
  have h2 : l.take (j + 1) = l.take j ++ [v] := by
    rw [List.take_add_one, hv]; rfl
  unfold pad8
  rw [List.set_append_right _ _ oM, h1, h2, Nat.sub_self]
  have : n - j = (n - (j + 1)) + 1 := by omega
  rw [this, List.replicate_succ]
  simp
theorem wordBytes_get (l : List UInt32) (i k : Nat) (hi : i < 8) (hk : k < 4) : (wordBytes l)[4 * i + k]? = some ((l.getD i 0) >>> UInt32.ofNat (24 - 8 * k)).toUInt8 := by
  have e1 : (4 * i + k) / 4 = i := by omega
  have e2 : (4 * i + k) % 4 = k := by omega
  simp [wordBytes, List.getElem?_map, List.getElem?_range (show 4 * i + k < 32 by omega), e1, e2]
end Go.Proofs.YtmiabahejnjhiaaGreatDoor
namespace Go.Proofs.YtmiabahejnjhiaaGreatDoor
open Go
set_option maxRecDepth 100000
theorem w_u64_p {a : Int} (h0 : 0 ≤ a) (h1 : a < 18446744073709551616) : IntKind.u64.wrap a = a := by rw [wrap_u64]; omega
/-- a byte of one's own written into a hash of one's own. -/
theorem write1 {w0 w : World} {S : List Nat} {L : List Ch} {b hb i : Nat} {s : HS} {x : UInt8} {T : TypeId} (H : Hp w0 w S (L ++ [.blk b [V8 x] T])) (hi : L[i]? = some (.blk hb (hashH s) 208)) (hwt : s.wt.length = 64) :
    Ret Tryz.prog 111 [.pointer (some ⟨hb, 0, none⟩), .slice (some ⟨b, 0, none⟩) 1 1] w fun v w' => v = .tuple #[] ∧ Hp w0 w' S (L.set i (.blk hb (hashH (absorb s [x])) 208)) := by
  have hlt : i < L.length := (List.getElem?_eq_some_iff.1 hi).1
  have hi' : (L ++ [Ch.blk b [V8 x] T])[i]? = some (.blk hb (hashH s) 208) := by rw [List.getElem?_append_left hlt]; exact hi
  have hb' : (Ch.blk b [V8 x] T).ok w := H.has _ (by simp)
  have hne : b ≠ hb := by
    intro e
    have := pw_ne H.nd (i := i) (j := L.length) (e := .blk b [V8 x] T) hi' (by simp) oM (b := hb) rfl
    exact this (by rw [e]; rfl)
  refine (write_ret w hb s (some ⟨b, 0, none⟩) 1 1 [x] hwt (H.has _ (List.mem_of_getElem? hi')) (Ch.rd_all hb') rfl (Nat.le_refl _) (fun _ y hy => ?_) (by decide)).mono fun v w' ⟨hv, Hc⟩ => ⟨hv, ?_⟩
  · cases hy; simpa using hne
  · have := H.callAt hi' rfl rfl Hc
    rw [List.append_nil, List.set_append_left _ _ hlt] at this
    exact this.sub (List.sublist_append_left _ _)
theorem fill1 (z v : Value) (hv : v.oneCell' = true) : Instr.fill (fun i => some (i * 1, 1)) ((Array.range (1 * 1)).map (([z].toArray)[· % ([z].toArray).size]!)) [(0, v)] = some #[v] := by
  have : v.cells = #[v] := by cases v <;> simp_all [Value.cells, Value.oneCell']
  have e : Array.range (1 * 1) = #[0] := by decide
  rw [e]
  simp [Instr.fill, this, Array.zipIdx]
set_option maxHeartbeats 4000000 in
theorem sum_ret (w0 : World) (hb0 : Nat) (s : HS) (hwt : s.wt.length = 64) (hH : w0.heap[hb0]? = some (.cells (hashH s).toArray 208 (0, 0))) :
    Ret Tryz.prog 112 [.pointer (some ⟨hb0, 0, none⟩)] w0 fun v w' => v = .agg ((digest s).map V8).toArray ∧ Hp w0 w' [] [] := by
  refine ret_mk Tryz.func112 rfl Tryz.ntmps112 (by simp) ?_
  have H := Hp.start w0 (.blk hb0 (hashH s) 208) hb0 hH rfl
  refine rG ?_; refine l_op (o_alloc H zc24 (fun b2 w H hb2 => ?_)); refine eN ?_
  refine rG ?_; refine l_op (o_alloc H zc24 (fun b3 w H hb3 => ?_)); refine eN ?_
  refine rG ?_; refine l_op (o_mv ?_); refine l_op (o_callR Tryz.func144 rfl rfl rfl (none_at _ hb0 true _ _ (H.blk (i := 0) rfl) rfl) ?_); rintro _ w' ⟨rfl, hw⟩
  rw [hw]; clear hw w'
  refine eN ?_
  refine qN ?_; refine c_skip ?_; refine rG ?_; refine l_op (o_mv ?_); refine l_op (o_nilc rfl ?_); refine l_op (o_ldr H (i := 0) rfl rfl rt208 (by rw [hashH_len s hwt]; decide) ?_)
  rw [hashH_all s hwt]
  refine l_op (o_alloc H zc208 (fun b4 w H hb4 => ?_)); refine l_op (o_stw H (i := 3) rfl rfl rfl (by rw [cs208]; simp [hashH_len s hwt]) (hashH_1 s) (by simp [hashH_len s hwt]) (fun w H => ?_)); refine eN ?_
  refine rG ?_; refine l_op (o_mv ?_); refine l_op (o_nilc rfl ?_); refine l_op (o_fa rfl fo208_3 ?_); refine l_op (o_ld H (i := 0) rfl rfl ct25 (hashC_num _ _ _ hwt) ?_); refine l_op (o_shift rfl rfl (.inl rfl) (fun _ => b_shl_u64 (by decide) (by decide)) ?_); refine l_op (o_as ?_); refine eN ?_
  refine rG ?_; refine l_op (o_bsl H sl33 zc5 (by decide) rfl (by decide) (fill1 _ (V8 128) rfl) (fun b w H hb => ?_)); refine l_op (o_callR Tryz.func111 rfl rfl rfl (write1 (x := 128) H (i := 3) rfl hwt) ?_); rintro _ w ⟨rfl, Hc⟩
  clear H
  have H := Hc; clear Hc
  refine eN ?_
  have e1 : s.m.toNat < 18446744073709551616 := u64_lt s.m
  refine qB ?_; refine c_loop (ι := Nat) (fun _ => [(5, V64 (s.m <<< 3)), (4, .pointer (some ⟨b4, 0, none⟩)), (3, .pointer (some ⟨b3, 0, none⟩)), (2, .pointer (some ⟨b2, 0, none⟩))])
    (fun j w => j ≤ zerosOf s.m ∧ Hp w0 w [hb0] [.blk hb0 (hashH s) 208, .blk b2 (List.replicate 32 (V8 0)) 24, .blk b3 (List.replicate 32 (V8 0)) 24, .blk b4 (hashH (absorb s (128 :: List.replicate j 0))) 208])
    (fun j => zerosOf s.m - j) 0 ⟨rfl, rfl, rfl, rfl, trivial⟩ ⟨Nat.zero_le _, H⟩ ?_
  clear H
  rintro j τ w ⟨hj, H⟩
  have hcw : (absorb s (128 :: List.replicate j 0)).wt.length = 64 := by rw [absorb_wt, hwt]
  have hcm : (absorb s (128 :: List.replicate j 0)).m.toNat % 64 = (s.m.toNat + 1 + j) % 64 := by
    rw [absorb_m, UInt64.toNat_add, UInt64.toNat_ofNat', List.length_cons, List.length_replicate]; omega
  refine rG ?_; refine l_op (o_fa rfl fo208_3 ?_); refine l_op (o_ld H (i := 3) rfl rfl ct25 (hashC_num _ _ _ hcw) ?_); refine l_op (o_bin rfl rfl (fun _ => b_rem oM oM) ?_); refine l_op (o_bin rfl rfl (fun _ => b_neq) ?_); refine eN ?_
  repeat refine c_seq ?_
  refine c_ifD rfl (fun hne => ?_) (fun hne => ?_)
  · have hjz : j < zerosOf s.m := by
      simp only [zerosOf] at hj ⊢
      omega
    clear hcm hne
    generalize hc : absorb s (128 :: List.replicate j 0) = c at H hcw
    refine c_skip ?_; refine qB ?_; refine rG ?_; refine l_op (o_bsl H sl33 zc5 (by decide) rfl (by decide) (fill1 _ (V8 0) rfl) (fun b w H hb => ?_)); refine l_op (o_callR Tryz.func111 rfl rfl rfl (write1 (x := 0) H (i := 3) rfl hcw) ?_); rintro _ w ⟨rfl, Hc⟩
    clear H
    have H := Hc; clear Hc
    refine eN ?_
    refine round_end (j + 1) ?_ ?_ ?_
    · exact ⟨rfl, rfl, rfl, rfl, trivial⟩
    · refine ⟨hjz, ?_⟩
      have e : absorb s (128 :: List.replicate (j + 1) 0) = absorb c [0] := by
        rw [List.replicate_succ', ← hc, ← absorb_append]; rfl
      rw [e]; exact H
    · show zerosOf s.m - (j + 1) < zerosOf s.m - j; omega
  · have hjz : j = zerosOf s.m := by
      simp only [zerosOf] at hj ⊢
      omega
    subst hjz
    clear hcm hne hj hcw
    refine c_exit ?_; refine rG ?_; refine l_op (o_mv ?_); refine eN ?_
    refine qB ?_; refine c_loop (ι := Nat) (fun i => [(29, VI i), (5, V64 (s.m <<< 3)), (4, .pointer (some ⟨b4, 0, none⟩)), (3, .pointer (some ⟨b3, 0, none⟩)), (2, .pointer (some ⟨b2, 0, none⟩))])
      (fun i w => i ≤ 8 ∧ Hp w0 w [hb0] [.blk hb0 (hashH s) 208, .blk b2 (List.replicate 32 (V8 0)) 24, .blk b3 (List.replicate 32 (V8 0)) 24, .blk b4 (hashH (absorb s (128 :: (List.replicate (zerosOf s.m) 0 ++ (lenBytes s.m).take i)))) 208])
      (fun i => 8 - i) 0 ⟨rfl, rfl, rfl, rfl, rfl, trivial⟩ ⟨by omega, by rw [List.take_zero, List.append_nil]; exact H⟩ ?_
    clear H
    rintro i τ w ⟨hi, H⟩
    have hcw : (absorb s (128 :: (List.replicate (zerosOf s.m) 0 ++ (lenBytes s.m).take i))).wt.length = 64 := by rw [absorb_wt, hwt]
    refine rG ?_; refine l_op (o_bin rfl rfl (fun _ => b_lss) ?_); refine eN ?_
    repeat refine c_seq ?_
    refine c_ifD rfl (fun hlt => ?_) (fun hlt => ?_)
    · have hlt' : i < 8 := by omega
      generalize hc : absorb s (128 :: (List.replicate (zerosOf s.m) 0 ++ (lenBytes s.m).take i)) = c at H hcw
      have e2 : (56 - 8 * (i : Int)).toNat = 56 - 8 * i := by omega
      refine c_skip ?_; refine qB ?_; refine rG ?_; refine l_op (o_mv ?_); refine l_op (o_as ?_); refine eN ?_
      refine rG ?_; refine l_op (o_mv ?_); refine l_op (o_mv ?_); refine l_op (o_bin rfl rfl (fun _ => b_mul oM oM) ?_); refine l_op (o_bin rfl rfl (fun _ => b_sub oM oM) ?_); refine l_op (o_conv Tryz.underlying3 Tryz.underlying131 rfl (w_u64_p (a := 56 - 8 * (i : Int)) oM oM) ?_); refine l_op (o_shift rfl rfl (.inr rfl) (fun _ => b_shr_u64 oM oM) ?_)
      rw [e2]
      refine l_op (o_conv Tryz.underlying25 Tryz.underlying5 rfl (w_u8_64 _) ?_); refine l_op (o_bsl H sl33 zc5 (by decide) rfl (by decide) (fill1 _ (V8 (((s.m <<< 3) >>> UInt64.ofNat (56 - 8 * i)).toUInt8)) rfl) (fun b w H hb => ?_)); refine l_op (o_callR Tryz.func111 rfl rfl rfl (write1 (x := ((s.m <<< 3) >>> UInt64.ofNat (56 - 8 * i)).toUInt8) H (i := 3) rfl hcw) ?_); rintro _ w ⟨rfl, Hc⟩
      clear H
      have H := Hc; clear Hc
      refine eN ?_
      refine rG ?_; refine l_op (o_bin rfl rfl (fun _ => b_add oM oM) ?_); refine l_op (o_mv ?_); refine eN ?_
      refine round_end (i + 1) ?_ ?_ ?_
      · exact ⟨rfl, rfl, rfl, rfl, rfl, trivial⟩
      · refine ⟨hlt', ?_⟩
        have e : absorb s (128 :: (List.replicate (zerosOf s.m) 0 ++ (lenBytes s.m).take (i + 1))) = absorb c [((s.m <<< 3) >>> UInt64.ofNat (56 - 8 * i)).toUInt8] := by
          rw [lenBytes_succ s.m i hlt', ← hc, ← absorb_append, ← List.append_assoc]; rfl
        rw [e]; exact H
      · show 8 - (i + 1) < 8 - i; omega
    · have hi8 : i = 8 := by omega
      subst hi8
      have hcl : absorb s (128 :: (List.replicate (zerosOf s.m) 0 ++ (lenBytes s.m).take 8)) = closed s := by
        rw [List.take_of_length_le (Nat.le_of_eq (lenBytes_length _)), closed, tailOf]
      rw [hcl] at H hcw
      have hdg : digest s = wordBytes (closed s).st.l := rfl
      rw [hdg]
      generalize closed s = c at H hcw
      have hl8 : c.st.l.length = 8 := rfl
      have hld : ((hashH c).drop (0 + 1)).take 8 = c.st.l.map V32 := rfl
      refine c_exit ?_; refine rG ?_; refine l_op (o_fa rfl fo208_1 ?_); refine l_op (o_ldr H (i := 3) rfl rfl rt205 (by rw [hashH_len c hcw]; decide) ?_)
      rw [hld]
      refine l_op (o_mv ?_); refine eN ?_
      generalize c.st.l = l at hl8
      have hW := wordBytes_length l
      refine qB ?_; refine c_loop (ι := Nat) (fun i => [(44, VI i), (43, .agg (l.map V32).toArray), (3, .pointer (some ⟨b3, 0, none⟩)), (2, .pointer (some ⟨b2, 0, none⟩))])
        (fun i w => i ≤ 8 ∧ Hp w0 w [hb0] [.blk hb0 (hashH s) 208, .blk b2 (List.replicate 32 (V8 0)) 24, .blk b3 (pad8 (wordBytes l) (4 * i) 32) 24])
        (fun i => 8 - i) 0 ⟨rfl, rfl, rfl, rfl, trivial⟩ ⟨by omega, by rw [pad8_zero]; exact H.sub (List.sublist_append_left _ [_])⟩ ?_
      clear H
      rintro i τ w ⟨hi, H⟩
      refine rG ?_; refine l_op (o_bin rfl rfl (fun _ => b_lss) ?_); refine eN ?_
      repeat refine c_seq ?_
      refine c_ifD rfl (fun hlt => ?_) (fun hlt => ?_)
      · have hlt' : i < 8 := by omega
        have hgi : (l.map V32).toArray[(i : Int).toNat]? = some (V32 (l.getD i 0)) := by
          have : i < l.length := by omega
          simp [this]
        refine c_skip ?_; refine qB ?_; refine rG ?_; refine l_op (o_mv ?_); refine l_op (o_idxa Tryz.underlying205 ct204 cs204 rfl rfl oM oM hgi ?_); refine l_op (o_as ?_); refine l_op (o_as ?_); refine eN ?_
        refine rG ?_; refine l_op (o_mv ?_); refine eN ?_
        refine qB ?_; refine c_loop (ι := Nat) (fun k => [(48, VI k), (44, VI i), (7, VI i), (8, V32 (l.getD i 0)), (43, .agg (l.map V32).toArray), (3, .pointer (some ⟨b3, 0, none⟩)), (2, .pointer (some ⟨b2, 0, none⟩))])
          (fun k w => k ≤ 4 ∧ Hp w0 w [hb0] [.blk hb0 (hashH s) 208, .blk b2 (List.replicate 32 (V8 0)) 24, .blk b3 (pad8 (wordBytes l) (4 * i + k) 32) 24])
          (fun k => 4 - k) 0 ⟨rfl, rfl, rfl, rfl, rfl, rfl, rfl, trivial⟩ ⟨by omega, H⟩ ?_
        clear H
        rintro k τ w ⟨hk, H⟩
        refine rG ?_; refine l_op (o_bin rfl rfl (fun _ => b_lss) ?_); refine eN ?_
        repeat refine c_seq ?_
        refine c_ifD rfl (fun hlk => ?_) (fun hlk => ?_)
        · have hlk' : k < 4 := by omega
          have e2 : (24 - 8 * (k : Int)).toNat = 24 - 8 * k := by omega
          have e3 : 0 + (4 * (i : Int) + (k : Int)).toNat * 1 = 4 * i + k := by omega
          have e4 := pad8_set (wordBytes l) (4 * i + k) 32 hW oM _ (wordBytes_get l i k hlt' hlk')
          refine c_skip ?_; refine qB ?_; refine rG ?_; refine l_op (o_mv ?_); refine l_op (o_as ?_); refine eN ?_
          refine rG ?_; refine l_op (o_mv ?_); refine l_op (o_bin rfl rfl (fun _ => b_mul oM oM) ?_); refine l_op (o_mv ?_); refine l_op (o_bin rfl rfl (fun _ => b_add oM oM) ?_); refine l_op (o_mv ?_); refine l_op (o_mv ?_); refine l_op (o_bin rfl rfl (fun _ => b_mul oM oM) ?_); refine l_op (o_bin rfl rfl (fun _ => b_sub oM oM) ?_); refine l_op (o_conv Tryz.underlying3 Tryz.underlying131 rfl (w_u64_p (a := 24 - 8 * (k : Int)) oM oM) ?_); refine l_op (o_shift rfl rfl (.inr rfl) (fun _ => b_shr_u32 oM oM) ?_)
          rw [e2]
          refine l_op (o_conv Tryz.underlying204 Tryz.underlying5 rfl (w_u8_32 _) ?_); refine l_op (o_ia rfl rfl ar24 oM oM ?_); refine l_op (o_st H (i := 2) (v := V8 ((l.getD i 0) >>> UInt32.ofNat (24 - 8 * k)).toUInt8) rfl rfl rfl cs5 rfl (by rw [pad8_length _ _ _ hW oM]; omega) (fun w H => ?_)); refine eN ?_
          rw [e3, e4] at H
          refine rG ?_; refine l_op (o_bin rfl rfl (fun _ => b_add oM oM) ?_); refine l_op (o_mv ?_); refine eN ?_
          refine round_end (k + 1) ?_ ?_ ?_
          · exact ⟨rfl, rfl, rfl, rfl, rfl, rfl, rfl, trivial⟩
          · exact ⟨hlk', H⟩
          · show 4 - (k + 1) < 4 - k; omega
        · have hk4 : k = 4 := by omega
          subst hk4
          refine c_exit ?_; refine rG ?_; refine l_op (o_bin rfl rfl (fun _ => b_add oM oM) ?_); refine l_op (o_mv ?_); refine eN ?_
          refine round_end (i + 1) ?_ ?_ ?_
          · exact ⟨rfl, rfl, rfl, rfl, trivial⟩
          · exact ⟨hlt', H⟩
          · show 8 - (i + 1) < 8 - i; omega
      · have hi8 : i = 8 := by omega
        subst hi8
        rw [pad8_all _ _ hW] at H
        have hWa : ((wordBytes l).map V8).toArray.all (·.oneCell') = true := by rw [List.all_toArray]; simp [Value.oneCell']
        have hWt : (((wordBytes l).map V8).drop 0).take 32 = (wordBytes l).map V8 := by rw [List.drop_zero, List.take_of_length_le (by simp [hW])]
        refine c_exit ?_; refine rG ?_; refine l_op (o_ldr H (i := 2) rfl rfl rt24 (by simp [hW]) ?_)
        rw [hWt]
        refine l_op (o_stw H (i := 1) rfl rfl rfl (by rw [cs24]; simp [hW]) hWa (by simp [hW]) (fun w H => ?_)); refine eN ?_
        refine c_ret (e_retc Tryz.results112 H (i := 1) rfl rfl rt24 (by simp [hW]) ⟨_, rfl, rfl, ?_⟩); exact (H.unS hH).sub (List.nil_sublist _)
end Go.Proofs.YtmiabahejnjhiaaGreatDoor
namespace Go.Proofs.YtmiabahejnjhiaaGreatDoor
open Go
set_option maxRecDepth 100000
section
variable {P : Program} {Q : Exit → Act → World → Prop} {n : Nat} {σ : Nat → Value} {w w0 : World} {K : Act → World → Prop}
  {ty : TypeId} {pos : String} {aft : Array Edge} {g : Option (Nat × Bool)} {d : Nat} {t : TypeId} {x : Operand} {S : List Nat} {L : List Ch}
/-- a row that was written out as a constant text: marked. -/
def litO (C : List Value) (e : TypeId) : Obj := .cells C.toArray e (C.length, C.length + 1)
theorem o_lit {b i len cap : Nat} {C : List Value} {e : TypeId} (H : Hp w0 w S L) (hi : L[i]? = some (.blk b C e)) (hu : P.underlying t = some (.slice e)) (he : P.underlying e = some (.int .u8)) (hx : ev n σ x = .slice (some ⟨b, 0, none⟩) len cap)
    (h : ∀ w', Hp w0 w' S (L.set i (.obj b (litO C e))) → K (mk n (up σ d (.slice (some ⟨b, 0, none⟩) len cap))) w') :
    Oper.wp P ⟨some d, .convert t t x, ty, pos, aft, g⟩ (mk n σ) w K Q := by
  have hb := H.blk hi
  have hlt : b < w.heap.size := (Array.getElem?_eq_some_iff.1 hb).1
  have hsh : w.shape? b = some (e, C.length) := by simp [World.shape?, hb]
  refine o_val (v := .slice (some ⟨b, 0, none⟩) len cap) (w' := w.freeze ⟨b, C.length, none⟩ 1) ?_ (h _ ?_)
  · simp only [execOp, hx, Sem.run_bind, convert, run_underlying hu, Result.andThen_ok]
    simp [run_underlying he, markStringish, hsh]
  · have hf : ∀ k, (w.freeze ⟨b, C.length, none⟩ 1).heap[k]? = if b = k then some (litO C e) else w.heap[k]? := by
      intro k
      unfold World.freeze
      rw [if_neg (by decide)]
      simp only [Array.getElem?_modify]
      split
      · rename_i hk; subst hk
        rw [hb]; simp [litO]
      · rfl
    refine H.turn hi (c' := .obj b (litO C e)) ?_ (fun b' hb' => .inl hb') rfl rfl rfl ?_ (fun b' _ hne => ?_)
    · simp only [Ch.ok]; rw [hf, if_pos rfl]
    · unfold World.freeze; rw [if_neg (by decide)]; simp
    · rw [hf, if_neg]; intro e'; exact hne (by rw [e']; rfl)
theorem Ch.rd_lit {b : Nat} {C : List Value} {e : TypeId} {w : World} (h : (Ch.obj b (litO C e)).ok w) : RdS w (some ⟨b, 0, none⟩) C :=
  .inr ⟨b, 0, _, e, _, rfl, h, fun i v hv => by simpa using hv⟩
end
/-- a slice of bytes as a world has it. -/
structure Sl where
  a : Option Addr
  len : Nat
  cap : Nat
  l : List UInt8
def Sl.v (s : Sl) : Value := .slice s.a s.len s.cap
structure Sl.ok (s : Sl) (w : World) : Prop where
  rd : RdS w s.a (s.l.map V8)
  ln : s.l.length = s.len
  le : s.len ≤ s.cap
  mx : s.len ≤ 9223372036854775807
theorem Hp.rd' {w0 w : World} {S : List Nat} {L : List Ch} (h : Hp w0 w S L) {a : Option Addr} {vs : List Value} (hr : RdS w0 a vs) (hap : vs ≠ [] → Apart a S) : RdS w a vs := by
  by_cases hv : vs = []
  · exact .inl hv
  · exact h.rd hr (hap hv)
theorem Sl.ok.up {x : Sl} {w0 w : World} {S : List Nat} {L : List Ch} (hx : x.ok w0) (H : Hp w0 w S L) (hap : x.l ≠ [] → Apart x.a S) : x.ok w :=
  ⟨H.rd' hx.rd (fun h => hap (by simpa using h)), hx.ln, hx.le, hx.mx⟩
theorem Sl.ok.apart {x : Sl} {w0 : World} (hx : x.ok w0) {b : Nat} (hb : w0.heap.size ≤ b) : x.l ≠ [] → Apart x.a [b] := by
  intro hne y hy
  rcases hx.rd with h | ⟨b', o, C, T, fr, ha, hh, _⟩
  · exact absurd (by simpa using h) hne
  · rw [ha] at hy
    cases hy
    have := (Array.getElem?_eq_some_iff.1 hh).1
    simp only [List.mem_singleton]; omega
theorem Hp.newer {w0 w : World} {L : List Ch} (H : Hp w0 w [] L) {i b : Nat} {c : Ch} (hi : L[i]? = some c) (hk : c.key = some b) : w0.heap.size ≤ b := by
  rcases H.fresh c (List.mem_of_getElem? hi) b hk with h | h
  · simp at h
  · exact h
def cat (ps : List Sl) : List UInt8 := ps.flatMap (·.l)
theorem cat_succ (ps : List Sl) (i : Nat) (p : Sl) (h : ps[i]? = some p) : cat (ps.take (i + 1)) = cat (ps.take i) ++ p.l := by
  rw [List.take_add_one, h]; simp [cat]
/-- a write into a hash of one's own, of what was there ahead. -/
theorem writeS {w0 w : World} {S : List Nat} {L : List Ch} {hb i : Nat} {s : HS} {x : Sl} (H : Hp w0 w S L) (hi : L[i]? = some (.blk hb (hashH s) 208)) (hwt : s.wt.length = 64) (hx : x.ok w) (hap : x.l ≠ [] → Apart x.a [hb]) :
    Ret Tryz.prog 111 [.pointer (some ⟨hb, 0, none⟩), x.v] w fun v w' => v = .tuple #[] ∧ Hp w0 w' S (L.set i (.blk hb (hashH (absorb s x.l)) 208)) := by
  refine (write_ret w hb s x.a x.len x.cap x.l hwt (H.has _ (List.mem_of_getElem? hi)) hx.rd hx.ln hx.le hap hx.mx).mono fun v w' ⟨hv, Hc⟩ => ⟨hv, ?_⟩
  have := H.callAt hi rfl rfl Hc
  rw [List.append_nil] at this
  exact this
theorem initH : hashC initS (List.replicate 64 0) 0 = hashH HS.init := rfl
theorem absorb64 (l : List UInt8) : (absorb HS.init l).wt.length = 64 := by rw [absorb_wt]; rfl
theorem of_ret (w0 : World) (pa : Option Addr) (len cap : Nat) (ps : List Sl) (hr : RdS w0 pa (ps.map Sl.v)) (hl : ps.length = len) (hok : ∀ p ∈ ps, p.ok w0) (hmx : len < 9223372036854775807) :
    Ret Tryz.prog 66 [.slice pa len cap] w0 fun v w' => v = .agg ((digest (absorb HS.init (cat ps))).map V8).toArray ∧ Hp w0 w' [] [] := by
  refine ret_mk Tryz.func66 rfl Tryz.ntmps66 (by simp) ?_
  have H := Hp.refl w0 []
  refine rG ?_; refine l_op (o_alloc H zc24 (fun b2 w H hb2 => ?_)); refine eN ?_
  refine rG ?_; refine l_op (o_callR Tryz.func110 rfl rfl rfl (new_ret _) ?_); rintro _ w ⟨hb, rfl, Hc⟩
  replace H := H.call Hc
  rw [initH] at H
  clear Hc
  refine l_op (o_as ?_); refine eN ?_
  refine rG ?_; refine l_op (o_mv ?_); refine l_op (o_lens el80 rfl ?_); refine l_op (o_mv ?_); refine eN ?_
  refine qB ?_; refine c_loop (ι := Nat) (fun i => [(9, VI i), (8, VI len), (7, .slice pa len cap), (3, .pointer (some ⟨hb, 0, none⟩)), (2, .pointer (some ⟨b2, 0, none⟩))])
    (fun i w => i ≤ len ∧ Hp w0 w [] [.blk b2 (List.replicate 32 (V8 0)) 24, .blk hb (hashH (absorb HS.init (cat (ps.take i)))) 208])
    (fun i => len - i) 0 ⟨rfl, rfl, rfl, rfl, rfl, trivial⟩ ⟨by omega, H⟩ ?_
  clear H
  rintro i τ w ⟨hi, H⟩
  refine rG ?_; refine l_op (o_bin rfl rfl (fun _ => b_lss) ?_); refine eN ?_
  repeat refine c_seq ?_
  refine c_ifD rfl (fun hlt => ?_) (fun hlt => ?_)
  · have hlt' : i < len := by omega
    have hgi : ps[i]? = some (ps[i]'oM) := List.getElem?_eq_getElem _
    generalize (ps[i]'oM) = p at hgi
    have hp := hok p (List.mem_of_getElem? hgi)
    have hv : (ps.map Sl.v)[(i : Int).toNat * 1]? = some p.v := by simp [hgi]
    refine c_skip ?_; refine qB ?_; refine rG ?_; refine l_op (o_is rfl rfl el80 oM oM (by decide) (H.rd hr (apart_nil _)) (by simp [hl]) (fun b o ha => ?_)); refine l_op (o_lds (H.rd hr (apart_nil _)) ha rfl ct33 hv ?_); refine l_op (o_as ?_); refine eN ?_
    refine rG ?_; refine l_op (o_mv ?_); refine l_op (o_mv ?_); refine l_op (o_callR Tryz.func111 rfl rfl rfl (writeS H (i := 1) rfl (absorb64 _) (hp.up H (fun _ => apart_nil _)) (hp.apart (H.newer (i := 1) rfl rfl))) ?_); rintro _ w ⟨rfl, Hc⟩
    clear H
    have H := Hc; clear Hc
    rw [← absorb_append, ← cat_succ ps i p hgi] at H
    refine eN ?_
    refine rG ?_; refine l_op (o_bin rfl rfl (fun _ => b_add oM oM) ?_); refine l_op (o_mv ?_); refine eN ?_
    refine round_end (i + 1) ?_ ?_ ?_
    · exact ⟨rfl, rfl, rfl, rfl, rfl, trivial⟩
    · exact ⟨hlt', H⟩
    · show len - (i + 1) < len - i; omega
  · have hi' : i = len := by omega
    subst hi'
    rw [List.take_of_length_le (Nat.le_of_eq hl)] at H
    have hd := digest_length (absorb HS.init (cat ps))
    refine c_exit ?_; refine rG ?_; refine l_op (o_mv ?_); refine l_op (o_callR Tryz.func112 rfl rfl rfl (sum_ret _ hb _ (absorb64 _) (H.blk (i := 1) rfl)) ?_); rintro _ w ⟨rfl, Hc⟩
    replace H := H.call Hc
    rw [List.append_nil] at H
    refine l_op (o_stw H (i := 0) rfl rfl rfl (by rw [cs24]; simp [hd]) (by rw [List.all_toArray]; simp [Value.oneCell']) (by simp [hd]) (fun w H => ?_)); refine eN ?_
    refine c_ret (e_retc Tryz.results66 H (i := 0) rfl rfl rt24 (by simp [hd]) ⟨_, rfl, rfl, ?_⟩); exact H.sub (List.nil_sublist _)
end Go.Proofs.YtmiabahejnjhiaaGreatDoor
namespace Go.Proofs.YtmiabahejnjhiaaGreatDoor
open Go Go.ChangeShapes Go.WideShapes Go.ChangeAt Go.RowKit
theorem Tryz.own : ownKnob Tryz.prog.godebug = none := by kernel_rfl
theorem Tryz.laidOut : laidOutB Tryz.prog = true := by kernel_rfl
section
variable {H : Type} {enc : TypeId × Value → H} {P : Program}
theorem trodAll_stays (hl : laidOutB P = true) {W W' : World} (hb : Below W.heap.size W W') :
    ∀ {ts : List TypeId} {vs : List Value} {ds : List (DataW H)} {ps : List MemPlace}, (∀ t ∈ ts, P.readableRec t = true ∧ t < P.types.size) → DataW.TrodAll enc P W 0 (fun _ => true) true ts vs ds ps → (∀ x ∈ ps, x.block < W.heap.size) →
      DataW.TrodAll enc P W' 0 (fun b => decide (b < W.heap.size)) true ts vs ds ps
  | [], _, _, _, _, h, _ => by
    obtain ⟨rfl, rfl, rfl⟩ := trodAll_nil h
    exact trodAll_mk0
  | t :: ts, _, _, _, ht, h, hlt => by
    obtain ⟨v, vs, d, ds, p, q, rfl, rfl, rfl, h1, h2⟩ := trodAll_cons h
    exact ⟨p, q, Below.trod hl (ht t (by simp)).1 (ht t (by simp)).2 h1 hb (fun x hx => hlt x (by simp [hx])), trodAll_stays hl hb (fun u hu => ht u (by simp [hu])) h2 (fun x hx => hlt x (by simp [hx])), rfl⟩
theorem trod_bool (tb : TypeId) (hb : P.underlying tb = some .bool) (w : World) (b : Bool) (base : Nat) (sp : Nat → Bool) (held : Bool) : DataW.Trod enc P w base sp held tb (.bool b) (.lit (.bool b)) [] := ⟨1, by simp [DataW.trod, hb, Value.cells]⟩
/-- what a law leaves: true, and all as it was. -/
theorem post_law {f : Func} {s : ChangeSpec} {apart fresh handsOn : Bool} {W W' : World} {args : Array Value} {ds gs : List (DataW H)} {before : List MemPlace} {tb : TypeId} (hl : laidOutB P = true)
    (hts : ∀ t ∈ f.params.toList, P.readableRec t = true ∧ t < P.types.size) (hW : DataW.Whole enc P f.params.toList s.vars apart W args.toList ds gs before) (hH : Hp W W' [] []) (hv : s.vars = [])
    (hs : s.fn H ds = { results := [.lit (.bool true)], args := ds }) (hr : f.resultTypes = #[tb]) (hb : P.underlying tb = some .bool) : s.post enc P f apart fresh handsOn false W args (.bool true) W' := by
  have hlt := hW.lt
  have hW' := hW
  obtain ⟨p, q, hA, hV, rfl, _, _⟩ := hW
  rw [hv] at hV
  cases gs with
  | cons g gs => simp [DataW.TrodVars] at hV
  | nil =>
    have hq : q = [] := by simpa [DataW.TrodVars] using hV
    subst hq
    have hbel := hH.below
    have hs' : s.fn H (ds ++ []) = { results := [.lit (.bool true)], args := ds } := by rw [List.append_nil]; exact hs
    have hvl : (Value.bool true).resultList f.resultTypes.size = [.bool true] := by rw [hr]; rfl
    refine ⟨ds, [], p ++ [], [], p, [], hW', ?_, ?_, ?_, hbel.frame _, fun h => by cases h⟩
    · rw [hs', hvl, hr]
      exact trodAll_mk1 (trod_bool tb hb W' true _ _ _)
    · rw [hs']
      exact trodAll_stays hl hbel hts hA (fun x hx => hlt x (by simp [hx]))
    · rw [hs', hv]; rfl
theorem law_calls {f : FuncId} {fn : Func} {s : ChangeSpec} {apart fresh handsOn : Bool} {W : World} {args : Array Value} {ds gs : List (DataW H)} {before : List MemPlace} {tb : TypeId} (hl : laidOutB P = true)
    (hts : ∀ t ∈ fn.params.toList, P.readableRec t = true ∧ t < P.types.size) (hW : DataW.Whole enc P fn.params.toList s.vars apart W args.toList ds gs before) (hv : s.vars = [])
    (hs : s.fn H ds = { results := [.lit (.bool true)], args := ds }) (hr : fn.resultTypes = #[tb]) (hb : P.underlying tb = some .bool)
    (h : Ret P f args.toList W fun v w' => v = .bool true ∧ Hp W w' [] []) : Calls P f args W fun e W' => ∃ v, e = .returned v ∧ s.post enc P fn apart fresh handsOn false W args v W' := by
  have h' : Calls P f args W fun e w' => ∃ v, e = .returned v ∧ v = .bool true ∧ Hp W w' [] [] := by simpa [Ret] using h
  exact Calls.mono h' fun e w' ⟨v, he, hv', hH⟩ => ⟨v, he, by subst hv'; exact post_law hl hts hW hH hv hs hr hb⟩
end
/-- the facts on the types of a law's parameters. -/
def tyOk (P : Program) (ts : List TypeId) : Bool := ts.all fun t => P.readableRec t && decide (t < P.types.size)
theorem tyOk_all {ts : List TypeId} (h : tyOk Tryz.prog ts = true) : ∀ t ∈ ts, Tryz.prog.readableRec t = true ∧ t < Tryz.prog.types.size := by
  intro t ht
  have := List.all_eq_true.1 h t ht
  simpa using this
theorem cut_of (P : Program) (cs : List Char) (h : P.initOrder = String.ofList cs) (hb : ((behindMainWord (wordsSigns cs)).head? == some "cut".toList) = true) : ∃ rest, behindMainWord (wordsSigns P.initOrder.toList) = "cut".toList :: rest := by
  rw [h, String.toList_ofList]
  generalize behindMainWord (wordsSigns cs) = l at hb
  cases l with
  | nil => simp at hb
  | cons c r => exact ⟨r, by simpa using hb⟩
set_option maxRecDepth 100000 in
theorem Tryz.cut : ∃ rest, behindMainWord (wordsSigns Tryz.prog.initOrder.toList) = "cut".toList :: rest := by
  refine cut_of Tryz.prog _ rfl ?_
  kernel_rfl
theorem strip_cut (rest : List (List Char)) : stripLifts liftWords ("cut".toList :: rest) = ([], "cut".toList :: rest) := by
  kernel_rfl
theorem headLifts_cut {P : Program} {rest : List (List Char)} (h : behindMainWord (wordsSigns P.initOrder.toList) = "cut".toList :: rest) : P.headLifts = [] := by
  unfold Program.headLifts
  rw [h, strip_cut]
  simp
theorem lifts_cut {P : Program} {rest : List (List Char)} (h : behindMainWord (wordsSigns P.initOrder.toList) = "cut".toList :: rest) : P.liftsFinal = false := by
  unfold Program.liftsFinal
  rw [h, headLifts_cut h]
  simp
theorem make_cut {P : Program} {rest : List (List Char)} (h : behindMainWord (wordsSigns P.initOrder.toList) = "cut".toList :: rest) : P.make = some .cut := by
  unfold Program.make
  rw [h]
  simp
theorem enter_cut {P : Program} {rest : List (List Char)} (h : behindMainWord (wordsSigns P.initOrder.toList) = "cut".toList :: rest) (h1 : P.laysLater = false) (h2 : P.bearsReflect = false) (h3 : P.doorFits [] = true) : P.mayEnter = true := by
  unfold Program.mayEnter
  rw [h]
  simp only [strip_cut, h1, h2, h3]
  simp
theorem joined_of (P : Program) (f : FuncId) (fn : Func) (s : ChangeSpec) (c : OpenClaim) (h1 : laidOutB P = true) (h2 : mapsRowed P = true) (h3 : P.stops = []) (h4 : P.stopKnobs = []) (h5 : P.stopsHeard = true) (h6 : P.mayEnter = true) (h7: P.liftsFinal = false) (h8 : P.make = some .cut) (pk : Bool) (h9 : P.plainKeys = pk)
    (r : (c.wf (OpenSpec.ofChange s) && fn.params.all (P.readableRec ·) && namedTie P c.named s.vars &&
  (c.stops == []) && (c.knobs == []) && 
  (c.inPlace == P.inPlace f) && (c.unfollowed == P.unfollowed f) && (c.recurses == P.recurses f) && (c.named == P.varsNamed f)) = true)
    (r2 : ((c.maps == (fn.params.toList ++ s.plain.varTypes P).any (P.mapsRec ·)) && (c.ifaces == (fn.params.toList ++ s.plain.varTypes P).any (P.ifacesRec ·)) && (c.mapsOut == P.mapsAmong fn.resultTypes.toList) &&
  (c.loops == (fn.params.toList ++ s.plain.varTypes P).any (P.loopsFrom ·)) && (c.wideKeys == (fn.params.toList ++ s.plain.varTypes P ++ fn.resultTypes.toList).any (P.wideKeysFrom ·)) &&
  s.vars.all (P.varReadable ·) && fn.resultTypes.all (fun t => P.readableRec t && decide (t < P.types.size)) && (c.ifacesOut == fn.resultTypes.toList.any (P.ifacesRec ·)) && (c.loopsOut == fn.resultTypes.toList.any (P.loopsFrom ·)) && (c.plainKeys == pk) && c.shortTexts.isNone && (c.lifted == false) && (some Make.cut == some c.make) && (c.kinds == (if c.domain.isEmpty then [] else fn.params.toList.map fun t => match P.underlying t with | some (.int k) => some k | _ => none)) && (c.pinned == c.pinnedBy) &&
  (c.veiled == (fn.params.toList ++ s.plain.varTypes P ++ fn.resultTypes.toList).any (P.veiledRec ·)) && c.veiledFits P fn.params.toList (fn.params.toList ++ s.plain.varTypes P ++ fn.resultTypes.toList)) = true) : joinedFacts P f fn s c = true := by
  simp only [Bool.and_eq_true] at r r2
  obtain ⟨⟨⟨⟨⟨⟨⟨⟨k1, k4⟩, k5⟩, k6⟩, k8⟩, k10⟩, k11⟩, k12⟩, k13⟩ := r
  obtain ⟨⟨⟨⟨⟨⟨⟨⟨⟨⟨⟨⟨⟨⟨⟨⟨m1, m2⟩, m3⟩, m4⟩, m5⟩, m6⟩, m7⟩, m8⟩, m9⟩, m10⟩, m11⟩, m12⟩, m13⟩, m14⟩, m15⟩, m16⟩, m17⟩ := r2
  unfold joinedFacts
  rw [h3, h4, h7, h8, h9]
  simp only [Bool.and_eq_true]
  exact ⟨⟨⟨⟨⟨⟨⟨⟨⟨⟨⟨⟨⟨⟨⟨⟨⟨⟨⟨⟨⟨⟨⟨⟨⟨⟨⟨⟨⟨⟨⟨k1, h1⟩, h2⟩, k4⟩, k5⟩, k6⟩, rfl⟩, k8⟩, rfl⟩, k10⟩, k11⟩, k12⟩, k13⟩, m1⟩, m2⟩, m3⟩, m4⟩, m5⟩, m6⟩, m7⟩, m8⟩, m9⟩, m10⟩, m11⟩, h5⟩, h6⟩, m12⟩, m13⟩, m14⟩, m15⟩, m16⟩, m17⟩
theorem Tryz.mapsRowed : mapsRowed Tryz.prog = true := by kernel_rfl
theorem Tryz.stops : Tryz.prog.stops = [] := by kernel_rfl
theorem Tryz.stopKnobs : Tryz.prog.stopKnobs = [] := by kernel_rfl
theorem Tryz.stopsHeard : Tryz.prog.stopsHeard = true := by kernel_rfl
theorem Tryz.laysLater : Tryz.prog.laysLater = false := by kernel_rfl
theorem Tryz.bearsReflect : Tryz.prog.bearsReflect = false := by kernel_rfl
theorem Tryz.doorFits : Tryz.prog.doorFits [] = true := by kernel_rfl
theorem Tryz.mayEnter : Tryz.prog.mayEnter = true := Tryz.cut.elim fun _ h => enter_cut h Tryz.laysLater Tryz.bearsReflect Tryz.doorFits
theorem Tryz.liftsFinal : Tryz.prog.liftsFinal = false := Tryz.cut.elim fun _ h => lifts_cut h
theorem Tryz.make : Tryz.prog.make = some .cut := Tryz.cut.elim fun _ h => make_cut h
theorem Tryz.plainKeys : Tryz.prog.plainKeys = false := by kernel_rfl
end Go.Proofs.YtmiabahejnjhiaaGreatDoor
namespace Go.Proofs.YtmiabahejnjhiaaGreatDoor
open Go Go.ChangeShapes Go.WideShapes Go.ChangeAt Go.RowKit Go.Deep
set_option maxRecDepth 100000
section
variable {H : Type} {enc : TypeId × Value → H} {W : World}
instance : Inhabited Sl := ⟨⟨none, 0, 0, []⟩⟩
end
end Go.Proofs.YtmiabahejnjhiaaGreatDoor
namespace Go.Proofs.YtmiabahejnjhiaaGreatDoor
open Go
section
variable {P : Program} {ops : Array Oper} {Q : Exit → Act → World → Prop} {md : Region.Mode} {I : World → Prop} {Z : Nat → Bool}
/-- Whatever order is picked from here on, and I holds behind each operation that is none of Z. -/
def wpAnyZ (P : Program) (md : Region.Mode) (ops : Array Oper) (Q : Exit → Act → World → Prop) (I : World → Prop) (Z : Nat → Bool) : Nat → Array Bool → Act → World → Prop
  | 0, listed, a, w => Region.ready md ops listed = [] ∧ Q .normal a w
  | fuel + 1, listed, a, w =>
    (Region.ready md ops listed = [] → Q .normal a w) ∧
    ∀ i ∈ Region.ready md ops listed, wpOp P ops Q i (fun a' w' => (Z i = false → I w → I w') ∧ wpAnyZ P md ops Q I Z fuel (listed.setIfInBounds i true) a' w') a w
theorem wpAny_ofZ : ∀ (fuel : Nat) (listed : Array Bool) (a : Act) (w : World), wpAnyZ P md ops Q I Z fuel listed a w → wpAny P md ops Q fuel listed a w
  | 0, _, _, _, h => h
  | fuel + 1, _, _, _, h => ⟨h.1, fun i hi => wpOp_mono (fun a' w' h' => wpAny_ofZ fuel _ a' w' h'.2) (h.2 i hi)⟩
/-- what waits for operation i. -/
def waits (md : Region.Mode) (ops : Array Oper) (i j : Nat) : Bool := match ops[j]? with
  | some oj => oj.after.any (fun e => Region.binds md e && e.on == i)
  | none => true
def zok (md : Region.Mode) (ops : Array Oper) (Z : Nat → Bool) (i : Nat) : Bool := (List.range ops.size).all fun j => !(Z j) || waits md ops i j
theorem zok_spec {i : Nat} (h : zok md ops Z i = true) {j : Nat} {oj : Oper} (hj : ops[j]? = some oj) (hno : ∀ e ∈ oj.after, Region.binds md e = true → e.on ≠ i) : Z j = false := by
  have h1 := List.all_eq_true.1 h j (List.mem_range.2 (Array.getElem?_eq_some_iff.1 hj).1)
  cases hz : Z j with
  | false => rfl
  | true =>
    simp only [hz, Bool.not_true, Bool.false_or, waits, hj] at h1
    obtain ⟨e, he, hb⟩ := Array.any_eq_true'.1 h1
    simp only [Bool.and_eq_true, beq_iff_eq] at hb
    exact absurd hb.2 (hno e he hb.1)
theorem wpAnyZ_first {S : World → Prop} {i : Nat} {oi : Oper} {v : Value} (hi : ops[i]? = some oi) (hsel : ∀ (j : Nat) (o : Oper) cs b, ops[j]? = some o → o.op ≠ .select cs b)
    (hQ : ∀ c a w, Q (.panic c) (a.put oi.dst v) w → Q (.panic c) a w)
    (hz : ∀ j oj, ops[j]? = some oj → (∀ e ∈ oj.after, Region.binds md e = true → e.on ≠ i) → ∀ w w' : World, (Z j = false → I w → I w') → S w → S w') :
    ∀ (fuel : Nat) (listed : Array Bool) (a : Act) (w : World),
      (∀ j oj, ops[j]? = some oj → j ≠ i → listed.getD j true = false → (∀ e ∈ oj.after, Region.binds md e = true → e.on ≠ i) → oi.apart ops oj = true) →
      i ∈ Region.ready md ops listed → YieldsIf P ops S oi v a → S w →
      wpAnyZ P md ops Q I Z fuel (listed.setIfInBounds i true) (a.put oi.dst v) w → wpAnyZ P md ops Q I Z (fuel + 1) listed a w := by
  intro fuel
  induction fuel with
  | zero =>
    intro listed a w _ hr hy hS H
    refine ⟨fun h => (by rw [h] at hr; cases hr), fun j hj => ?_⟩
    by_cases hji : j = i
    · subst hji; exact hy.wpOp hi hS ⟨fun _ h => h, H⟩
    · have := ready_mono hj hji
      rw [H.1] at this
      cases this
  | succ fuel ih =>
    intro listed a w hfree hr hy hS H
    refine ⟨fun h => (by rw [h] at hr; cases hr), fun j hj => ?_⟩
    by_cases hji : j = i
    · subst hji; exact hy.wpOp hi hS ⟨fun _ h => h, H⟩
    · have h1 := H.2 j (ready_mono hj hji)
      obtain ⟨hjun, oj, hoj, hall⟩ := mem_ready.1 hj
      have hnot : ∀ e ∈ oj.after, Region.binds md e = true → e.on ≠ i := fun e he hb heq => by
        have h1 := hall e he hb
        have h0 := (mem_ready.1 hr).1
        rw [heq] at h1
        rcases Nat.lt_or_ge i listed.size with h' | h'
        · simp [h'] at h0 h1; rw [h0] at h1; cases h1
        · simp [Array.getElem?_eq_none h'] at h1
      have h2 := wpOp_putIf hoj (hfree j oj hoj hji hjun hnot) (fun cs b => hsel i oi cs b hi) (fun cs b => hsel j oj cs b hoj) hQ hy h1
      have hfree' : ∀ k ok, ops[k]? = some ok → k ≠ i → (listed.setIfInBounds j true).getD k true = false →
          (∀ e ∈ ok.after, Region.binds md e = true → e.on ≠ i) → oi.apart ops ok = true := fun k ok hk hki hun hno => by
        refine hfree k ok hk hki ?_ hno
        by_cases hjk : j = k
        · subst hjk; exact hjun
        · rw [getD_set_ne true hjk] at hun; exact hun
      refine wpOp_mono (fun a' w' h3 => ⟨h3.2.1, ih (listed.setIfInBounds j true) a' w' hfree' (ready_mono hr (Ne.symm hji)) h3.1 (hz j oj hoj hnot w w' h3.2.1 hS) ?_⟩) h2
      rw [Array.setIfInBounds_comm _ _ hji]
      exact h3.2.2
variable {n : Nat} {σ : Nat → Value} {w : World} {K : Act → World → Prop} {ty : TypeId} {pos : String} {aft : Array Edge} {d : Nat} {fuel : Nat} {listed : Array Bool} {dst : Option Tmp} {oo : Op}
theorem z_held {id : Nat} {l : List Oper} {a : Act} (I : World → Prop) (Z : Nat → Bool) (hm : P.follows .mixedOrders = true)
    (h : wpAnyZ P .any l.toArray Q I Z l.length (Array.replicate l.length false) a w.drew) : (Code.region id l.toArray true).wp P Q a w :=
  wp_region_any hm (wpAny_ofZ _ _ _ _ (by simpa using h))
/-- operation i looks at the world: all of Z waits for it. -/
theorem z_take (i : Nat) {v : Value} (hi : ops[i]? = some ⟨some d, oo, ty, pos, aft, none⟩) (hs : Region.noSelect ops = true) (hf : Region.free .any ops listed i = true) (hr : (Region.ready .any ops listed).contains i = true) (hk : zok .any ops Z i = true)
    (hQ : ∀ c a w, Q (.panic c) (a.put (some d) v) w → Q (.panic c) a w) (hy : ∀ w, I w → (execOp (ev n σ) ⟨some d, oo, ty, pos, aft, none⟩).run P w = .ok (.value v) w) (hS : I w)
    (h : wpAnyZ P .any ops Q I Z fuel (listed.setIfInBounds i true) (mk n (up σ d v)) w) : wpAnyZ P .any ops Q I Z (fuel + 1) listed (mk n σ) w :=
  wpAnyZ_first (v := v) hi (Region.noSelect_spec hs) hQ (fun _ _ hj hno _ _ hz => hz (zok_spec hk hj hno)) fuel listed _ w (Region.free_spec hi hf) (by simpa using hr) (.inl ⟨rfl, fun w hw => by rw [mk_evalf]; exact hy w hw⟩) hS (by show wpAnyZ P .any ops Q I Z fuel _ ((mk n σ).put (some d) v) w; rw [mk_put]; exact h)
/-- operation i looks at no world. -/
theorem z_take0 (i : Nat) {v : Value} (hi : ops[i]? = some ⟨some d, oo, ty, pos, aft, none⟩) (hs : Region.noSelect ops = true) (hf : Region.free .any ops listed i = true) (hr : (Region.ready .any ops listed).contains i = true)
    (hQ : ∀ c a w, Q (.panic c) (a.put (some d) v) w → Q (.panic c) a w) (hy : ∀ w, (execOp (ev n σ) ⟨some d, oo, ty, pos, aft, none⟩).run P w = .ok (.value v) w)
    (h : wpAnyZ P .any ops Q I Z fuel (listed.setIfInBounds i true) (mk n (up σ d v)) w) : wpAnyZ P .any ops Q I Z (fuel + 1) listed (mk n σ) w :=
  wpAnyZ_first (S := fun _ => True) (v := v) hi (Region.noSelect_spec hs) hQ (fun _ _ _ _ _ _ _ _ => trivial) fuel listed _ w (Region.free_spec hi hf) (by simpa using hr) (.inl ⟨rfl, fun w _ => by rw [mk_evalf]; exact hy w⟩) trivial (by show wpAnyZ P .any ops Q I Z fuel _ ((mk n σ).put (some d) v) w; rw [mk_put]; exact h)
theorem z_step (i : Nat) {a : Act} (hi : ops[i]? = some ⟨dst, oo, ty, pos, aft, none⟩) (hr : Region.ready .any ops listed = [i])
    (h : Oper.wp P ⟨dst, oo, ty, pos, aft, none⟩ a w (fun a' w' => (Z i = false → I w → I w') ∧ wpAnyZ P .any ops Q I Z fuel (listed.setIfInBounds i true) a' w') Q) : wpAnyZ P .any ops Q I Z (fuel + 1) listed a w :=
  ⟨fun h0 => (by rw [hr] at h0; cases h0), fun j hj => (by
    rw [hr, List.mem_singleton] at hj
    subst hj
    exact w_op _ hi h)⟩
theorem z_all {a : Act} (rs : List Nat) (hr : Region.ready .any ops listed = rs) (hne : rs ≠ [])
    (h : ∀ i ∈ rs, wpOp P ops Q i (fun a' w' => (Z i = false → I w → I w') ∧ wpAnyZ P .any ops Q I Z fuel (listed.setIfInBounds i true) a' w') a w) : wpAnyZ P .any ops Q I Z (fuel + 1) listed a w :=
  ⟨fun h0 => absurd (hr ▸ h0) hne, hr ▸ h⟩
theorem z_done {a : Act} (hr : Region.ready .any ops listed = []) (h : Q .normal a w) : ∀ {fuel : Nat}, wpAnyZ P .any ops Q I Z fuel listed a w
  | 0 => ⟨hr, h⟩
  | _ + 1 => ⟨fun _ => h, by rw [hr]; simp⟩
theorem zT (i : Nat) {v : Value} (hi : ops[i]? = some ⟨some d, oo, ty, pos, aft, none⟩) (hy : ∀ w, I w → (execOp (ev n σ) ⟨some d, oo, ty, pos, aft, none⟩).run P w = .ok (.value v) w) (hS : I w)
    (h : wpAnyZ P .any ops Q I Z fuel (listed.setIfInBounds i true) (mk n (up σ d v)) w) (hs : Region.noSelect ops = true := by kernel_rfl) (hf : Region.free .any ops listed i = true := by kernel_rfl) (hr : (Region.ready .any ops listed).contains i = true := by kernel_rfl) (hk : zok .any ops Z i = true := by kernel_rfl)
    (hQ : ∀ c (a : Act) w, Q (.panic c) (a.put (some d) v) w → Q (.panic c) a w := by exact fun _ _ _ h => h) : wpAnyZ P .any ops Q I Z (fuel + 1) listed (mk n σ) w := z_take i hi hs hf hr hk hQ hy hS h
theorem zA (i : Nat) {v : Value} (hi : ops[i]? = some ⟨some d, oo, ty, pos, aft, none⟩) (hy : ∀ w, (execOp (ev n σ) ⟨some d, oo, ty, pos, aft, none⟩).run P w = .ok (.value v) w)
    (h : wpAnyZ P .any ops Q I Z fuel (listed.setIfInBounds i true) (mk n (up σ d v)) w) (hs : Region.noSelect ops = true := by kernel_rfl) (hf : Region.free .any ops listed i = true := by kernel_rfl) (hr : (Region.ready .any ops listed).contains i = true := by kernel_rfl)
    (hQ : ∀ c (a : Act) w, Q (.panic c) (a.put (some d) v) w → Q (.panic c) a w := by exact fun _ _ _ h => h) : wpAnyZ P .any ops Q I Z (fuel + 1) listed (mk n σ) w := z_take0 i hi hs hf hr hQ hy h
theorem tG (i : Nat) {S' : World → Prop} {v : Value} {j : Nat} {b : Bool} (hi : ops[i]? = some ⟨some d, oo, ty, pos, aft, some (j, b)⟩) (hg : yielded ops (mk n σ).tmps j = some b) (hy : ∀ w, S' w → (execOp (ev n σ) ⟨some d, oo, ty, pos, aft, some (j, b)⟩).run P w = .ok (.value v) w) (hS : S' w)
    (h : wpAnyH P .any ops Q S' fuel (listed.setIfInBounds i true) (mk n (up σ d v)) w) (hs : Region.noSelect ops = true := by kernel_rfl) (hf : Region.free .any ops listed i = true := by kernel_rfl) (hr : (Region.ready .any ops listed).contains i = true := by kernel_rfl)
    (hQ : ∀ c (a : Act) w, Q (.panic c) (a.put (some d) v) w → Q (.panic c) a w := by exact fun _ _ _ h => h) : wpAnyH P .any ops Q S' (fuel + 1) listed (mk n σ) w := t_takeg i hi hs hf hr hQ hg hy hS h
theorem tU (i : Nat) {S' : World → Prop} {a : Act} (hi : ops[i]? = some ⟨dst, oo, ty, pos, aft, none⟩) 
    (h : Oper.wp P ⟨dst, oo, ty, pos, aft, none⟩ a w (fun a' w' => S' w' ∧ wpAnyH P .any ops Q S' fuel (listed.setIfInBounds i true) a' w') Q) (hr : Region.ready .any ops listed = [i] := by kernel_rfl) : wpAnyH P .any ops Q S' (fuel + 1) listed a w := t_step i hi hr h
theorem zU (i : Nat) {a : Act} (hi : ops[i]? = some ⟨dst, oo, ty, pos, aft, none⟩) 
    (h : Oper.wp P ⟨dst, oo, ty, pos, aft, none⟩ a w (fun a' w' => (Z i = false → I w → I w') ∧ wpAnyZ P .any ops Q I Z fuel (listed.setIfInBounds i true) a' w') Q) (hr : Region.ready .any ops listed = [i] := by kernel_rfl) : wpAnyZ P .any ops Q I Z (fuel + 1) listed a w := z_step i hi hr h
theorem heldH {id : Nat} {l : List Oper} {a : Act} {w0 : World} {S : List Nat} {L : List Ch} (H : Hp w0 w S L) (hm : P.follows .mixedOrders = true)
    (h : Hp w0 w.drew S L → wpAnyH P .any l.toArray Q (fun w => Hp w0 w S L) l.length (Array.replicate l.length false) a w.drew) : (Code.region id l.toArray true).wp P Q a w := wp_held _ hm (h H.drew)
theorem heldS {id : Nat} {l : List Oper} {a : Act} {w0 : World} {S : List Nat} {L L' : List Ch} (H : Hp w0 w S L) (H' : Hp w0 w S L') (hm : P.follows .mixedOrders = true)
    (h : Hp w0 w.drew S L → Hp w0 w.drew S L' → wpAnyH P .any l.toArray Q (fun w => Hp w0 w S L') l.length (Array.replicate l.length false) a w.drew) : (Code.region id l.toArray true).wp P Q a w := wp_held _ hm (h H.drew H'.drew)
theorem heldZ {id : Nat} {l : List Oper} {a : Act} {w0 : World} {S : List Nat} {L : List Ch} (H : Hp w0 w S L) (Z : Nat → Bool) (hm : P.follows .mixedOrders = true)
    (h : Hp w0 w.drew S L → wpAnyZ P .any l.toArray Q (fun w => Hp w0 w S L) Z l.length (Array.replicate l.length false) a w.drew) : (Code.region id l.toArray true).wp P Q a w := z_held _ Z hm (h H.drew)
end
end Go.Proofs.YtmiabahejnjhiaaGreatDoor
namespace Go.Proofs.YtmiabahejnjhiaaGreatDoor
open Go
set_option maxRecDepth 100000
theorem fills (z : Value) (vs : List Value) (len : Nat) (h1 : ∀ v ∈ vs, v.oneCell' = true) (hl : vs.length = len) : Instr.fill (fun i => some (i * 1, 1)) ((Array.range (len * 1)).map (([z].toArray)[· % ([z].toArray).size]!)) (en 0 vs) = some vs.toArray := by
  have := fill_en (zs := ((Array.range (len * 1)).map (([z].toArray)[· % ([z].toArray).size]!)).toList) vs (by rw [List.all_toArray, List.all_eq_true]; exact h1) (by simp [hl])
  rwa [Array.toArray_toList] at this
theorem ok_lit {w0 w : World} {S : List Nat} {L : List Ch} (H : Hp w0 w S L) {i b cap len : Nat} {l : List UInt8} {C : List Value} {e : TypeId} (hi : L[i]? = some (.obj b (litO C e))) (hC : C = l.map V8) (hl : l.length = len) (hc : len ≤ cap) (hm : len ≤ 9223372036854775807) : (⟨some ⟨b, 0, none⟩, len, cap, l⟩ : Sl).ok w :=
  ⟨by rw [← hC]; exact Ch.rd_lit (H.has _ (List.mem_of_getElem? hi)), hl, hc, hm⟩
def abc : HS := absorb HS.init [97, 98, 99]
def abcD : List UInt8 := digest abc
attribute [local irreducible] abc abcD digest absorb
end Go.Proofs.YtmiabahejnjhiaaGreatDoor
namespace Go.Proofs.YtmiabahejnjhiaaGreatDoor
open Go
section
variable {P : Program} {Q : Exit → Act → World → Prop} {n : Nat} {σ : Nat → Value} {w : World} {K : Act → World → Prop}
  {ty : TypeId} {pos : String} {aft : Array Edge} {g : Option (Nat × Bool)} {d : Nat} {t yt : TypeId} {x y : Operand}
theorem b_lssB {k : IntKind} {a b : Int} (v : Bool) (h : decide (a < b) = v) : (binOp .lss t (.int k a) (.int k b)).run P w = .ok (.bool v) w := by rw [← h]; exact b_lss
theorem b_leqB {k : IntKind} {a b : Int} (v : Bool) (h : decide (a ≤ b) = v) : (binOp .leq t (.int k a) (.int k b)).run P w = .ok (.bool v) w := by rw [← h]; exact b_leq
theorem b_gtrB {k : IntKind} {a b : Int} (v : Bool) (h : decide (b < a) = v) : (binOp .gtr t (.int k a) (.int k b)).run P w = .ok (.bool v) w := by rw [← h]; exact b_gtr
theorem b_geqB {k : IntKind} {a b : Int} (v : Bool) (h : decide (b ≤ a) = v) : (binOp .geq t (.int k a) (.int k b)).run P w = .ok (.bool v) w := by rw [← h]; exact b_geq
theorem b_eqlB {k : IntKind} {a b : Int} (v : Bool) (h : decide (a = b) = v) : (binOp .eql t (.int k a) (.int k b)).run P w = .ok (.bool v) w := by rw [← h]; exact b_eql
theorem b_neqB {k : IntKind} {a b : Int} (v : Bool) (h : decide (a ≠ b) = v) : (binOp .neq t (.int k a) (.int k b)).run P w = .ok (.bool v) w := by rw [← h]; exact b_neq
end
theorem all1 {α : Type} {p : α → Prop} {a : α} (ha : p a) : ∀ x ∈ [a], p x := by
  intro x hx
  rw [List.mem_singleton] at hx
  rw [hx]; exact ha
theorem all2 {α : Type} {p : α → Prop} {a b : α} (ha : p a) (hb : p b) : ∀ x ∈ [a, b], p x := by
  intro x hx
  simp only [List.mem_cons, List.not_mem_nil, or_false] at hx
  rcases hx with h | h <;> rw [h] <;> assumption
end Go.Proofs.YtmiabahejnjhiaaGreatDoor
namespace Go.Proofs.YtmiabahejnjhiaaGreatDoor
open Go
set_option maxRecDepth 100000
theorem Hp.nilOwn {w0 w : World} {S : List Nat} {L : List Ch} (H : Hp w0 w S L) (T : TypeId) (sz : Nat) : Hp w0 w S (.own none 0 0 [] T sz :: L) :=
  ⟨H.os, H.tape, H.output, H.size, H.frame, fun c hc => by
    rcases List.mem_cons.1 hc with rfl | h
    · exact ⟨rfl, rfl, rfl⟩
    · exact H.has c h, fun c hc b hk => by
    rcases List.mem_cons.1 hc with rfl | h
    · cases hk
    · exact H.fresh c h b hk, List.pairwise_cons.2 ⟨fun _ _ _ h => (by cases h), H.nd⟩⟩
end Go.Proofs.YtmiabahejnjhiaaGreatDoor
namespace Go.Proofs.YtmiabahejnjhiaaGreatDoor
open Go
section
variable {P : Program} {Q : Exit → Act → World → Prop} {n : Nat} {σ : Nat → Value} {w w0 : World} {K : Act → World → Prop}
  {ty : TypeId} {pos : String} {aft : Array Edge} {g : Option (Nat × Bool)} {d : Nat} {t yt : TypeId} {x y z : Operand} {S : List Nat} {L : List Ch}
theorem Sl.ok.addr {s : Sl} (h : s.ok w) (hp : 0 < s.len) : ∃ b o, s.a = some ⟨b, o, none⟩ := by
  rcases h.rd with h' | ⟨b, o, C, T, fr, ha, hb, hc⟩
  · have := h.ln
    rw [List.map_eq_nil_iff.1 h'] at this
    simp at this; omega
  · exact ⟨b, o, ha⟩
theorem Sl.get (s : List UInt8) (k : Nat) (h : k < s.length) : (s.map V8)[k]? = some (V8 (s.getD k 0)) := by
  simp [List.getD_eq_getElem?_getD, h]
theorem RdS.addr {a : Option Addr} {vs : List Value} (h : RdS w a vs) (hp : 0 < vs.length) : ∃ b o, a = some ⟨b, o, none⟩ := by
  rcases h with rfl | ⟨b, o, C, T, fr, ha, hb, hc⟩
  · simp at hp
  · exact ⟨b, o, ha⟩
/-- a slice out of a list of slices. -/
theorem r_ldP {a : Option Addr} {b o k : Nat} {ps : List Sl} {p : Sl} (hr : RdS w a (ps.map Sl.v)) (ha : a = some ⟨b, o, none⟩) (hx : ev n σ x = .pointer (some ⟨b, o + k * 1, none⟩)) (ht : cellTy P t = true) (hk : ps[k]? = some p) :
    (execOp (ev n σ) ⟨some d, .load t x, ty, pos, aft, g⟩).run P w = .ok (.value p.v) w :=
  r_lds (i := k * 1) hr ha hx ht (by simp [hk])
/-- an element's address. -/
theorem r_isN {a : Option Addr} {b o len cap sz : Nat} {kk : IntKind} {i : Int} (k : Nat) (hx : ev n σ x = .slice a len cap) (hy : ev n σ y = .int kk i) (ha : eltOf P t = some sz) (hb : a = some ⟨b, o, none⟩) (hi : i = (k : Int)) (h1 : k < len) :
    (execOp (ev n σ) ⟨some d, .indexAddr t x y, ty, pos, aft, g⟩).run P w = .ok (.value (.pointer (some ⟨b, o + k * sz, none⟩))) w := by
  subst hi
  exact r_is hx hy ha hb oM oM
theorem r_iaN {b o len sz : Nat} {kk : IntKind} {i : Int} (k : Nat) (hx : ev n σ x = .pointer (some ⟨b, o, none⟩)) (hy : ev n σ y = .int kk i) (ha : arrOf P t = some (len, sz)) (hi : i = (k : Int)) (h1 : k < len) :
    (execOp (ev n σ) ⟨some d, .indexAddr t x y, ty, pos, aft, g⟩).run P w = .ok (.value (.pointer (some ⟨b, o + k * sz, none⟩))) w := by
  subst hi
  exact r_ia hx hy ha oM oM
/-- a byte of a slice. -/
theorem r_ldB {s : Sl} {b o k : Nat} (hs : s.ok w) (ha : s.a = some ⟨b, o, none⟩) (hx : ev n σ x = .pointer (some ⟨b, o + k * 1, none⟩)) (ht : cellTy P t = true) (hk : k < s.len) :
    (execOp (ev n σ) ⟨some d, .load t x, ty, pos, aft, g⟩).run P w = .ok (.value (V8 (s.l.getD k 0))) w :=
  r_lds (i := k * 1) hs.rd ha hx ht (by rw [Nat.mul_one]; exact Sl.get _ _ (by rw [hs.ln]; exact hk))
/-- a whole array. -/
theorem r_ldA {b i k : Nat} {C : List Value} {T : TypeId} (H : Hp w0 w S L) (hi : L[i]? = some (.blk b C T)) (hx : ev n σ x = .pointer (some ⟨b, 0, none⟩)) (ht : rowTy P t = some k) (hk : C.length = k) :
    (execOp (ev n σ) ⟨some d, .load t x, ty, pos, aft, g⟩).run P w = .ok (.value (.agg C.toArray)) w := by
  have h := r_ldr (P := P) (t := t) (d := d) (ty := ty) (pos := pos) (aft := aft) (g := g) H hi hx ht oM
  rw [h, List.drop_zero, List.take_of_length_le (Nat.le_of_eq hk)]
theorem r_ldAA {b i k : Nat} {l : List UInt8} {T : TypeId} (H : Hp w0 w S L) (hi : L[i]? = some (.blk b (l.map V8) T)) (hx : ev n σ x = .pointer (some ⟨b, 0, none⟩)) (ht : rowTy P t = some k) (hk : l.length = k) :
    (execOp (ev n σ) ⟨some d, .load t x, ty, pos, aft, g⟩).run P w = .ok (.value (.agg (l.map V8).toArray)) w :=
  r_ldA H hi hx ht (by rw [List.length_map, hk])
theorem o_stA {b i k : Nat} {l l' : List UInt8} {T : TypeId} (H : Hp w0 w S L) (hi : L[i]? = some (.blk b (l.map V8) T)) (hx : ev n σ x = .pointer (some ⟨b, 0, none⟩)) (hy : ev n σ y = .agg (l'.map V8).toArray)
    (hs : cellSz P t = some k) (h1 : l.length = k) (h2 : l'.length = k)
    (h : ∀ w', Hp w0 w' S (L.set i (.blk b (l'.map V8) T)) → K (mk n σ) w') : Oper.wp P ⟨none, .store t x y, ty, pos, aft, g⟩ (mk n σ) w K Q :=
  o_stw H hi hx hy (by rw [hs, List.size_toArray, List.length_map, h2]) (by rw [List.all_toArray]; simp [Value.oneCell']) (by rw [List.size_toArray, List.length_map, h2, List.length_map, h1]) fun w' H' => h w' H'
theorem e_retA {fn : Func} {R : Ending → World → Prop} {tt : Tmp} {rt : TypeId} {b i k : Nat} {l : List UInt8} {T : TypeId} (hres : fn.results = #[.cell tt rt]) (H : Hp w0 w S L) (hi : L[i]? = some (.blk b (l.map V8) T)) (hv : ev n σ (.tmp tt) = .pointer (some ⟨b, 0, none⟩)) (hr : rowTy P rt = some k) (hk : l.length = k)
    (hR : R (.returned (.agg (l.map V8).toArray)) w) : bodyPost P fn R .ret (mk n σ) w :=
  e_retc hres H hi hv hr (by rw [List.length_map, hk]) hR
theorem r_mvV {v : Value} (hx : ev n σ x = v) : (execOp (ev n σ) ⟨some d, .move x, ty, pos, aft, g⟩).run P w = .ok (.value v) w := by rw [← hx]; exact r_mv
theorem r_asV {v : Value} (hx : ev n σ x = v) : (execOp (ev n σ) ⟨some d, .assign x, ty, pos, aft, g⟩).run P w = .ok (.value v) w := by rw [← hx]; exact r_as
/-- the array at a slice's head. -/
theorem r_ldSA {s : Sl} {b o k : Nat} (hs : s.ok w) (ha : s.a = some ⟨b, o, none⟩) (hx : ev n σ x = .pointer s.a) (ht : rowTy P t = some k) (hk0 : 0 < k) (hk : k ≤ s.len) :
    (execOp (ev n σ) ⟨some d, .load t x, ty, pos, aft, g⟩).run P w = .ok (.value (.agg ((s.l.take k).map V8).toArray)) w := by
  rw [ha] at hx
  have := r_ldsr (P := P) (w := w) (t := t) (d := d) (ty := ty) (pos := pos) (aft := aft) (g := g) (i := 0) hs.rd ha hx ht hk0 (by simp only [List.length_map]; have := hs.ln; omega)
  rwa [List.drop_zero, ← List.map_take] at this
theorem r_ldSE {s : Sl} {b o k : Nat} (hs : s.ok w) (ha : s.a = some ⟨b, o, none⟩) (hx : ev n σ x = .pointer s.a) (ht : rowTy P t = some k) (hk0 : 0 < k) (hk : s.len = k) :
    (execOp (ev n σ) ⟨some d, .load t x, ty, pos, aft, g⟩).run P w = .ok (.value (.agg (s.l.map V8).toArray)) w := by
  have := r_ldSA (P := P) (w := w) (t := t) (d := d) (ty := ty) (pos := pos) (aft := aft) (g := g) hs ha hx ht hk0 (Nat.le_of_eq hk.symm)
  rwa [List.take_of_length_le (by have := hs.ln; omega)] at this
/-- an array or struct literal. -/
theorem r_bld' {parts : Array (Nat × Operand)} {zs : Array Value} {places : Nat → Option (Nat × Nat)} {pv : List (Nat × Value)} {cells : Array Value} (hB : Bld P t zs places)
    (hp0 : pvs n σ parts.toList = pv) (hf : Instr.fill places zs pv = some cells) :
    (execOp (ev n σ) ⟨some d, .build t parts, ty, pos, aft, g⟩).run P w = .ok (.value (.agg cells)) w := by
  have hp : (parts.map fun (i, x) => (i, ev n σ x)).toList = pv := by rw [← hp0, pvs_eq, Array.toList_map]
  have := run_build (P := P) w t (parts.map fun (i, x) => (i, ev n σ x)) cells (by rw [hp, hB.eq]; exact hf)
  simp only [execOp, Sem.run_bind, this]
  simp
/-- an array as a slice: its first h bytes, room for m. -/
theorem r_slA {lo hi mx : Option Operand} {b len sz h m : Nat} {lv hv mv : Option Value} (hx : ev n σ x = .pointer (some ⟨b, 0, none⟩)) (ht : arrOf P t = some (len, sz))
    (hl : lo.map (ev n σ) = lv) (hh : hi.map (ev n σ) = hv) (hm : mx.map (ev n σ) = mv) (hb : ∀ w, (Instr.sliceBounds false len len lv hv mv).run P w = .ok (0, h, m) w) :
    (execOp (ev n σ) ⟨some d, .slice t x lo hi mx, ty, pos, aft, g⟩).run P w = .ok (.value (.slice (some ⟨b, 0, none⟩) h m)) w := by
  have := r_sla (P := P) (w := w) (d := d) (ty := ty) (pos := pos) (aft := aft) (g := g) hx ht hl hh hm hb
  rwa [sa_zero, Nat.sub_zero, Nat.sub_zero] at this
/-- a slice of a slice, from its head on. -/
theorem r_slH {lo hi mx : Option Operand} {a : Option Addr} {len cap sz h m : Nat} {lv hv mv : Option Value} (hx : ev n σ x = .slice a len cap) (ht : eltOf P t = some sz)
    (hl : lo.map (ev n σ) = lv) (hh : hi.map (ev n σ) = hv) (hm : mx.map (ev n σ) = mv) (hb : ∀ w, (Instr.sliceBounds true len cap lv hv mv).run P w = .ok (0, h, m) w) :
    (execOp (ev n σ) ⟨some d, .slice t x lo hi mx, ty, pos, aft, g⟩).run P w = .ok (.value (.slice a h m)) w := by
  have := r_sl (P := P) (w := w) (d := d) (ty := ty) (pos := pos) (aft := aft) (g := g) hx ht hl hh hm hb
  rwa [sa_zero, Nat.sub_zero, Nat.sub_zero] at this
def Sl.cut (s : Sl) (l h m : Nat) : Sl := ⟨sa s.a l m 1, h - l, m - l, (s.l.drop l).take (h - l)⟩
theorem Sl.ok.cut {s : Sl} (hs : s.ok w) {l h m : Nat} (h1 : l ≤ h) (h2 : h ≤ s.len) (h3 : h ≤ m) (_h4 : m ≤ s.cap) : (s.cut l h m).ok w := by
  refine ⟨?_, ?_, by simp only [Sl.cut]; omega, by have := hs.mx; simp only [Sl.cut]; omega⟩
  · unfold Sl.cut
    simp only
    by_cases hml : m = l
    · have : (s.l.drop l).take (h - l) = [] := by rw [show h - l = 0 by omega, List.take_zero]
      rw [this]; exact .inl rfl
    · have e : sa s.a l m 1 = s.a.map (·.add (l * 1)) := by unfold sa; rw [if_neg hml]
      rw [e, Nat.mul_one, List.map_take, List.map_drop]
      exact (hs.rd.drop l).take _
  · have := hs.ln
    simp only [Sl.cut, List.length_take, List.length_drop]; omega
theorem r_slS {lo hi mx : Option Operand} {s : Sl} (l h m : Nat) {lv hv mv : Option Value} (hx : ev n σ x = s.v) (ht : eltOf P t = some 1)
    (hl : lo.map (ev n σ) = lv) (hh : hi.map (ev n σ) = hv) (hm : mx.map (ev n σ) = mv) (hb : ∀ w, (Instr.sliceBounds true s.len s.cap lv hv mv).run P w = .ok (l, h, m) w) :
    (execOp (ev n σ) ⟨some d, .slice t x lo hi mx, ty, pos, aft, g⟩).run P w = .ok (.value (s.cut l h m).v) w :=
  r_sl (P := P) (w := w) (d := d) (ty := ty) (pos := pos) (aft := aft) (g := g) hx ht hl hh hm hb
/-- bounds, by numbers. -/
theorem sbn {s : Bool} {len cap : Nat} (w : World) : (Instr.sliceBounds s len cap none none none).run P w = .ok (0, len, cap) w := sb_n w
theorem sbl {s : Bool} {len cap : Nat} {k : IntKind} {i : Int} (l : Nat) (e : i = (l : Int)) (h1 : l ≤ len) (w : World) : (Instr.sliceBounds s len cap (some (.int k i)) none none).run P w = .ok (l, len, cap) w := by
  subst e; exact sb_l oM oM w
theorem sbh {s : Bool} {len cap : Nat} {k : IntKind} {i : Int} (h : Nat) (e : i = (h : Int)) (h1 : h ≤ cap) (w : World) : (Instr.sliceBounds s len cap none (some (.int k i)) none).run P w = .ok (0, h, cap) w := by
  subst e; exact sb_h oM oM w
theorem sblh {s : Bool} {len cap : Nat} {k k' : IntKind} {i j : Int} (l h : Nat) (e : i = (l : Int)) (e' : j = (h : Int)) (h1 : l ≤ h) (h2 : h ≤ cap) (w : World) : (Instr.sliceBounds s len cap (some (.int k i)) (some (.int k' j)) none).run P w = .ok (l, h, cap) w := by
  subst e e'; exact sb_lh oM oM oM w
theorem Hp.slOwn (H : Hp w0 w S L) {i : Nat} {a : Option Nat} {len cap : Nat} {l : List UInt8} {T : TypeId} (hi : L[i]? = some (.own a len cap (l.map V8) T 1)) : (⟨hd a, len, cap, l⟩ : Sl).ok w := by
  have h := H.has _ (List.mem_of_getElem? hi)
  refine ⟨Ch.rd_own h, ?_, ?_, ?_⟩
  · cases a with
    | none => obtain ⟨h1, h2, h3⟩ := h; simp only [List.map_eq_nil_iff] at h3; rw [h3, h1]; rfl
    | some b => obtain ⟨h1, _⟩ := h; simpa using h1
  · cases a with
    | none => obtain ⟨h1, h2, h3⟩ := h; simp only; omega
    | some b => exact h.2.1
  · cases a with
    | none => obtain ⟨h1, h2, h3⟩ := h; simp only; omega
    | some b => have := h.2.1; have := h.2.2.1; simp only [maxLen] at *; omega
theorem Hp.ownLen (H : Hp w0 w S L) {i : Nat} {a : Option Nat} {len cap : Nat} {xs : List Value} {T : TypeId} {sz : Nat} (hi : L[i]? = some (.own a len cap xs T sz)) : xs.length = len * sz ∧ len ≤ cap ∧ cap ≤ maxLen := by
  have h := H.has _ (List.mem_of_getElem? hi)
  cases a with
  | none => obtain ⟨rfl, rfl, rfl⟩ := h; simp [maxLen]
  | some b => exact ⟨h.1, h.2.1, h.2.2.1⟩
theorem Hp.ownAddr (H : Hp w0 w S L) {i : Nat} {a : Option Nat} {len cap : Nat} {xs : List Value} {T : TypeId} {sz : Nat} (hi : L[i]? = some (.own a len cap xs T sz)) (h0 : 0 < len) : ∃ b, hd a = some ⟨b, 0, none⟩ := by
  have h := H.has _ (List.mem_of_getElem? hi)
  cases a with
  | none => obtain ⟨h1, _⟩ := h; omega
  | some b => exact ⟨b, rfl⟩
theorem Hp.slBlkA (H : Hp w0 w S L) {i b : Nat} {l : List UInt8} {T : TypeId} (hi : L[i]? = some (.blk b (l.map V8) T)) (len : Nat) (h1 : l.length = len) (h3 : len ≤ 9223372036854775807) : (⟨some ⟨b, 0, none⟩, len, len, l⟩ : Sl).ok w :=
  ⟨Ch.rd_all (H.has _ (List.mem_of_getElem? hi)), h1, Nat.le_refl _, h3⟩
theorem Hp.rot {c : Ch} (H : Hp w0 w S (L ++ [c])) : Hp w0 w S (c :: L) := H.perm (List.perm_append_singleton _ _)
theorem Hp.nilEnd (H : Hp w0 w S L) (T : TypeId) (sz : Nat) : Hp w0 w S (L ++ [.own none 0 0 [] T sz]) :=
  (H.nilOwn T sz).perm (List.perm_append_singleton _ _).symm
/-- 'make' of bytes. -/
theorem o_makeB {e : TypeId} {kx ky : IntKind} {li ci : Int} (l : Nat) (H : Hp w0 w S L) (hT : SlTy P t e 1 1) (hz : zeroCells P e = some [V8 0]) (hx : ev n σ x = .int kx li) (hy : ev n σ y = .int ky ci)
    (hl : li = (l : Int)) (hc : ci = (l : Int)) (hm : l ≤ 281474976710656)
    (h : ∀ b w', Hp w0 w' S (L ++ [.own (some b) l l ((List.replicate l (0 : UInt8)).map V8) e 1]) → w0.heap.size ≤ b → K (mk n (up σ d (.slice (hd (some b)) l l))) w') :
    Oper.wp P ⟨some d, .makeSlice t x y, ty, pos, aft, g⟩ (mk n σ) w K Q := by
  have hmx : l ≤ maxLen := Nat.le_trans hm (by decide)
  refine o_make (l := l) (c := l) H hT hz hx hy hl hc (Nat.le_refl _) oM hmx fun b w' H' hb => h b w' ?_ hb
  have := H'.toOwn (i := L.length) (len := l) (cap := l) (sz := 1) (b := b) (C := List.replicate l (V8 0)) (T := e) (by simp) (Nat.le_refl _) hmx (by simp)
  rw [List.set_append_right _ _ (Nat.le_refl _), Nat.sub_self] at this
  simpa using this
/-- .. with room only. -/
theorem o_makeB0 {e : TypeId} {kx ky : IntKind} {li ci : Int} (c : Nat) (H : Hp w0 w S L) (hT : SlTy P t e 1 1) (hz : zeroCells P e = some [V8 0]) (hx : ev n σ x = .int kx li) (hy : ev n σ y = .int ky ci)
    (hl : li = 0) (hc : ci = (c : Int)) (hm : c ≤ 281474976710656)
    (h : ∀ b w', Hp w0 w' S (L ++ [.own (some b) 0 c (([] : List UInt8).map V8) e 1]) → w0.heap.size ≤ b → K (mk n (up σ d (.slice (hd (some b)) 0 c))) w') :
    Oper.wp P ⟨some d, .makeSlice t x y, ty, pos, aft, g⟩ (mk n σ) w K Q := by
  have hmx : c ≤ maxLen := Nat.le_trans hm (by decide)
  refine o_make (l := 0) (c := c) H hT hz hx hy hl hc (Nat.zero_le _) oM hmx fun b w' H' hb => h b w' ?_ hb
  have := H'.toOwn (i := L.length) (len := 0) (cap := c) (sz := 1) (b := b) (C := List.replicate c (V8 0)) (T := e) (by simp) (Nat.zero_le _) hmx (by simp)
  rw [List.set_append_right _ _ (Nat.le_refl _), Nat.sub_self] at this
  simpa using this
/-- a literal of bytes. -/
theorem o_bslB {e : TypeId} {len : Nat} {parts : Array (Nat × Operand)} (l : List UInt8) (H : Hp w0 w S L) (hT : SlTy P t e 1 1) (hz : zeroCells P e = some [V8 0])
    (hp : pvs n σ parts.toList = en 0 (l.map V8)) (hlen : l.length = len) (hm : len ≤ 16777216)
    (h : ∀ b w', Hp w0 w' S (L ++ [.own (some b) len len (l.map V8) e 1]) → w0.heap.size ≤ b → K (mk n (up σ d (.slice (hd (some b)) len len))) w') :
    Oper.wp P ⟨some d, .buildSlice t len parts, ty, pos, aft, g⟩ (mk n σ) w K Q := by
  refine o_bsl H hT hz (by decide) hp oM (fills _ (l.map V8) len (by simp [Value.oneCell']) (by simpa using hlen)) fun b w' H' hb => h b w' ?_ hb
  have := H'.toOwn (i := L.length) (len := len) (cap := len) (sz := 1) (b := b) (C := l.map V8) (T := e) (by simp) (Nat.le_refl _) (Nat.le_trans hm (by decide)) (by simpa using hlen)
  rw [List.set_append_right _ _ (Nat.le_refl _), Nat.sub_self, List.take_of_length_le (by simp; omega)] at this
  simpa using this
/-- a literal of values of one cell. -/
theorem o_bslV {e : TypeId} {len bytes : Nat} {parts : Array (Nat × Operand)} {zv : Value} (vs : List Value) (H : Hp w0 w S L) (hT : SlTy P t e 1 bytes) (hz : zeroCells P e = some [zv])
    (hp : pvs n σ parts.toList = en 0 vs) (h1 : vs.all (·.oneCell') = true) (hlen : vs.length = len) (hm : len ≤ 16777216)
    (h : ∀ b w', Hp w0 w' S (L ++ [.own (some b) len len vs e 1]) → w0.heap.size ≤ b → K (mk n (up σ d (.slice (hd (some b)) len len))) w') :
    Oper.wp P ⟨some d, .buildSlice t len parts, ty, pos, aft, g⟩ (mk n σ) w K Q := by
  refine o_bsl H hT hz (by decide) hp oM (fills _ vs len (by simpa using h1) hlen) fun b w' H' hb => h b w' ?_ hb
  have := H'.toOwn (i := L.length) (len := len) (cap := len) (sz := 1) (b := b) (C := vs) (T := e) (by simp) (Nat.le_refl _) (Nat.le_trans hm (by decide)) (by simpa using hlen)
  rw [List.set_append_right _ _ (Nat.le_refl _), Nat.sub_self, List.take_of_length_le oM] at this
  simpa using this
/-- bytes behind bytes of one's own. -/
theorem o_appB {i : Nat} {a : Option Nat} {len cap len' : Nat} {l l' : List UInt8} {e e' : TypeId} {tx : TypeId} {s : Sl} (el : l ++ s.l = l') (en : len + s.len = len') (H : Hp w0 w S L) (hi : L[i]? = some (.own a len cap (l.map V8) e 1)) (hT : SlTy P t e 1 1) (hu : P.underlying tx = some (.slice e'))
    (hx : ev n σ x = .slice (hd a) len cap) (hy : ev n σ y = s.v) (hs : s.ok w) (hm : len' ≤ 140737488355328)
    (h : ∀ a' cap' w', Hp w0 w' S (L.set i (.own a' len' cap' (l'.map V8) e 1)) → K (mk n (up σ d (.slice (hd a') len' cap'))) w') :
    Oper.wp P ⟨some d, .call ⟨.builtin .append, #[x, y], #[t, tx]⟩, ty, pos, aft, g⟩ (mk n σ) w K Q := by
  subst el en
  refine o_app (m := s.len) (news := s.l.map V8) H hi hT hx hy (RdS.src hu hs.rd (by simp [hs.ln]) (by decide) (by simp [Value.oneCell'])) (by decide) oM oM fun a' cap' w' H' => h a' cap' w' ?_
  rw [List.map_append]; exact H'
/-- a byte stored into bytes of one's own. -/
theorem o_stB {b k i : Nat} {a : Option Nat} {len cap : Nat} {l : List UInt8} {T : TypeId} {u : UInt8} (H : Hp w0 w S L) (hi : L[i]? = some (.own a len cap (l.map V8) T 1)) (hx : ev n σ x = .pointer (some ⟨b, 0 + k * 1, none⟩)) (ha : hd a = some ⟨b, 0, none⟩)
    (hy : ev n σ y = V8 u) (hs : cellSz P t = some 1) (hk : k < len)
    (h : ∀ w', Hp w0 w' S (L.set i (.own a len cap ((l.set k u).map V8) T 1)) → K (mk n σ) w') : Oper.wp P ⟨none, .store t x y, ty, pos, aft, g⟩ (mk n σ) w K Q := by
  have hl := (H.ownLen hi).1
  refine o_sto H hi hx ha hy hs rfl oM fun w' H' => h w' ?_
  rw [← List.map_set, Nat.mul_one, Nat.zero_add] at H'
  exact H'
/-- .. into an array. -/
theorem o_stAB {b k i : Nat} {l : List UInt8} {T : TypeId} {u : UInt8} (H : Hp w0 w S L) (hi : L[i]? = some (.blk b (l.map V8) T)) (hx : ev n σ x = .pointer (some ⟨b, 0 + k * 1, none⟩))
    (hy : ev n σ y = V8 u) (hs : cellSz P t = some 1) (hk : k < l.length)
    (h : ∀ w', Hp w0 w' S (L.set i (.blk b ((l.set k u).map V8) T)) → K (mk n σ) w') : Oper.wp P ⟨none, .store t x y, ty, pos, aft, g⟩ (mk n σ) w K Q := by
  refine o_st H hi hx hy hs rfl (by simpa using hk) fun w' H' => h w' ?_
  rw [← List.map_set, Nat.mul_one, Nat.zero_add] at H'
  exact H'
/-- 'copy' onto bytes of one's own. -/
theorem o_copyB {i : Nat} {a : Option Nat} {len cap : Nat} {l : List UInt8} {T e e' : TypeId} {s : Sl} {tx : TypeId} (H : Hp w0 w S L) (hi : L[i]? = some (.own a len cap (l.map V8) T 1)) (hu : P.underlying t = some (.slice e)) (hu' : P.underlying tx = some (.slice e')) (hs : cellSz P e = some 1)
    (hx : ev n σ x = .slice (hd a) len cap) (hy : ev n σ y = s.v) (hsok : s.ok w) (hpos : 0 < len)
    (h : ∀ w', Hp w0 w' S (L.set i (.own a len cap ((s.l.take (min s.len len) ++ l.drop (min s.len len)).map V8) T 1)) → K (mk n (up σ d (VI ((min s.len len : Nat) : Int)))) w') :
    Oper.wp P ⟨some d, .call ⟨.builtin .copy, #[x, y], #[t, tx]⟩, ty, pos, aft, g⟩ (mk n σ) w K Q := by
  cases a with
  | none => have := H.has _ (List.mem_of_getElem? hi); obtain ⟨h1, _⟩ := this; omega
  | some b =>
    obtain ⟨q1, q2, q3, rest, hw, q5⟩ := H.has _ (List.mem_of_getElem? hi)
    have hlt : i < L.length := (List.getElem?_eq_some_iff.1 hi).1
    have Hb : Hp w0 w S (L.set i (.blk b (l.map V8 ++ rest) T)) := H.conv hi rfl fun _ => hw
    have hll : l.length = len := by simpa using q1
    refine o_copy (o := 0) (vs := s.l.map V8) Hb (i := i) (by rw [List.getElem?_set_self hlt]) hu hu' hs (by decide) hx hy hsok.rd (by simp [hsok.ln]) (by simp [Value.oneCell']) (by simp; omega) fun w' H' => h w' ?_
    have e1 : (l.map V8 ++ rest).take 0 ++ (s.l.map V8).take (min s.len len * 1) ++ (l.map V8 ++ rest).drop (0 + min s.len len * 1) = (s.l.take (min s.len len) ++ l.drop (min s.len len)).map V8 ++ rest := by
      rw [List.take_zero, List.nil_append, Nat.mul_one, Nat.zero_add, List.drop_append_of_le_length (by simp; omega)]
      simp
    rw [e1, List.set_set] at H'
    have hln := hsok.ln
    have := H'.conv (i := i) (c := .blk b ((s.l.take (min s.len len) ++ l.drop (min s.len len)).map V8 ++ rest) T) (c' := .own (some b) len cap ((s.l.take (min s.len len) ++ l.drop (min s.len len)).map V8) T 1) (by rw [List.getElem?_set_self hlt]) rfl (fun hok => ⟨by simp; omega, q2, q3, rest, hok, by simp only [List.length_append, List.length_map, List.length_take, List.length_drop] at *; omega⟩)
    rwa [List.set_set] at this
theorem Sl.ok_nil (w : World) : (⟨none, 0, 0, []⟩ : Sl).ok w := ⟨.inl rfl, rfl, Nat.le_refl _, by decide⟩
theorem Hp.toBlkB (H : Hp w0 w S L) {i b len : Nat} {l : List UInt8} {T : TypeId} (hi : L[i]? = some (.own (some b) len len (l.map V8) T 1)) : Hp w0 w S (L.set i (.blk b (l.map V8) T)) := by
  refine H.conv hi rfl fun hok => ?_
  obtain ⟨h1, h2, h3, rest, hw, h5⟩ := hok
  have : rest = [] := List.length_eq_zero_iff.1 (by simp only [List.length_append] at h5; omega)
  subst this
  rw [List.append_nil] at hw
  exact hw
theorem w_u64_N {a : Int} (k : Nat) (h : a = (k : Int)) : IntKind.u64.wrap a = ((UInt64.ofNat k).toNat : Int) := by
  subst h
  have := w_u64_i (a := (k : Int)) oM
  rwa [Int.toNat_natCast] at this
theorem w_u8_N {a : Int} (k : Nat) (h : a = (k : Int)) : IntKind.u8.wrap a = ((UInt8.ofNat k).toNat : Int) := by
  subst h
  have := w_u8_i (a := (k : Int)) oM
  rwa [Int.toNat_natCast] at this
theorem b_mul_u64N {t : TypeId} {a b : Nat} : (binOp .mul t (V64 (UInt64.ofNat a)) (V64 (UInt64.ofNat b))).run P w = .ok (V64 (UInt64.ofNat (a * b))) w := by
  rw [UInt64.ofNat_mul]; exact b_mul_u64
theorem sh_N (m : Nat) (h : m < 64) : (((UInt64.ofNat m).toNat : Nat) : Int).toNat = m := by
  rw [UInt64.toNat_ofNat']; omega
theorem b_shr_u64N {x : UInt64} (m : Nat) (h : m < 64) : (Op.shift .shr .u64 (x.toNat : Int) .u64 ((UInt64.ofNat m).toNat : Int)).run P w = .ok (V64 (x >>> UInt64.ofNat m)) w := by
  have := b_shr_u64 (P := P) (w := w) (x := x) (yk := .u64) (c := ((UInt64.ofNat m).toNat : Int)) oM (by rw [UInt64.toNat_ofNat']; omega)
  rwa [sh_N m h] at this
theorem b_shl_u64N {x : UInt64} (m : Nat) (h : m < 64) : (Op.shift .shl .u64 (x.toNat : Int) .u64 ((UInt64.ofNat m).toNat : Int)).run P w = .ok (V64 (x <<< UInt64.ofNat m)) w := by
  have := b_shl_u64 (P := P) (w := w) (x := x) (yk := .u64) (c := ((UInt64.ofNat m).toNat : Int)) oM (by rw [UInt64.toNat_ofNat']; omega)
  rwa [sh_N m h] at this
theorem ba_loop (b : ByteArray) : ∀ (k i : Nat) (r : List UInt8), b.size - i = k → ByteArray.toList.loop b i r = r.reverse ++ b.data.toList.drop i := by
  intro k
  induction k with
  | zero =>
    intro i r h
    have hd : b.data.toList.drop i = [] := List.drop_of_length_le (by have : b.data.toList.length = b.size := rfl; omega)
    rw [ByteArray.toList.loop, if_neg oM, hd, List.append_nil]
  | succ k ih =>
    intro i r h
    have hlt : i < b.size := by omega
    have hl : i < b.data.toList.length := hlt
    rw [ByteArray.toList.loop, if_pos hlt, ih (i + 1) _ oM, List.drop_eq_getElem_cons hl]
    have : b.get! i = b.data.toList[i] := by
      show b.data[i]! = _
      rw [getElem!_pos b.data i hlt]; rfl
    rw [this]; simp
theorem ba_toList (l : List UInt8) : (⟨l.toArray⟩ : ByteArray).toList = l := by
  rw [ByteArray.toList, ba_loop _ _ 0 [] rfl]; simp
theorem beq_dec (a b : List UInt8) : (a == b) = decide (a = b) := by
  rw [Bool.eq_iff_iff]; simp
theorem run_streq {a b : List UInt8} (w : World) : (Op.stringOp .eql ⟨a.toArray⟩ ⟨b.toArray⟩).run P w = .ok (.bool (decide (a = b))) w := by
  rw [b_seql, ba_toList, ba_toList, beq_dec]
theorem r_streq {a b : List UInt8} (hx : ev n σ x = .string ⟨a.toArray⟩) (hy : ev n σ y = .string ⟨b.toArray⟩) :
    (execOp (ev n σ) ⟨some d, .binOp .eql t x y yt, ty, pos, aft, g⟩).run P w = .ok (.value (.bool (decide (a = b)))) w :=
  r_str hx hy (fun w => run_streq w) (by decide)
theorem r_strne {a b : List UInt8} (hx : ev n σ x = .string ⟨a.toArray⟩) (hy : ev n σ y = .string ⟨b.toArray⟩) :
    (execOp (ev n σ) ⟨some d, .binOp .neq t x y yt, ty, pos, aft, g⟩).run P w = .ok (.value (.bool (!decide (a = b)))) w :=
  r_str hx hy (fun w => by rw [b_sneq, ba_toList, ba_toList, beq_dec]) (by decide)
theorem r_b2S {s : Sl} {e : TypeId} (hs : P.underlying t = some (.slice e)) (he : P.underlying e = some (.int .u8)) (hd : P.underlying yt = some .string) (hx : ev n σ x = s.v) (hok : s.ok w) :
    (execOp (ev n σ) ⟨some d, .convert t yt x, ty, pos, aft, g⟩).run P w = .ok (.value (.string ⟨s.l.toArray⟩)) w :=
  r_b2s hs he hd hx hok.rd hok.ln
/-- bytes of a text. -/
theorem o_s2B {e : TypeId} {l : List UInt8} (H : Hp w0 w S L) (hs : P.underlying t = some .string) (hd : P.underlying yt = some (.slice e)) (he : P.underlying e = some (.int .u8)) (hx : ev n σ x = .string ⟨l.toArray⟩) (hm : l.length ≤ 1099511627776)
    (h : ∀ b cap ob w', Hp w0 w' S (L ++ [.obj b ob]) → w0.heap.size ≤ b → (∀ w'' : World, Ch.ok w'' (.obj b ob) → (⟨some ⟨b, 0, none⟩, l.length, cap, l⟩ : Sl).ok w'') → K (mk n (up σ d (.slice (some ⟨b, 0, none⟩) l.length cap))) w') :
    Oper.wp P ⟨some d, .convert t yt x, ty, pos, aft, g⟩ (mk n σ) w K Q := by
  refine o_s2b H hs hd he hx fun b cap ob w' H' hb hr hc => h b cap ob w' H' hb fun w'' hw => ⟨hr w'' hw, rfl, ?_, ?_⟩
  · exact hc
  · simp only; omega
end
def resF (tmps : Array Value) : ResultVar → Sem Value
  | .tmp t => pure (tmps.getD t undef)
  | .cell a t => do loadVar t (← asAddr (tmps.getD a undef))
def resOk (P : Program) (n : Nat) (σ : Nat → Value) (w : World) : List ResultVar → List Value → Prop
  | [], [] => True
  | .tmp t :: rs, v :: vs => ev n σ (.tmp t) = v ∧ resOk P n σ w rs vs
  | .cell a t :: rs, v :: vs => (∃ b C T k, ev n σ (.tmp a) = .pointer (some ⟨b, 0, none⟩) ∧ w.heap[b]? = some (.cells (List.toArray C) T (0, 0)) ∧ ((rowTy P t = some k ∧ C.length = k ∧ v = .agg C.toArray) ∨ (cellTy P t = true ∧ C[0]? = some v))) ∧ resOk P n σ w rs vs
  | _, _ => False
theorem run_resF {P : Program} {n : Nat} {σ : Nat → Value} {w : World} : ∀ (rs : List ResultVar) (vs : List Value) (acc : Array Value), resOk P n σ w rs vs →
    (rs.foldlM (fun acc r => do let v ← resF (mk n σ).tmps r; pure (acc.push v)) acc : Sem (Array Value)).run P w = .ok (acc ++ vs.toArray) w
  | [], [], acc, _ => by simp
  | .tmp t :: rs, v :: vs, acc, h => by
    have h1 : (mk n σ).tmps.getD t undef = v := by rw [mk_tmp]; exact h.1
    have e : (resF (mk n σ).tmps (.tmp t)).run P w = .ok v w := by simp [resF, h1]
    rw [List.foldlM_cons, Sem.run_bind, Sem.run_bind, e]
    simp only [Result.andThen_ok, Sem.run_pure]
    rw [run_resF rs vs _ h.2]
    congr 1
    simp
  | .cell a t :: rs, v :: vs, acc, h => by
    obtain ⟨⟨b, C, T, k, h1, h2, h3⟩, h4⟩ := h
    have e1 : (mk n σ).tmps.getD a undef = .pointer (some ⟨b, 0, none⟩) := by rw [mk_tmp]; exact h1
    have e2 : (loadVar t ⟨b, 0, none⟩).run P w = .ok v w := by
      rcases h3 with ⟨hr, hk, rfl⟩ | ⟨hc, hv⟩
      · have := run_loadAt_row (P := P) (t := t) (k := k) (o := 0) h2 hr oM
        simp only [Instr.loadAt, Instr.sureAddr, Sem.run_bind, Sem.run_pure, Result.andThen_ok] at this
        rw [this, List.drop_zero, List.take_of_length_le oM]
      · have := run_loadAt_cell (P := P) (t := t) (a := ⟨b, 0, none⟩) (v := v) (w := w) hc (by simp [World.cell?, h2, hv])
        simpa only [Instr.loadAt, Instr.sureAddr, Sem.run_bind, Sem.run_pure, Result.andThen_ok] using this
    have e : (resF (mk n σ).tmps (.cell a t)).run P w = .ok v w := by simp [resF, e1, asAddr, e2]
    rw [List.foldlM_cons, Sem.run_bind, Sem.run_bind, e]
    simp only [Result.andThen_ok, Sem.run_pure]
    rw [run_resF rs vs _ h4]
    congr 1
    simp
theorem e_retN {P : Program} {n : Nat} {σ : Nat → Value} {w : World} {fn : Func} {R : Ending → World → Prop} (rs : List ResultVar) (vs : List Value) (hres : fn.results = rs.toArray) (h1 : (vs.length == 1) = false) (hv : resOk P n σ w rs vs)
    (hR : R (.returned (.tuple vs.toArray)) w) : bodyPost P fn R .ret (mk n σ) w := by
  refine ⟨mk_defers n σ, .tuple vs.toArray, ?_, hR⟩
  have h2 := run_resF (P := P) (w := w) rs vs #[] hv
  have h3 : (fn.results.mapM (resF (mk n σ).tmps)).run P w = .ok vs.toArray w := by
    rw [hres, Array.mapM_eq_foldlM, List.foldlM_toArray]
    simpa using h2
  have h4 : results fn (mk n σ).tmps = (do let vs ← fn.results.mapM (resF (mk n σ).tmps); pure (if h : vs.size = 1 then vs[0] else .tuple vs)) := by
    unfold results
    congr 1
  rw [h4, Sem.run_bind, h3]
  have : ¬ vs.length = 1 := by simpa using h1
  simp [this]
theorem Hp.resA {P : Program} {n : Nat} {σ : Nat → Value} {w0 w : World} {S : List Nat} {L : List Ch} (H : Hp w0 w S L) {a t b i k : Nat} {l : List UInt8} {T : TypeId} {rs : List ResultVar} {vs : List Value} (hi : L[i]? = some (.blk b (l.map V8) T)) (hv : ev n σ (.tmp a) = .pointer (some ⟨b, 0, none⟩)) (hr : rowTy P t = some k) (hk : l.length = k)
    (h : resOk P n σ w rs vs) : resOk P n σ w (.cell a t :: rs) (.agg (l.map V8).toArray :: vs) :=
  ⟨⟨b, l.map V8, T, k, hv, H.blk hi, .inl ⟨hr, by rw [List.length_map, hk], rfl⟩⟩, h⟩
theorem Hp.resR {P : Program} {n : Nat} {σ : Nat → Value} {w0 w : World} {S : List Nat} {L : List Ch} (H : Hp w0 w S L) {a t b i k : Nat} {C : List Value} {T : TypeId} {rs : List ResultVar} {vs : List Value} (hi : L[i]? = some (.blk b C T)) (hv : ev n σ (.tmp a) = .pointer (some ⟨b, 0, none⟩)) (hr : rowTy P t = some k) (hk : C.length = k)
    (h : resOk P n σ w rs vs) : resOk P n σ w (.cell a t :: rs) (.agg C.toArray :: vs) :=
  ⟨⟨b, C, T, k, hv, H.blk hi, .inl ⟨hr, hk, rfl⟩⟩, h⟩
theorem resT {P : Program} {n : Nat} {σ : Nat → Value} {w : World} {t : Nat} {v : Value} {rs : List ResultVar} {vs : List Value} (hv : ev n σ (.tmp t) = v) (h : resOk P n σ w rs vs) : resOk P n σ w (.tmp t :: rs) (v :: vs) := ⟨hv, h⟩
theorem resZ {P : Program} {n : Nat} {σ : Nat → Value} {w : World} : resOk P n σ w [] [] := trivial
section
variable {P : Program} {Q : Exit → Act → World → Prop} {n : Nat} {σ : Nat → Value} {w : World} {c : Code} {ι κ ξ ο π : Type}
theorem c_loop2 (pat : ι → κ → List (Nat × Value)) (A : ι → κ → World → Prop) (μ : ι → κ → Nat) (i : ι) (k : κ) (hp : fits σ (pat i k)) (hA : A i k w)
    (h : ∀ i k τ w, A i k w → c.wp P (Exit.then (Rnd n (fun x : ι × κ => pat x.1 x.2) (fun x => A x.1 x.2) (fun x => μ x.1 x.2) (μ i k)) Q) (mk n (ups τ (pat i k))) w) : (Code.loop c).wp P Q (mk n σ) w :=
  c_loop (fun x : ι × κ => pat x.1 x.2) (fun x => A x.1 x.2) (fun x => μ x.1 x.2) (i, k) hp hA fun x τ w hA => h x.1 x.2 τ w hA
theorem c_loop3 (pat : ι → κ → ξ → List (Nat × Value)) (A : ι → κ → ξ → World → Prop) (μ : ι → κ → ξ → Nat) (i : ι) (k : κ) (x : ξ) (hp : fits σ (pat i k x)) (hA : A i k x w)
    (h : ∀ i k x τ w, A i k x w → c.wp P (Exit.then (Rnd n (fun y : ι × κ × ξ => pat y.1 y.2.1 y.2.2) (fun y => A y.1 y.2.1 y.2.2) (fun y => μ y.1 y.2.1 y.2.2) (μ i k x)) Q) (mk n (ups τ (pat i k x))) w) : (Code.loop c).wp P Q (mk n σ) w :=
  c_loop (fun y : ι × κ × ξ => pat y.1 y.2.1 y.2.2) (fun y => A y.1 y.2.1 y.2.2) (fun y => μ y.1 y.2.1 y.2.2) (i, k, x) hp hA fun y τ w hA => h y.1 y.2.1 y.2.2 τ w hA
theorem c_loop4 (pat : ι → κ → ξ → ο → List (Nat × Value)) (A : ι → κ → ξ → ο → World → Prop) (μ : ι → κ → ξ → ο → Nat) (i : ι) (k : κ) (x : ξ) (o : ο) (hp : fits σ (pat i k x o)) (hA : A i k x o w)
    (h : ∀ i k x o τ w, A i k x o w → c.wp P (Exit.then (Rnd n (fun y : ι × κ × ξ × ο => pat y.1 y.2.1 y.2.2.1 y.2.2.2) (fun y => A y.1 y.2.1 y.2.2.1 y.2.2.2) (fun y => μ y.1 y.2.1 y.2.2.1 y.2.2.2) (μ i k x o)) Q) (mk n (ups τ (pat i k x o))) w) : (Code.loop c).wp P Q (mk n σ) w :=
  c_loop (fun y : ι × κ × ξ × ο => pat y.1 y.2.1 y.2.2.1 y.2.2.2) (fun y => A y.1 y.2.1 y.2.2.1 y.2.2.2) (fun y => μ y.1 y.2.1 y.2.2.1 y.2.2.2) (i, k, x, o) hp hA fun y τ w hA => h y.1 y.2.1 y.2.2.1 y.2.2.2 τ w hA
theorem c_loop5 (pat : ι → κ → ξ → ο → π → List (Nat × Value)) (A : ι → κ → ξ → ο → π → World → Prop) (μ : ι → κ → ξ → ο → π → Nat) (i : ι) (k : κ) (x : ξ) (o : ο) (p : π) (hp : fits σ (pat i k x o p)) (hA : A i k x o p w)
    (h : ∀ i k x o p τ w, A i k x o p w → c.wp P (Exit.then (Rnd n (fun y : ι × κ × ξ × ο × π => pat y.1 y.2.1 y.2.2.1 y.2.2.2.1 y.2.2.2.2) (fun y => A y.1 y.2.1 y.2.2.1 y.2.2.2.1 y.2.2.2.2) (fun y => μ y.1 y.2.1 y.2.2.1 y.2.2.2.1 y.2.2.2.2) (μ i k x o p)) Q) (mk n (ups τ (pat i k x o p))) w) : (Code.loop c).wp P Q (mk n σ) w :=
  c_loop (fun y : ι × κ × ξ × ο × π => pat y.1 y.2.1 y.2.2.1 y.2.2.2.1 y.2.2.2.2) (fun y => A y.1 y.2.1 y.2.2.1 y.2.2.2.1 y.2.2.2.2) (fun y => μ y.1 y.2.1 y.2.2.1 y.2.2.2.1 y.2.2.2.2) (i, k, x, o, p) hp hA fun y τ w hA => h y.1 y.2.1 y.2.2.1 y.2.2.2.1 y.2.2.2.2 τ w hA
end
end Go.Proofs.YtmiabahejnjhiaaGreatDoor
namespace Go.Proofs.YtmiabahejnjhiaaGreatDoor
open Go
section
variable {P : Program} {Q : Exit → Act → World → Prop} {n : Nat} {σ : Nat → Value} {w w0 : World} {K : Act → World → Prop}
  {ty : TypeId} {pos : String} {aft : Array Edge} {g : Option (Nat × Bool)} {d : Nat} {t yt : TypeId} {x y z : Operand} {S : List Nat} {L : List Ch}
theorem o_stT {b i o k : Nat} {pre : List Value} {l l' : List UInt8} {T : TypeId} (H : Hp w0 w S L) (hi : L[i]? = some (.blk b (pre ++ l.map V8) T)) (hx : ev n σ x = .pointer (some ⟨b, o, none⟩)) (hy : ev n σ y = .agg (l'.map V8).toArray)
    (hs : cellSz P t = some k) (ho : pre.length = o) (hk : l.length = k) (hk' : l'.length = k)
    (h : ∀ w', Hp w0 w' S (L.set i (.blk b (pre ++ l'.map V8) T)) → K (mk n σ) w') : Oper.wp P ⟨none, .store t x y, ty, pos, aft, g⟩ (mk n σ) w K Q := by
  refine o_sr H hi hx hy (by rw [hs, List.size_toArray, List.length_map, hk']) (by rw [List.all_toArray]; simp [Value.oneCell']) (by simp; omega) fun w' H' => h w' ?_
  have e : (pre ++ l.map V8).take o ++ (l'.map V8).toArray.toList ++ (pre ++ l.map V8).drop (o + (l'.map V8).toArray.size) = pre ++ l'.map V8 := by
    rw [← ho, List.take_left, List.drop_of_length_le (by simp; omega), List.append_nil]
  rwa [e] at H'
/-- a whole struct stored. -/
theorem o_stW {b i k : Nat} {C C' : List Value} {T : TypeId} (H : Hp w0 w S L) (hi : L[i]? = some (.blk b C T)) (hx : ev n σ x = .pointer (some ⟨b, 0, none⟩)) (hy : ev n σ y = .agg C'.toArray)
    (hs : cellSz P t = some k) (h1 : C'.all (·.oneCell') = true) (hk : C.length = k) (hk' : C'.length = k)
    (h : ∀ w', Hp w0 w' S (L.set i (.blk b C' T)) → K (mk n σ) w') : Oper.wp P ⟨none, .store t x y, ty, pos, aft, g⟩ (mk n σ) w K Q :=
  o_stw H hi hx hy (by rw [hs, List.size_toArray, hk']) (by rw [List.all_toArray]; exact h1) (by rw [List.size_toArray, hk, hk']) fun w' H' => h w' H'
/-- slices of structs: what stands there. -/
structure Gl (α : Type) where
  a : Option Addr
  len : Nat
  cap : Nat
  l : List α
def Gl.v {α : Type} (s : Gl α) : Value := .slice s.a s.len s.cap
structure Gl.ok {α : Type} (enc : α → List Value) (sz : Nat) (s : Gl α) (w : World) : Prop where
  rd : RdS w s.a (s.l.flatMap enc)
  ln : s.l.length = s.len
  le : s.len ≤ s.cap
  mx : s.cap ≤ maxLen
  sz : ∀ c ∈ s.l, (enc c).length = sz
theorem Gl.ok.up {α : Type} {enc : α → List Value} {sz : Nat} {s : Gl α} (hs : s.ok enc sz w0) (H : Hp w0 w [] L) : s.ok enc sz w := ⟨H.rd hs.rd (apart_nil _), hs.ln, hs.le, hs.mx, hs.sz⟩
theorem flat_len {α : Type} {enc : α → List Value} {sz : Nat} : ∀ {l : List α}, (∀ c ∈ l, (enc c).length = sz) → (l.flatMap enc).length = l.length * sz
  | [], _ => by simp
  | c :: l, h => by
    rw [List.flatMap_cons, List.length_append, h c (by simp), flat_len (l := l) (fun c hc => h c (by simp [hc])), List.length_cons, Nat.succ_mul, Nat.add_comm]
theorem flat_at {α : Type} {enc : α → List Value} {sz : Nat} {c : α} : ∀ {l : List α} {k : Nat}, (∀ c ∈ l, (enc c).length = sz) → l[k]? = some c → ((l.flatMap enc).drop (k * sz)).take sz = enc c
  | [], k, _, h => by simp at h
  | b :: l, 0, hs, h => by
    simp at h; subst h
    have := hs b (by simp)
    rw [Nat.zero_mul, List.drop_zero, List.flatMap_cons, ← this, List.take_left]
  | b :: l, k + 1, hs, h => by
    have hb := hs b (by simp)
    rw [Nat.succ_mul, Nat.add_comm, List.flatMap_cons, ← List.drop_drop, ← hb, List.drop_left, hb]
    exact flat_at (fun c hc => hs c (by simp [hc])) (by simpa using h)
theorem Gl.ok.addr {α : Type} {enc : α → List Value} {sz : Nat} {s : Gl α} (h : s.ok enc sz w) (hz : 0 < sz) (hp : 0 < s.len) : ∃ b o, s.a = some ⟨b, o, none⟩ :=
  h.rd.addr (by rw [flat_len h.sz, h.ln]; exact Nat.mul_pos hp hz)
theorem r_ldRow {α : Type} {enc : α → List Value} {sz : Nat} {s : Gl α} {b o k : Nat} {c : α} (hs : s.ok enc sz w) (ha : s.a = some ⟨b, o, none⟩) (hx : ev n σ x = .pointer (some ⟨b, o + k * sz, none⟩)) (ht : rowTy P t = some sz) (hz : 0 < sz) (hk : s.l[k]? = some c) :
    (execOp (ev n σ) ⟨some d, .load t x, ty, pos, aft, g⟩).run P w = .ok (.value (.agg (enc c).toArray)) w := by
  have hlt : k < s.l.length := (List.getElem?_eq_some_iff.1 hk).1
  have := r_ldsr (P := P) (w := w) (t := t) (d := d) (ty := ty) (pos := pos) (aft := aft) (g := g) hs.rd ha hx ht hz (by
    rw [flat_len hs.sz]
    have : (k + 1) * sz ≤ s.l.length * sz := Nat.mul_le_mul_right _ hlt
    rw [Nat.succ_mul] at this; exact this)
  rwa [flat_at hs.sz hk] at this
/-- a field of a struct of a slice. -/
theorem r_ldFld {α : Type} {enc : α → List Value} {sz off : Nat} {s : Gl α} {b o k : Nat} {c : α} {v : Value} (hs : s.ok enc sz w) (ha : s.a = some ⟨b, o, none⟩) (hx : ev n σ x = .pointer (some ⟨b, o + k * sz + off, none⟩)) (ht : cellTy P t = true) (hk : s.l[k]? = some c) (hoff : off < sz) (hv : (enc c)[off]? = some v) :
    (execOp (ev n σ) ⟨some d, .load t x, ty, pos, aft, g⟩).run P w = .ok (.value v) w := by
  refine r_lds (i := k * sz + off) hs.rd ha (by rw [hx, Nat.add_assoc]) ht ?_
  have h := flat_at hs.sz hk
  rw [← h, List.getElem?_take_of_lt hoff, List.getElem?_drop] at hv
  exact hv
theorem Hp.glOwn {α : Type} {enc : α → List Value} (H : Hp w0 w S L) {i : Nat} {a : Option Nat} {len cap sz : Nat} {l : List α} {T : TypeId} (hi : L[i]? = some (.own a len cap (l.flatMap enc) T sz)) (hz : 0 < sz) (hs : ∀ c ∈ l, (enc c).length = sz) : (⟨hd a, len, cap, l⟩ : Gl α).ok enc sz w := by
  have h := H.ownLen hi
  refine ⟨H.own hi, ?_, h.2.1, h.2.2, hs⟩
  have h1 := h.1
  rw [flat_len hs] at h1
  exact Nat.eq_of_mul_eq_mul_right hz h1
/-- structs behind structs of one's own. -/
theorem o_appG {α : Type} {enc : α → List Value} {i : Nat} {a : Option Nat} {len cap len' sz bytes : Nat} {l l' : List α} {e e' : TypeId} {tx : TypeId} {s : Gl α} (el : l ++ s.l = l') (en : len + s.len = len') (H : Hp w0 w S L) (hi : L[i]? = some (.own a len cap (l.flatMap enc) e sz)) (hT : SlTy P t e sz bytes) (hu : P.underlying tx = some (.slice e'))
    (hx : ev n σ x = .slice (hd a) len cap) (hy : ev n σ y = s.v) (hs : s.ok enc sz w) (hz : 0 < sz) (h1 : ∀ c ∈ s.l, (enc c).all (·.oneCell') = true) (hm : len' ≤ 68719476736) (hb : bytes ≤ 2048)
    (h : ∀ a' cap' w', Hp w0 w' S (L.set i (.own a' len' cap' (l'.flatMap enc) e sz)) → K (mk n (up σ d (.slice (hd a') len' cap'))) w') :
    Oper.wp P ⟨some d, .call ⟨.builtin .append, #[x, y], #[t, tx]⟩, ty, pos, aft, g⟩ (mk n σ) w K Q := by
  subst el en
  have h1' : ∀ u ∈ s.l.flatMap enc, u.oneCell' = true := by
    intro u hu
    obtain ⟨c, hc, huc⟩ := List.mem_flatMap.1 hu
    exact List.all_eq_true.1 (h1 c hc) u huc
  refine o_app (m := s.len) (news := s.l.flatMap enc) H hi hT hx hy (RdS.src hu hs.rd (by rw [flat_len hs.sz, hs.ln]) hz h1') hz oM (Nat.le_trans (Nat.mul_le_mul hm hb) (by decide)) fun a' cap' w' H' => h a' cap' w' ?_
  rw [List.flatMap_append]; exact H'
theorem fill_row (sz : Nat) (zs vs : List Value) (h1 : zs.length = sz) (h2 : vs.length = sz) : Instr.fill (fun i => some (i * sz, sz)) zs.toArray [(0, .agg vs.toArray)] = some vs.toArray := by
  have h : ∀ (vs done zs : List Value), zs.length = vs.length → (vs.zipIdx done.length).foldl (fun (acc : Array Value) (p : Value × Nat) => acc.setIfInBounds p.2 p.1) (done ++ zs).toArray = (done ++ vs).toArray := by
    intro vs
    induction vs with
    | nil => intro done zs hz; have : zs = [] := List.length_eq_zero_iff.1 (by simpa using hz); subst this; simp
    | cons v vs ih =>
      intro done zs hz
      cases zs with
      | nil => simp at hz
      | cons z zs =>
        have := ih (done ++ [v]) zs (by simpa using hz)
        simp only [List.length_append, List.length_singleton, List.append_assoc, List.singleton_append] at this
        rw [← this, List.zipIdx_cons, List.foldl_cons]
        congr 1
        simp []
  have := h vs [] zs oM
  simp only [Instr.fill, Value.cells, Nat.zero_mul]
  rw [if_neg (by simp [h1, h2])]
  simpa [Nat.zero_add] using this
/-- a literal of one struct, or of none. -/
theorem o_bslG1 {α : Type} {enc : α → List Value} {e : TypeId} {sz bytes : Nat} {parts : Array (Nat × Operand)} {zs : List Value} (c : α) (H : Hp w0 w S L) (hT : SlTy P t e sz bytes) (hz : zeroCells P e = some zs) (_hzs : zs.length = sz) (h0 : 0 < sz) (hsm : sz ≤ 16777216)
    (hp : pvs n σ parts.toList = [(0, .agg (enc c).toArray)]) (hc : (enc c).length = sz)
    (h : ∀ b w', Hp w0 w' S (L ++ [.own (some b) 1 1 ([c].flatMap enc) e sz]) → w0.heap.size ≤ b → K (mk n (up σ d (.slice (hd (some b)) 1 1))) w') :
    Oper.wp P ⟨some d, .buildSlice t 1 parts, ty, pos, aft, g⟩ (mk n σ) w K Q := by
  refine o_bsl (cells := (enc c).toArray) H hT hz h0 hp oM ?_ fun b w' H' hb => h b w' ?_ hb
  · have hzl : ((Array.range (1 * sz)).map (zs.toArray[· % zs.toArray.size]!)).toList.length = sz := by simp
    have := fill_row sz ((Array.range (1 * sz)).map (zs.toArray[· % zs.toArray.size]!)).toList (enc c) hzl hc
    rwa [Array.toArray_toList] at this
  · have := H'.toOwn (i := L.length) (len := 1) (cap := 1) (sz := sz) (b := b) (C := enc c) (T := e) (by simp) (Nat.le_refl _) (by decide) oM
    rw [List.set_append_right _ _ (Nat.le_refl _), Nat.sub_self, List.take_of_length_le oM] at this
    simpa using this
theorem o_bslG0 {α : Type} {enc : α → List Value} {e : TypeId} {sz bytes : Nat} {zs : List Value} (H : Hp w0 w S L) (hT : SlTy P t e sz bytes) (hz : zeroCells P e = some zs) (h0 : 0 < sz)
    (h : ∀ b w', Hp w0 w' S (L ++ [.own (some b) 0 0 (([] : List α).flatMap enc) e sz]) → w0.heap.size ≤ b → K (mk n (up σ d (.slice (hd (some b)) 0 0))) w') :
    Oper.wp P ⟨some d, .buildSlice t 0 #[], ty, pos, aft, g⟩ (mk n σ) w K Q := by
  refine o_bsl (pv := []) (cells := #[]) H hT hz h0 rfl oM ?_ fun b w' H' hb => h b w' ?_ hb
  · simp [Instr.fill]
  · have := H'.toOwn (i := L.length) (len := 0) (cap := 0) (sz := sz) (b := b) (C := []) (T := e) (by simp) (Nat.le_refl _) (by decide) (by simp)
    rw [List.set_append_right _ _ (Nat.le_refl _), Nat.sub_self] at this
    simpa using this
/-- an array within a struct as a slice. -/
theorem r_slAo {lo hi mx : Option Operand} {b o len sz h m : Nat} {lv hv mv : Option Value} (hx : ev n σ x = .pointer (some ⟨b, o, none⟩)) (ht : arrOf P t = some (len, sz))
    (hl : lo.map (ev n σ) = lv) (hh : hi.map (ev n σ) = hv) (hm : mx.map (ev n σ) = mv) (hb : ∀ w, (Instr.sliceBounds false len len lv hv mv).run P w = .ok (0, h, m) w) :
    (execOp (ev n σ) ⟨some d, .slice t x lo hi mx, ty, pos, aft, g⟩).run P w = .ok (.value (.slice (some ⟨b, o, none⟩) h m)) w := by
  have := r_sla (P := P) (w := w) (d := d) (ty := ty) (pos := pos) (aft := aft) (g := g) hx ht hl hh hm hb
  rwa [sa_zero, Nat.sub_zero, Nat.sub_zero] at this
theorem Hp.slTail (H : Hp w0 w S L) {i b o k : Nat} {pre : List Value} {l : List UInt8} {T : TypeId} (hi : L[i]? = some (.blk b (pre ++ l.map V8) T)) (ho : pre.length = o) (hk : l.length = k) (hm : k ≤ 9223372036854775807) : (⟨some ⟨b, o, none⟩, k, k, l⟩ : Sl).ok w := by
  have h := Ch.rd_blk (H.has _ (List.mem_of_getElem? hi)) o
  rw [← ho, List.drop_left] at h
  rw [← ho]
  exact ⟨h, hk, Nat.le_refl _, hm⟩
theorem w_u64_I (a : Int) : IntKind.u64.wrap a = ((UInt64.ofInt a).toNat : Int) := by
  rw [wrap_u64]
  simp only [UInt64.ofInt, UInt64.toNat_ofNat']
  omega
theorem b_shr_i64 {yk : IntKind} {a c : Int} (h0 : 0 ≤ c) (h1 : c < 64) : (Op.shift .shr .i64 a yk c).run P w = .ok (VI (a / 2 ^ c.toNat)) w := by
  obtain ⟨m, rfl⟩ := Int.eq_ofNat_of_zero_le h0
  have hm : m < 64 := by omega
  have e3 : a.fdiv (2 ^ m) = a / 2 ^ m := by
    rw [Int.fdiv_eq_ediv_of_nonneg]; exact Int.le_of_lt (Int.pow_pos oM)
  have e2 : Op.shift .shr .i64 a yk (m : Int) = Sem.pure (.int .i64 (a.fdiv (2 ^ (min (m : Int).toNat 64)))) := by
    unfold Op.shift
    rw [if_neg oM]; rfl
  rw [e2, Int.toNat_natCast, Nat.min_eq_left (Nat.le_of_lt hm), e3]; rfl
/-- a byte of a text. -/
theorem r_idxS {kk : IntKind} {i : Int} {l : List UInt8} (k : Nat) (hu : P.underlying t = some .string) (hx : ev n σ x = .string ⟨l.toArray⟩) (hy : ev n σ y = .int kk i) (hi : i = (k : Int)) (hk : k < l.length) :
    (execOp (ev n σ) ⟨some d, .index t x y, ty, pos, aft, g⟩).run P w = .ok (.value (V8 (l.getD k 0))) w := by
  subst hi
  exact r_idxs hu hx hy oM (by simp [List.getD_eq_getElem?_getD, hk])
end
end Go.Proofs.YtmiabahejnjhiaaGreatDoor
namespace Go.Proofs.YtmiabahejnjhiaaGreatDoor
open Go
section
variable {P : Program} {Q : Exit → Act → World → Prop} {n : Nat} {σ : Nat → Value} {w : World} {ty : TypeId} {pos : String} {aft : Array Edge} {d : Nat} {Qs : Act → Prop}
theorem yielded_non (ops : Array Oper) (j d : Nat) (h : (ops[j]?).bind (·.dst) = some d) (hd : Nat.blt d n = true) (hv : σ d = undef) :
    yielded ops (mk n σ).tmps j = none := by
  have hd' : d < n := by rw [Nat.blt_eq] at hd; exact hd
  unfold yielded
  simp [h, mk, hd', hv, undef]
theorem l_non {ops : Array Oper} {rest : List Oper} {op : Op} {j e : Nat} {b : Bool}
    (he : (ops[j]?).bind (·.dst) = some e) (hb : Nat.blt e n = true) (hv : σ e = undef)
    (h : wpList P ops Q rest (mk n (up σ d undef)) w) : wpList P ops Q (⟨some d, op, ty, pos, aft, some (j, b)⟩ :: rest) (mk n σ) w := by
  have hw := yielded_non ops j e he hb hv
  unfold wpList
  rw [if_neg (by simp [Region.wanted, hw]), mk_put]
  exact h
end
end Go.Proofs.YtmiabahejnjhiaaGreatDoor
namespace Go.Proofs.YtmiabahejnjhiaaGreatDoor
open Go
section
variable {P : Program} {Q : Exit → Act → World → Prop} {n : Nat} {σ : Nat → Value} {w w0 : World} {K : Act → World → Prop}
  {ty : TypeId} {pos : String} {aft : Array Edge} {g : Option (Nat × Bool)} {d : Nat} {t yt : TypeId} {x y : Operand} {S : List Nat} {L : List Ch}
theorem part_cell {e : TypeId} (he : cellTy P e = true) {xs : Array Value} {off : Nat} {v : Value} (hx : xs[off]? = some v) : (part e xs off).run P w = .ok v w := by simp [part, run_isAgg_cell he, hx]
theorem eqI_u8s {t e : TypeId} {m : Nat} (hu : P.underlying t = some (.array m e)) (he : P.underlying e = some (.int .u8)) (hc : cellSz P e = some 1) (dd : Nat) (a b : List UInt8) (ha : a.length = m) (hb : b.length = m) :
    (Op.equalIn (dd + 2) t (.agg (a.map V8).toArray) (.agg (b.map V8).toArray)).run P w = .ok (decide (a = b)) w := by
  cases hi : P.info? e with
  | none => simp [cellSz, hi] at hc
  | some i =>
    have hco : P.cellsOf e = 1 := by simpa [cellSz, hi, Program.cellsOf] using hc
    rw [run_equalIn_array w (dd + 1) _ _ hu hi, hco, eqItems_u8 he dd a b oM w _ (by simp [ha])]
    congr 1
    rw [Bool.eq_iff_iff]
    simp only [List.all_eq_true, List.mem_range, beq_iff_eq, decide_eq_true_eq]
    constructor
    · intro h
      apply List.ext_getElem?
      intro j
      by_cases hj : j < m
      · exact h j hj
      · rw [List.getElem?_eq_none oM, List.getElem?_eq_none oM]
    · rintro rfl j _; rfl
theorem b_xor_i64 {a b : Int} {t : TypeId} : (binOp .xor t (VI a) (VI b)).run P w = .ok (VI (IntKind.i64.wrap (((BitVec.ofInt 64 a ^^^ BitVec.ofInt 64 b).toNat : Nat) : Int))) w := by
  rfl
/-- bytes of a text behind bytes of one's own. -/
theorem o_appS {i : Nat} {a : Option Nat} {len cap len' : Nat} {l l' u : List UInt8} {e : TypeId} {tx : TypeId} (el : l ++ u = l') (en : len + u.length = len') (H : Hp w0 w S L) (hi : L[i]? = some (.own a len cap (l.map V8) e 1)) (hT : SlTy P t e 1 1) (hu : P.underlying tx = some .string)
    (hx : ev n σ x = .slice (hd a) len cap) (hy : ev n σ y = .string ⟨u.toArray⟩) (hm : len' ≤ 68719476736)
    (h : ∀ a' cap' w', Hp w0 w' S (L.set i (.own a' len' cap' (l'.map V8) e 1)) → K (mk n (up σ d (.slice (hd a') len' cap'))) w') :
    Oper.wp P ⟨some d, .call ⟨.builtin .append, #[x, y], #[t, tx]⟩, ty, pos, aft, g⟩ (mk n σ) w K Q := by
  subst el en
  have hsrc := Src.ofString (P := P) w hu ⟨u.toArray⟩
  have eb : byteCells ⟨u.toArray⟩ = u.map V8 := by simp [byteCells]
  have es : (⟨u.toArray⟩ : ByteArray).size = u.length := rfl
  rw [eb, es] at hsrc
  refine o_app H hi hT hx hy hsrc (by decide) oM oM fun a' cap' w' H' => h a' cap' w' ?_
  rw [List.map_append]; exact H'
theorem all_tail {pre : List Value} {l : List UInt8} (h : pre.all (·.oneCell') = true) : (pre ++ l.map V8).all (·.oneCell') = true := by
  rw [List.all_append, h, Bool.true_and, List.all_eq_true]
  intro x hx
  obtain ⟨u, _, rfl⟩ := List.mem_map.1 hx
  rfl
end
end Go.Proofs.YtmiabahejnjhiaaGreatDoor
namespace Go.Proofs.YtmiabahejnjhiaaGreatDoor
open Go
section
variable {P : Program} {Q : Exit → Act → World → Prop} {n : Nat} {σ : Nat → Value} {w : World} {ty : TypeId} {pos : String} {aft : Array Edge} {d : Nat}
variable {ops : Array Oper} {S' : World → Prop} {fuel : Nat} {listed : Array Bool} {oo : Op}
theorem t_non (i : Nat) {j e : Nat} {b : Bool} (hi : ops[i]? = some ⟨some d, oo, ty, pos, aft, some (j, b)⟩) (hs : Region.noSelect ops = true) (hf : Region.free .any ops listed i = true) (hr : (Region.ready .any ops listed).contains i = true)
    (hQ : ∀ c a w, Q (.panic c) (a.put (some d) undef) w → Q (.panic c) a w) (he : (ops[j]?).bind (·.dst) = some e) (hb : Nat.blt e n = true) (hv : σ e = undef) (hS : S' w)
    (h : wpAnyH P .any ops Q S' fuel (listed.setIfInBounds i true) (mk n (up σ d undef)) w) : wpAnyH P .any ops Q S' (fuel + 1) listed (mk n σ) w :=
  wpAnyH_take (v := undef) hi hs hf hr hQ (.inr ⟨by simp [Region.wanted, yielded_non ops j e he hb hv], rfl⟩) hS (by show wpAnyH P .any ops Q S' fuel _ ((mk n σ).put (some d) undef) w; rw [mk_put]; exact h)
end
end Go.Proofs.YtmiabahejnjhiaaGreatDoor
namespace Go.Proofs.YtmiabahejnjhiaaGreatDoor
open Go
section
variable {P : Program} {Q : Exit → Act → World → Prop} {n : Nat} {σ : Nat → Value} {w w0 : World} {K : Act → World → Prop}
  {ty : TypeId} {pos : String} {aft : Array Edge} {g : Option (Nat × Bool)} {d : Nat} {t yt : TypeId} {x y : Operand} {S : List Nat} {L : List Ch}
theorem fill_pre {places : Nat → Option (Nat × Nat)} {rest : List (Nat × Value)} : ∀ (pre A B : List Value), (∀ v ∈ pre, v.oneCell' = true) → pre.length ≤ B.length → (∀ i, A.length ≤ i → i < A.length + pre.length → places i = some (i, 1)) →
    Instr.fill places (A ++ B).toArray (en A.length pre ++ rest) = Instr.fill places (A ++ pre ++ B.drop pre.length).toArray rest
  | [], A, B, _, _, _ => by simp [en]
  | v :: pre, A, [], _, hl, _ => by simp at hl
  | v :: pre, A, b :: B, h1, hl, hp => by
    have hv := h1 v (by simp)
    have hc : v.cells = #[v] := by cases v <;> simp_all [Value.cells, Value.oneCell']
    have ih := fill_pre (rest := rest) pre (A ++ [v]) B (fun u hu => h1 u (by simp [hu])) (by simpa using hl) (fun i hi1 hi2 => hp i (by simp at hi1; omega) (by simp at hi2 ⊢; omega))
    simp only [List.length_append, List.length_singleton, List.append_assoc, List.singleton_append] at ih
    have hpl := hp A.length (Nat.le_refl _) (by simp)
    rw [en, List.cons_append, Instr.fill]
    simp only [hpl, hc]
    rw [if_neg (by simp)]
    have e : (#[v] : Array Value).zipIdx = #[(v, 0)] := by simp [Array.zipIdx]
    have e2 : (#[v] : Array Value).zipIdx.foldl (fun cs (p : Value × Nat) => cs.setIfInBounds (A.length + p.2) p.1) (A ++ b :: B).toArray = (A ++ v :: B).toArray := by
      rw [e]; simp []
    rw [e2, ih]
    simp
theorem fill_tail {places : Nat → Option (Nat × Nat)} {k m : Nat} (A B vs : List Value) (hp : places k = some (k, m)) (hA : A.length = k) (hB : B.length = m) (hv : vs.length = m) : Instr.fill places (A ++ B).toArray [(k, .agg vs.toArray)] = some (A ++ vs).toArray := by
  have h : ∀ (vs done zs : List Value), zs.length = vs.length → (vs.zipIdx done.length).foldl (fun (acc : Array Value) (p : Value × Nat) => acc.setIfInBounds (A.length + p.2) p.1) (A ++ done ++ zs).toArray = (A ++ done ++ vs).toArray := by
    intro vs
    induction vs with
    | nil => intro done zs hz; have : zs = [] := List.length_eq_zero_iff.1 (by simpa using hz); subst this; simp
    | cons v vs ih =>
      intro done zs hz
      cases zs with
      | nil => simp at hz
      | cons z zs =>
        have := ih (done ++ [v]) zs (by simpa using hz)
        simp only [List.length_append, List.length_singleton, List.append_assoc, List.singleton_append] at this
        rw [List.zipIdx_cons, List.foldl_cons]
        simp only [List.append_assoc]
        rw [← this]
        congr 1
        simp []
  have h2 := h vs [] B oM
  have hn : ¬ (((Value.agg vs.toArray).cells.size ≠ m || k + (Value.agg vs.toArray).cells.size > (A ++ B).toArray.size) = true) := by simp [Value.cells, hA, hB, hv]
  simp only [Instr.fill, hp]
  rw [if_neg hn]
  simp only [List.append_nil, List.length_nil] at h2
  congr 1
  rw [← hA]
  simpa [Value.cells] using h2
/-- a struct literal, its last part an array of bytes. -/
theorem r_bldT {parts : Array (Nat × Operand)} {zs : Array Value} {places : Nat → Option (Nat × Nat)} {pv : List (Nat × Value)} {pre Z : List Value} {l : List UInt8} {m : Nat} (hB : Bld P t zs places)
    (hz : zs = (Z ++ List.replicate m (V8 0)).toArray) (hp0 : pvs n σ parts.toList = pv) (hpv : pv = en 0 pre ++ [(pre.length, .agg (l.map V8).toArray)]) (hlen : pre.length = Z.length) (h1 : pre.all (·.oneCell') = true)
    (hpl : (List.range pre.length).all (fun i => places i == some (i, 1)) = true) (hpt : places pre.length = some (pre.length, m)) (hl : l.length = m) :
    (execOp (ev n σ) ⟨some d, .build t parts, ty, pos, aft, g⟩).run P w = .ok (.value (.agg (pre ++ l.map V8).toArray)) w := by
  refine r_bld' hB hp0 ?_
  subst hz hpv
  have h := fill_pre (places := places) (rest := [(pre.length, .agg (l.map V8).toArray)]) pre [] (Z ++ List.replicate m (V8 0)) (fun v hv => List.all_eq_true.1 h1 v hv) (by simp [hlen]) (fun i _ hi => by
    have := List.all_eq_true.1 hpl i (by simpa using hi)
    simpa using this)
  simp only [List.nil_append, List.length_nil] at h
  rw [h]
  rw [List.drop_append_of_le_length oM, List.drop_of_length_le oM, List.nil_append]
  exact fill_tail pre _ _ hpt rfl (by simp) (by simpa using hl)
/-- bytes behind a slice that has no room for them: a new one. -/
theorem o_appX {s u : Sl} {e e' : TypeId} {tx : TypeId} {l' : List UInt8} {len' : Nat} (el : s.l ++ u.l = l') (en : s.len + u.len = len') (H : Hp w0 w S L) (hs : s.ok w) (hu : u.ok w) (hfull : s.cap < s.len + u.len) (hT : SlTy P t e 1 1) (htx : P.underlying tx = some (.slice e'))
    (hx : ev n σ x = s.v) (hy : ev n σ y = u.v) (hm : len' ≤ 68719476736)
    (h : ∀ a' cap' w', Hp w0 w' S (L ++ [.own a' len' cap' (l'.map V8) e 1]) → K (mk n (up σ d (.slice (hd a') len' cap'))) w') :
    Oper.wp P ⟨some d, .call ⟨.builtin .append, #[x, y], #[t, tx]⟩, ty, pos, aft, g⟩ (mk n σ) w K Q := by
  subst el en
  obtain ⟨inf, zv, hinf, hzv, hsize, hby, hzs⟩ := hT.row
  have h1 : ∀ (l : List UInt8), ∀ v ∈ l.map V8, v.oneCell' = true := by
    intro l v hv
    obtain ⟨b, _, rfl⟩ := List.mem_map.1 hv
    rfl
  have hsrc : Src P 1 tx u.v u.len (u.l.map V8) w := RdS.src htx hu.rd (by simp [hu.ln]) (by decide) (h1 _)
  have hsrs : Src P 1 tx s.v s.len (s.l.map V8) w := RdS.src htx hs.rd (by simp [hs.ln]) (by decide) (h1 _)
  have hrow := run_append_grow_src (P := P) w t tx ty e inf zv hT.und hinf hzv s.a s.len s.cap (s.l.map V8) (by rw [hsize]; exact hsrs.cellsD) u.v u.len (u.l.map V8) (by rw [hsize]; exact hsrc) hfull oM
    (by rw [hby]; exact slicecap_le oM hfull)
  have hgc := grownCap_ge w (s.len + u.len) s.cap e
  have hgm := grownCap_le_maxLen w (s.len + u.len) s.cap e (by simp [maxLen]; omega)
  generalize hcc : grownCap w (s.len + u.len) s.cap e = cc at *
  have hargs : (#[x, y] : Array Operand).map (ev n σ) = #[s.v, u.v] := by simp [hx, hy]
  refine o_val (run_builtin (s := Builtin.append_ #[t, tx] ty #[s.v, u.v]) (vs := #[s.v, u.v]) hargs (fun _ => rfl) hrow) (h (some w.heap.size) cc _ ?_); have hsl := hs.ln
  have hul := hu.ln
  refine H.drew.new _ _ rfl ⟨by simp [hsl, hul], hgc, hgm, (Builtin.zeroCells zv.cells (cc - (s.len + u.len))).toList, ?_, ?_⟩
  · have := heap_alloc_new' w.drew (.cells ((s.l.map V8 ++ u.l.map V8).toArray ++ Builtin.zeroCells zv.cells (cc - (s.len + u.len))) e)
    simp only [World.size_drew] at this
    rw [this]
    congr 2
    apply Array.ext'
    simp
  · simp only [List.length_append, List.length_map, Array.length_toList, size_zeroCells, hzs, hsl, hul]
    omega
end
end Go.Proofs.YtmiabahejnjhiaaGreatDoor
namespace Go.Proofs.YtmiabahejnjhiaaGreatDoor
open Go
section
variable {P : Program} {n : Nat} {σ : Nat → Value} {w : World}
  {ty : TypeId} {pos : String} {aft : Array Edge} {g : Option (Nat × Bool)} {d : Nat} {t : TypeId} {x : Operand}
/-- a piece of a slice of structs. -/
def Gl.cut {α : Type} (s : Gl α) (sz l h m : Nat) : Gl α := ⟨sa s.a l m sz, h - l, m - l, (s.l.drop l).take (h - l)⟩
theorem r_slG {α : Type} {sz : Nat} {lo hi mx : Option Operand} {s : Gl α} (l h m : Nat) {lv hv mv : Option Value} (hx : ev n σ x = s.v) (ht : eltOf P t = some sz)
    (hl : lo.map (ev n σ) = lv) (hh : hi.map (ev n σ) = hv) (hm : mx.map (ev n σ) = mv) (hb : ∀ w, (Instr.sliceBounds true s.len s.cap lv hv mv).run P w = .ok (l, h, m) w) :
    (execOp (ev n σ) ⟨some d, .slice t x lo hi mx, ty, pos, aft, g⟩).run P w = .ok (.value (s.cut sz l h m).v) w :=
  r_sl (P := P) (w := w) (d := d) (ty := ty) (pos := pos) (aft := aft) (g := g) hx ht hl hh hm hb
end
end Go.Proofs.YtmiabahejnjhiaaGreatDoor
namespace Go.Proofs.YtmiabahejnjhiaaGreatDoor
open Go Go.MapKept
set_option linter.unusedSectionVars false
section
variable {κ : Type} [DecidableEq κ]
def ment (kv : κ → Value) (x : κ × Value × Nat) : MapEntry := { key := kv x.1, val := x.2.1, born := x.2.2 }
def midx (k : κ) : List (κ × Value × Nat) → Nat → Option (Nat × Value)
  | [], _ => none
  | x :: L, i => if k = x.1 then some (i, x.2.1) else midx k L (i + 1)
/-- what stands under a key. -/
def mget (L : List (κ × Value × Nat)) (k : κ) : Option Value :=
  match L with
  | [] => none
  | x :: L => if k = x.1 then some x.2.1 else mget L k
def mput (k : κ) (v : Value) (c : Nat) : List (κ × Value × Nat) → List (κ × Value × Nat)
  | [] => [(k, v, c)]
  | x :: L => if k = x.1 then (k, v, x.2.2) :: L else x :: mput k v c L
def mclk (L : List (κ × Value × Nat)) (k : κ) (c : Nat) : Nat := if (mget L k).isSome then c else c + 1
def mdel (k : κ) : List (κ × Value × Nat) → List (κ × Value × Nat)
  | [] => []
  | x :: L => if k = x.1 then L else x :: mdel k L
structure MOk (L : List (κ × Value × Nat)) (c : Nat) : Prop where
  keys : (L.map (·.1)).Nodup
  born : (L.map (·.2.2)).Nodup
  old : ∀ x ∈ L, x.2.2 < c
omit [DecidableEq κ] in
theorem MOk.nil : MOk ([] : List (κ × Value × Nat)) 0 := ⟨List.nodup_nil, List.nodup_nil, fun _ h => by cases h⟩
theorem mget_put (k j : κ) (v : Value) (c : Nat) : ∀ L : List (κ × Value × Nat), mget (mput k v c L) j = if j = k then some v else mget L j
  | [] => by simp [mput, mget]
  | x :: L => by
    rw [mput]
    by_cases h : k = x.1
    · rw [if_pos h, mget, mget, ← h]; simp only
      by_cases hj : j = k <;> simp [hj]
    · rw [if_neg h, mget, mget, mget_put k j v c L]
      by_cases hj : j = x.1
      · rw [if_pos hj, if_pos hj, if_neg (fun e : j = k => h (e.symm.trans hj))]
      · rw [if_neg hj, if_neg hj]
theorem mput_keys (k : κ) (v : Value) (c : Nat) : ∀ (L : List (κ × Value × Nat)) (j : κ), j ∈ (mput k v c L).map (·.1) ↔ j = k ∨ j ∈ L.map (·.1)
  | [], j => by simp [mput]
  | x :: L, j => by
    rw [mput]
    by_cases h : k = x.1
    · rw [if_pos h]; simp [h]
    · rw [if_neg h, List.map_cons, List.mem_cons, mput_keys k v c L j, List.map_cons, List.mem_cons]
      constructor
      · rintro (h1 | h1 | h1) <;> simp [h1]
      · rintro (h1 | h1 | h1) <;> simp [h1]
theorem mput_born (k : κ) (v : Value) (c : Nat) : ∀ (L : List (κ × Value × Nat)) (x : κ × Value × Nat), x ∈ mput k v c L → x.2.2 = c ∧ mget L k = none ∨ ∃ y ∈ L, x.2.2 = y.2.2
  | [], x, h => by
    simp only [mput, List.mem_singleton] at h
    subst h; exact .inl ⟨rfl, rfl⟩
  | y :: L, x, h => by
    rw [mput] at h
    by_cases hk : k = y.1
    · rw [if_pos hk] at h
      rcases List.mem_cons.1 h with rfl | h
      · exact .inr ⟨y, List.mem_cons_self .., rfl⟩
      · exact .inr ⟨x, List.mem_cons_of_mem _ h, rfl⟩
    · rw [if_neg hk] at h
      rcases List.mem_cons.1 h with rfl | h
      · exact .inr ⟨x, List.mem_cons_self .., rfl⟩
      · rcases mput_born k v c L x h with ⟨h1, h2⟩ | ⟨z, hz, h2⟩
        · exact .inl ⟨h1, by rw [mget, if_neg hk]; exact h2⟩
        · exact .inr ⟨z, List.mem_cons_of_mem _ hz, h2⟩
theorem MOk.put {L : List (κ × Value × Nat)} {c : Nat} (h : MOk L c) (k : κ) (v : Value) : MOk (mput k v c L) (mclk L k c) := by
  refine ⟨?_, ?_, fun x hx => ?_⟩
  · have hk := h.keys
    clear h
    induction L with
    | nil => simp [mput]
    | cons x L ih =>
      rw [mput]
      rw [List.map_cons, List.nodup_cons] at hk
      by_cases e : k = x.1
      · rw [if_pos e, List.map_cons, List.nodup_cons]; exact ⟨by simp only; rw [e]; exact hk.1, hk.2⟩
      · rw [if_neg e, List.map_cons, List.nodup_cons]
        refine ⟨fun hm => ?_, ih hk.2⟩
        rcases (mput_keys k v c L x.1).1 hm with h1 | h1
        · exact e h1.symm
        · exact hk.1 h1
  · have hb := h.born
    have ho := h.old
    clear h
    induction L with
    | nil => simp [mput]
    | cons x L ih =>
      rw [mput]
      rw [List.map_cons, List.nodup_cons] at hb
      by_cases e : k = x.1
      · rw [if_pos e, List.map_cons, List.nodup_cons]; exact hb
      · rw [if_neg e, List.map_cons, List.nodup_cons]
        refine ⟨fun hm => ?_, ih hb.2 (fun y hy => ho y (List.mem_cons_of_mem _ hy))⟩
        obtain ⟨y, hy, he⟩ := List.mem_map.1 hm
        rcases mput_born k v c L y hy with ⟨h1, _⟩ | ⟨z, hz, h2⟩
        · have := ho x (List.mem_cons_self ..); omega
        · exact hb.1 (List.mem_map.2 ⟨z, hz, by rw [← h2, he]⟩)
  · unfold mclk
    rcases mput_born k v c L x hx with ⟨h1, h2⟩ | ⟨z, hz, h2⟩
    · rw [h2]; simp only [Option.isSome_none]; rw [if_neg (by decide)]; omega
    · have := h.old z hz
      split <;> omega
/-- keys of a type: how they are found. -/
structure KeyOf (P : Program) (kt : TypeId) (kv : κ → Value) : Prop where
  chk : ∀ (e : Bool) (k : κ) (w : World), (Instr.checkKey e 10000 kt (kv k)).run P w = .ok () w
  fnd : ∀ (k : κ) (L : List (κ × Value × Nat)) (w : World), (Instr.findKey kt (kv k) (L.map (ment kv))).run P w = .ok (midx k L 0) w
  same : ∀ k, Instr.sameBits 10000 (kv k) (kv k) = true
/-- .. where they are asked by the operator. -/
theorem findAsking_ask {P : Program} {kt : TypeId} {kv : κ → Value} {w : World} (he : ∀ k j : κ, (Op.equal kt (kv k) (kv j)).run P w = .ok (decide (k = j)) w) (k : κ) : ∀ (L : List (κ × Value × Nat)) (i : Nat), (Instr.findAsking kt (kv k) (L.map (ment kv)) i).run P w = .ok (midx k L i) w
  | [], i => rfl
  | x :: L, i => by
    rw [List.map_cons, Instr.findAsking, Sem.run_bind]
    show ((Op.equal kt (kv k) (kv x.1)).run P w).andThen _ = _
    rw [he, midx]
    by_cases h : k = x.1
    · rw [decide_eq_true h, if_pos h]; rfl
    · rw [decide_eq_false h, if_neg h]; exact findAsking_ask he k L (i + 1)
theorem KeyOf.ask {P : Program} {kt : TypeId} {kv : κ → Value} (hwide : (match P.underlying kt with | some (.array _ _) | some (.struct _) => true | _ => false) = true) (hc : ∀ (e : Bool) (k : κ) (w : World), (Instr.checkKey e 10000 kt (kv k)).run P w = .ok () w)
    (he : ∀ (k j : κ) (w : World), (Op.equal kt (kv k) (kv j)).run P w = .ok (decide (k = j)) w) (hs : ∀ k, Instr.sameBits 10000 (kv k) (kv k) = true) : KeyOf P kt kv :=
  ⟨hc, fun k L w => by rw [run_findKey_eq w hwide]; exact findAsking_ask (fun a b => he a b w) k L 0, hs⟩
/-- a map's block. -/
def mobj (kv : κ → Value) (L : List (κ × Value × Nat)) (c : Nat) : Obj := .map (L.map (ment kv)).toArray c
theorem midx_get (k : κ) : ∀ (L : List (κ × Value × Nat)) (i : Nat), (midx k L i).map (·.2) = mget L k
  | [], _ => rfl
  | x :: L, i => by
    rw [midx, mget]
    by_cases h : k = x.1
    · rw [if_pos h, if_pos h]; rfl
    · rw [if_neg h, if_neg h]; exact midx_get k L (i + 1)
end
section
variable {κ : Type} [DecidableEq κ] {P : Program} {Q : Exit → Act → World → Prop} {n : Nat} {σ : Nat → Value} {w w0 : World} {K : Act → World → Prop}
  {ty : TypeId} {pos : String} {aft : Array Edge} {g : Option (Nat × Bool)} {d : Nat} {t kt et : TypeId} {x y : Operand} {S : List Nat} {L : List Ch}
/-- 'make' of a map. -/
theorem o_mmake (kv : κ → Value) (H : Hp w0 w S L) (h : ∀ b w', Hp w0 w' S (L ++ [.obj b (mobj kv [] 0)]) → w0.heap.size ≤ b → K (mk n (up σ d (.map (some b)))) w') : Oper.wp P ⟨some d, .makeMap t none, ty, pos, aft, g⟩ (mk n σ) w K Q := by
  refine o_val (v := .map (some w.heap.size)) (w' := w.alloc (.map #[] 0)) ?_ (h w.heap.size _ (H.new _ (.obj w.heap.size (mobj kv [] 0)) rfl (heap_alloc_new' w _)) H.size)
  rfl
/-- a look-up. -/
theorem r_look {kv : κ → Value} {M : List (κ × Value × Nat)} {c i b : Nat} {k : κ} {z : Value} (H : Hp w0 w S L) (hi : L[i]? = some (.obj b (mobj kv M c))) (hu : P.underlying t = some (.map kt et)) (hK : KeyOf P kt kv) (hz : ∀ w, (zeroValue et).run P w = .ok z w)
    (hx : ev n σ x = .map (some b)) (hy : ev n σ y = kv k) (ok : Bool) :
    (execOp (ev n σ) ⟨some d, .lookup t x y ok, ty, pos, aft, g⟩).run P w = .ok (.value (if ok then .tuple #[(mget M k).getD z, .bool (mget M k).isSome] else (mget M k).getD z)) w := by
  have hb : w.heap[b]? = some (.map (M.map (ment kv)).toArray c) := H.has _ (List.mem_of_getElem? hi)
  have hg : (Instr.lookup t (.map (some b)) (kv k) ok).run P w = .ok (if ok then .tuple #[(mget M k).getD z, .bool (mget M k).isSome] else (mget M k).getD z) w := by
    unfold Instr.lookup
    simp only [Sem.run_bind, run_underlying hu, Result.andThen_ok, MapKept.run_getObj_map hb, hK.chk]
    have hf := hK.fnd k M w
    rw [← midx_get k M 0]
    cases hm : midx k M 0 with
    | none => rw [hm] at hf; cases ok <;> simp [hf, hz]
    | some r => rw [hm] at hf; cases ok <;> simp [hf]
  simp only [execOp, hx, hy, Sem.run_bind, hg, Result.andThen_ok]
  rfl
theorem keyStays (k : κ) {kv : κ → Value} (hK : KeyOf P kt kv) : (Instr.keyThatStays (kv k) (kv k)).run P w = .ok (kv k) w := by
  unfold Instr.keyThatStays
  rw [if_pos (hK.same k)]; rfl
theorem midx_some {k : κ} : ∀ {M : List (κ × Value × Nat)} {i j : Nat} {v : Value}, midx k M i = some (j, v) → ∃ x m, j = i + m ∧ M[m]? = some x ∧ x.1 = k ∧ x.2.1 = v
  | [], _, _, _, h => by cases h
  | x :: M, i, j, v, h => by
    rw [midx] at h
    by_cases hk : k = x.1
    · rw [if_pos hk] at h; cases h; exact ⟨x, 0, rfl, rfl, hk.symm, rfl⟩
    · rw [if_neg hk] at h
      obtain ⟨y, m, h1, h2, h3⟩ := midx_some h
      exact ⟨y, m + 1, by omega, h2, h3⟩
theorem mput_none {k : κ} {v : Value} {c : Nat} : ∀ {M : List (κ × Value × Nat)} {i : Nat}, midx k M i = none → mput k v c M = M ++ [(k, v, c)] ∧ mget M k = none
  | [], _, _ => ⟨rfl, rfl⟩
  | x :: M, i, h => by
    rw [midx] at h
    by_cases hk : k = x.1
    · rw [if_pos hk] at h; cases h
    · rw [if_neg hk] at h
      obtain ⟨h1, h2⟩ := mput_none (v := v) (c := c) h
      rw [mput, if_neg hk, h1, mget, if_neg hk]; exact ⟨rfl, h2⟩
theorem mput_some {kv : κ → Value} {k : κ} {v u : Value} {c : Nat} : ∀ {M : List (κ × Value × Nat)} {i j : Nat}, midx k M i = some (j, u) → ((M.map (ment kv)).modify (j - i) fun e => { e with key := kv k, val := v }) = (mput k v c M).map (ment kv) ∧ mget M k = some u ∧ i ≤ j
  | [], _, _, h => by cases h
  | x :: M, i, j, h => by
    rw [midx] at h
    by_cases hk : k = x.1
    · rw [if_pos hk] at h; cases h
      rw [mput, if_pos hk, mget, if_pos hk, Nat.sub_self]
      exact ⟨by simp [ment], rfl, Nat.le_refl _⟩
    · rw [if_neg hk] at h
      obtain ⟨h1, h2, h3⟩ := mput_some (kv := kv) (v := v) (c := c) h
      rw [mput, if_neg hk, mget, if_neg hk]
      refine ⟨?_, h2, by omega⟩
      rw [show j - i = (j - (i + 1)) + 1 by omega, List.map_cons, List.modify_succ_cons, h1, List.map_cons]
/-- 'm[k] = v'. -/
theorem o_mput {kv : κ → Value} {M : List (κ × Value × Nat)} {c i b : Nat} {k : κ} {v : Value} {z : Operand} (H : Hp w0 w S L) (hi : L[i]? = some (.obj b (mobj kv M c))) (hu : P.underlying t = some (.map kt et)) (hK : KeyOf P kt kv)
    (hx : ev n σ x = .map (some b)) (hy : ev n σ y = kv k) (hv : ev n σ z = v) (h : ∀ w', Hp w0 w' S (L.set i (.obj b (mobj kv (mput k v c M) (mclk M k c)))) → K (mk n σ) w') :
    Oper.wp P ⟨none, .mapUpdate t x y z, ty, pos, aft, g⟩ (mk n σ) w K Q := by
  have hb : w.heap[b]? = some (.map (M.map (ment kv)).toArray c) := H.has _ (List.mem_of_getElem? hi)
  have hset := heap_set (o' := mobj kv (mput k v c M) (mclk M k c)) hb
  have hg : (Instr.mapUpdate t (.map (some b)) (kv k) v).run P w = .ok () { w with heap := w.heap.setIfInBounds b (mobj kv (mput k v c M) (mclk M k c)) } := by
    unfold Instr.mapUpdate
    simp only [Sem.run_bind, run_underlying hu, Result.andThen_ok, MapKept.run_getObj_map hb, hK.chk]
    have hf := hK.fnd k M w
    cases hm : midx k M 0 with
    | none =>
      rw [hm] at hf
      obtain ⟨h1, h2⟩ := mput_none (v := v) (c := c) hm
      have e : mobj kv (mput k v c M) (mclk M k c) = .map ((M.map (ment kv)).toArray.push { key := kv k, val := v, born := c }) (c + 1) := by
        rw [mobj, h1, mclk, h2]; simp [ment]
      rw [e]
      simp [hf, MapKept.run_setObj_map _ hb]
    | some r =>
      obtain ⟨j, u⟩ := r
      rw [hm] at hf
      obtain ⟨h1, h2, _⟩ := mput_some (kv := kv) (v := v) (c := c) hm
      obtain ⟨xx, m, hj, hM, hk1, _⟩ := midx_some hm
      rw [Nat.sub_zero] at h1
      have hjm : j = m := by omega
      subst hjm
      have e : mobj kv (mput k v c M) (mclk M k c) = .map ((M.map (ment kv)).toArray.modify j fun e => { e with key := kv k, val := v }) c := by
        rw [mobj, ← h1, mclk, h2]; simp
      have hold : (((M.map (ment kv)).toArray[j]?).map (·.key)).getD (kv k) = kv k := by
        simp [hM, ment, hk1]
      have hst := keyStays (w := w) k hK
      rw [e]
      simp only [hf, Result.andThen_ok]
      rw [Sem.run_bind, hold, hst, Result.andThen_ok, MapKept.run_setObj_map _ hb]
  refine o_skip (w' := { w with heap := w.heap.setIfInBounds b (mobj kv (mput k v c M) (mclk M k c)) }) ?_ (h _ ?_)
  · simp only [execOp, hx, hy, hv, Sem.run_bind, hg, Result.andThen_ok]; rfl
  · refine H.turn hi (c' := .obj b (mobj kv (mput k v c M) (mclk M k c))) hset.1 (fun b' hb' => .inl hb') rfl rfl rfl (by simp) (fun b' _ hne => ?_)
    exact hset.2 b' (fun e => hne (by rw [e]; rfl))
end
end Go.Proofs.YtmiabahejnjhiaaGreatDoor
namespace Go.Proofs.YtmiabahejnjhiaaGreatDoor
open Go Go.MapKept
set_option linter.unusedSectionVars false
section
variable {κ : Type} [DecidableEq κ] {P : Program} {Q : Exit → Act → World → Prop} {n : Nat} {σ : Nat → Value} {w w0 : World} {K : Act → World → Prop}
  {ty : TypeId} {pos : String} {aft : Array Edge} {g : Option (Nat × Bool)} {d : Nat} {t kt et : TypeId} {x y : Operand} {S : List Nat} {L : List Ch}
theorem Hp.mset {kv : κ → Value} {M M' : List (κ × Value × Nat)} {c c' i b : Nat} (H : Hp w0 w S L) (hi : L[i]? = some (.obj b (mobj kv M c))) : Hp w0 { w with heap := w.heap.setIfInBounds b (mobj kv M' c') } S (L.set i (.obj b (mobj kv M' c'))) := by
  have hb : w.heap[b]? = some (.map (M.map (ment kv)).toArray c) := H.has _ (List.mem_of_getElem? hi)
  have hset := heap_set (o' := mobj kv M' c') hb
  refine H.turn hi (c' := .obj b (mobj kv M' c')) hset.1 (fun b' hb' => .inl hb') rfl rfl rfl (by simp) (fun b' _ hne => ?_)
  exact hset.2 b' (fun e => hne (by rw [e]; rfl))
theorem mdel_some {kv : κ → Value} {k : κ} {u : Value} : ∀ {M : List (κ × Value × Nat)} {i j : Nat}, midx k M i = some (j, u) → (M.map (ment kv)).eraseIdx (j - i) = (mdel k M).map (ment kv) ∧ i ≤ j
  | [], _, _, h => by cases h
  | x :: M, i, j, h => by
    rw [midx] at h
    by_cases hk : k = x.1
    · rw [if_pos hk] at h; cases h
      rw [mdel, if_pos hk, Nat.sub_self]
      exact ⟨rfl, Nat.le_refl _⟩
    · rw [if_neg hk] at h
      obtain ⟨h1, h3⟩ := mdel_some (kv := kv) h
      rw [mdel, if_neg hk]
      refine ⟨?_, by omega⟩
      rw [show j - i = (j - (i + 1)) + 1 by omega, List.map_cons, List.eraseIdx_cons_succ, h1, List.map_cons]
/-- an entry's stamp. -/
def mborn (M : List (κ × Value × Nat)) (k : κ) : Nat :=
  match M with
  | [] => 0
  | x :: M => if k = x.1 then x.2.2 else mborn M k
theorem mborn_mem {k : κ} : ∀ {M : List (κ × Value × Nat)}, (mget M k).isSome = true → mborn M k ∈ M.map (·.2.2)
  | [], h => by cases h
  | x :: M, h => by
    rw [mget] at h
    rw [mborn]
    by_cases hk : k = x.1
    · rw [if_pos hk]; exact List.mem_cons_self ..
    · rw [if_neg hk] at h ⊢; exact List.mem_cons_of_mem _ (mborn_mem h)
theorem mset_idx {kv : κ → Value} {k : κ} {v : Value} {c : Nat} : ∀ {M : List (κ × Value × Nat)}, (M.map (·.2.2)).Nodup → (mget M k).isSome = true →
    ∃ j, (M.map (ment kv)).findIdx? (fun e => (e.born : Int) == ((mborn M k : Nat) : Int)) = some j ∧ (M.map (ment kv)).modify j (fun e => { e with val := v }) = (mput k v c M).map (ment kv)
  | [], _, h => by cases h
  | x :: M, hn, h => by
    rw [List.map_cons, List.nodup_cons] at hn
    rw [mget] at h
    rw [mborn, mput]
    by_cases hk : k = x.1
    · rw [if_pos hk, if_pos hk]
      exact ⟨0, by simp [ment, List.findIdx?_cons], by simp [ment, hk]⟩
    · rw [if_neg hk] at h
      rw [if_neg hk, if_neg hk]
      obtain ⟨j, h1, h2⟩ := mset_idx (kv := kv) (v := v) (c := c) hn.2 h
      have hne : ¬ ((x.2.2 : Int) = ((mborn M k : Nat) : Int)) := fun e => hn.1 (by have : x.2.2 = mborn M k := by omega
                                                                                    rw [this]; exact mborn_mem h)
      refine ⟨j + 1, ?_, by rw [List.map_cons, List.modify_succ_cons, h2, List.map_cons]⟩
      rw [List.map_cons, List.findIdx?_cons, h1]
      simp [ment, hne]
theorem mborn_put {k : κ} {v : Value} {c : Nat} : ∀ {M : List (κ × Value × Nat)}, (mborn (mput k v c M) k = if (mget M k).isSome then mborn M k else c) ∧ (mget (mput k v c M) k).isSome = true
  | [] => by simp [mput, mborn, mget]
  | x :: M => by
    rw [mput, mget]
    by_cases hk : k = x.1
    · rw [if_pos hk, if_pos hk]; simp [mborn, mget, hk]
    · rw [if_neg hk, if_neg hk]
      obtain ⟨h1, h2⟩ := mborn_put (k := k) (v := v) (c := c) (M := M)
      rw [mborn, if_neg hk, h1, mborn, if_neg hk, mget, if_neg hk]
      exact ⟨rfl, h2⟩
theorem midx_born {kv : κ → Value} {k : κ} {u : Value} : ∀ {M : List (κ × Value × Nat)} {i j : Nat}, midx k M i = some (j, u) → (((M.map (ment kv))[j - i]?).map (·.born)).getD 0 = mborn M k
  | [], _, _, h => by cases h
  | x :: M, i, j, h => by
    have h0 := h
    rw [midx] at h
    by_cases hk : k = x.1
    · rw [if_pos hk] at h; cases h
      rw [mborn, if_pos hk, Nat.sub_self]; simp [ment]
    · rw [if_neg hk] at h
      have h3 := (mdel_some (kv := kv) h).2
      rw [mborn, if_neg hk, ← midx_born (kv := kv) h, show j - i = (j - (i + 1)) + 1 by omega, List.map_cons, List.getElem?_cons_succ]
/-- an entry is there, or is made. -/
theorem o_ment {kv : κ → Value} {M : List (κ × Value × Nat)} {c i b : Nat} {k : κ} {z : Value} (H : Hp w0 w S L) (hi : L[i]? = some (.obj b (mobj kv M c))) (hu : P.underlying t = some (.map kt et)) (hK : KeyOf P kt kv) (hz : ∀ w, (zeroValue et).run P w = .ok z w)
    (hx : ev n σ x = .map (some b)) (hy : ev n σ y = kv k) (h : ∀ w', Hp w0 w' S (L.set i (.obj b (mobj kv (mput k ((mget M k).getD z) c M) (mclk M k c)))) → K (mk n (up σ d (.tuple #[(mget M k).getD z, VI ((mborn (mput k ((mget M k).getD z) c M) k : Nat) : Int)]))) w') :
    Oper.wp P ⟨some d, .mapEntry t x y, ty, pos, aft, g⟩ (mk n σ) w K Q := by
  have hb : w.heap[b]? = some (.map (M.map (ment kv)).toArray c) := H.has _ (List.mem_of_getElem? hi)
  have hg : (Instr.mapEntry t (.map (some b)) (kv k)).run P w = .ok (.tuple #[(mget M k).getD z, VI ((mborn (mput k ((mget M k).getD z) c M) k : Nat) : Int)]) { w with heap := w.heap.setIfInBounds b (mobj kv (mput k ((mget M k).getD z) c M) (mclk M k c)) } := by
    rw [mborn_put.1]
    unfold Instr.mapEntry
    simp only [Sem.run_bind, run_underlying hu, Result.andThen_ok, MapKept.run_getObj_map hb, hK.chk]
    have hf := hK.fnd k M w
    cases hm : midx k M 0 with
    | none =>
      rw [hm] at hf
      obtain ⟨h1, h2⟩ := mput_none (v := (mget M k).getD z) (c := c) hm
      have e : mobj kv (mput k ((mget M k).getD z) c M) (mclk M k c) = .map ((M.map (ment kv)).toArray.push { key := kv k, val := z, born := c }) (c + 1) := by
        rw [mobj, h1, mclk, h2]; simp [ment]
      rw [e, h2]
      simp [hf, hz, MapKept.run_setObj_map _ hb, goInt]
    | some r =>
      obtain ⟨j, u⟩ := r
      rw [hm] at hf
      obtain ⟨h1, h2, _⟩ := mput_some (kv := kv) (v := u) (c := c) hm
      have hbn := midx_born (kv := kv) hm
      obtain ⟨xx, m, hj, hM, hk1, hk2⟩ := midx_some hm
      rw [Nat.sub_zero] at h1 hbn
      have hjm : j = m := by omega
      subst hjm
      have e : mobj kv (mput k ((mget M k).getD z) c M) (mclk M k c) = .map ((M.map (ment kv)).toArray.modify j fun e => { e with key := kv k }) c := by
        rw [h2, Option.getD_some, mobj, ← h1, mclk, h2]
        simp only [Option.isSome_some, if_true, List.modify_toArray]
        congr 2
        apply List.ext_getElem?
        intro q
        rw [List.getElem?_modify, List.getElem?_modify]
        by_cases hq : j = q
        · subst hq; simp [hM, ment, hk2]
        · simp [hq]
      have hold : (((M.map (ment kv)).toArray[j]?).map (·.key)).getD (kv k) = kv k := by
        simp [hM, ment, hk1]
      have hst := keyStays (w := w) k hK
      have hbn' : (((M.map (ment kv)).toArray[j]?).map (fun x => (x.born : Int))).getD 0 = ((mborn M k : Nat) : Int) := by rw [← hbn]; simp [hM]
      rw [e, h2]
      simp only [hf, Result.andThen_ok]
      rw [Sem.run_bind, hold, hst, Result.andThen_ok, Sem.run_bind, MapKept.run_setObj_map _ hb, Result.andThen_ok, hbn']
      rfl
  refine o_val (v := .tuple #[(mget M k).getD z, VI ((mborn (mput k ((mget M k).getD z) c M) k : Nat) : Int)]) (w' := { w with heap := w.heap.setIfInBounds b (mobj kv (mput k ((mget M k).getD z) c M) (mclk M k c)) }) ?_ (h _ (H.mset hi))
  simp only [execOp, hx, hy, Sem.run_bind, hg, Result.andThen_ok]; rfl
/-- the entry of a stamp gets a value. -/
theorem o_mset {kv : κ → Value} {M : List (κ × Value × Nat)} {c c' i b : Nat} {k : κ} {v : Value} {z : Operand} (H : Hp w0 w S L) (hi : L[i]? = some (.obj b (mobj kv M c))) (hM : MOk M c) (hs : (mget M k).isSome = true)
    (hx : ev n σ x = .map (some b)) (hy : ev n σ y = VI ((mborn M k : Nat) : Int)) (hv : ev n σ z = v) (h : ∀ w', Hp w0 w' S (L.set i (.obj b (mobj kv (mput k v c' M) c))) → K (mk n σ) w') :
    Oper.wp P ⟨none, .entryStore t x y z, ty, pos, aft, g⟩ (mk n σ) w K Q := by
  have hb : w.heap[b]? = some (.map (M.map (ment kv)).toArray c) := H.has _ (List.mem_of_getElem? hi)
  obtain ⟨j, h1, h2⟩ := mset_idx (kv := kv) (v := v) (c := c') hM.born hs
  have hg : (Instr.entryStore t (.map (some b)) (VI ((mborn M k : Nat) : Int)) v).run P w = .ok () { w with heap := w.heap.setIfInBounds b (mobj kv (mput k v c' M) c) } := by
    have e : mobj kv (mput k v c' M) c = .map ((M.map (ment kv)).toArray.modify j fun e => { e with val := v }) c := by rw [mobj, ← h2]; simp
    unfold Instr.entryStore
    rw [e]
    have h1' : (M.map (ment kv)).toArray.findIdx? (fun e => (e.born : Int) == ((mborn M k : Nat) : Int)) = some j := by simpa using h1
    simp [MapKept.run_getObj_map hb, asInt, asIntOf, h1', MapKept.run_setObj_map _ hb]
  exact o_skip (w' := { w with heap := w.heap.setIfInBounds b (mobj kv (mput k v c' M) c) }) (by simp only [execOp, hx, hy, hv, Sem.run_bind, hg, Result.andThen_ok]; rfl) (h _ (H.mset hi))
end
end Go.Proofs.YtmiabahejnjhiaaGreatDoor
namespace Go.Proofs.YtmiabahejnjhiaaGreatDoor
open Go
/-- 32 bytes. -/
abbrev Id32 := { l : List UInt8 // l.length = 32 }
section
variable {P : Program} {Q : Exit → Act → World → Prop} {n : Nat} {σ : Nat → Value} {w w0 : World} {K : Act → World → Prop}
  {ty : TypeId} {pos : String} {aft : Array Edge} {g : Option (Nat × Bool)} {d : Nat} {t e k' yt : TypeId} {x y : Operand} {S : List Nat} {L : List Ch}
theorem eq_nilpp (hu : P.underlying t = some (.pointer e)) : (Op.equal t (.pointer none) (.pointer none)).run P w = .ok true w := by
  have h : ∀ dd, (Op.equalIn (dd + 1) t (.pointer none) (.pointer none)).run P w = .ok true w := fun dd => by
    simp only [Op.equalIn, Sem.run_bind, run_underlying hu, Result.andThen_ok]
    rfl
  exact h 9999
end
end Go.Proofs.YtmiabahejnjhiaaGreatDoor
namespace Go.Proofs.YtmiabahejnjhiaaGreatDoor
open Go
def keys (L : List Ch) : List Nat := L.filterMap Ch.key
/-- chunks that stand in a world, no two of one block. -/
def Own (w : World) (L : List Ch) : Prop := (∀ c ∈ L, c.ok w) ∧ L.Pairwise fun c e => ∀ b, c.key = some b → e.key ≠ some b
/-- what is owned. -/
abbrev Own.l {w : World} {L : List Ch} (_ : Own w L) : List Ch := L
theorem Hp.owns {w0 w : World} {S : List Nat} {L : List Ch} (h : Hp w0 w S L) : Own w L := ⟨h.has, h.nd⟩
theorem Own.sub {w : World} {L L' : List Ch} (h : Own w L) (hs : L'.Sublist L) : Own w L' := ⟨fun c hc => h.1 c (hs.subset hc), h.2.sublist hs⟩
theorem nd_symm {c e : Ch} (h : ∀ b, c.key = some b → e.key ≠ some b) : ∀ b, e.key = some b → c.key ≠ some b := fun b h1 h2 => h b h2 h1
theorem Hp.permL {w0 w : World} {S : List Nat} {L L' : List Ch} (h : Hp w0 w S L) (hp : L.Perm L') : Hp w0 w S L' :=
  ⟨h.os, h.tape, h.output, h.size, h.frame, fun c hc => h.has c (hp.mem_iff.2 hc), fun c hc => h.fresh c (hp.mem_iff.2 hc), h.nd.perm hp (fun h => nd_symm h)⟩
theorem perm_front {α : Type} {c : α} : ∀ {L : List α} {j : Nat}, L[j]? = some c → L.Perm (c :: L.eraseIdx j)
  | a :: L, 0, h => by cases h; exact .refl _
  | a :: L, j + 1, h => by
    have := perm_front (L := L) (j := j) h
    exact (List.Perm.cons a this).trans (.swap ..)
theorem mem_keys {L : List Ch} {b : Nat} : b ∈ keys L ↔ ∃ c ∈ L, c.key = some b := List.mem_filterMap
theorem Own.start {w : World} {L : List Ch} (h : Own w L) : Hp w w (keys L) L :=
  ⟨rfl, rfl, rfl, Nat.le_refl _, fun _ _ _ => rfl, h.1, fun c hc _ hb => .inl (mem_keys.2 ⟨c, hc, hb⟩), h.2⟩
theorem Hp.callG {w0 w w' : World} {S : List Nat} {L L1 L1' Lr : List Ch} (h : Hp w0 w S L) (hL : L = L1 ++ Lr) (hc : Hp w w' (keys L1) L1') : Hp w0 w' S (Lr ++ L1') := by
  subst hL
  obtain ⟨n1, n2, n3⟩ := List.pairwise_append.1 h.nd
  have out : ∀ e ∈ Lr, ∀ b, e.key = some b → b < w.heap.size ∧ b ∉ keys L1 := fun e he b hb =>
    ⟨Ch.lt (h.has e (List.mem_append_right _ he)) hb, fun hm => by
      obtain ⟨c, hcm, hcb⟩ := mem_keys.1 hm
      exact n3 c hcm e he b hcb hb⟩
  refine ⟨hc.os.trans h.os, hc.tape.trans h.tape, hc.output.trans h.output, Nat.le_trans h.size hc.size, fun b hlt hn => ?_, fun c hcm => ?_, fun c hcm b hb => ?_, ?_⟩
  · have hk : b ∉ keys L1 := fun hm => by
      obtain ⟨c, hcm, hcb⟩ := mem_keys.1 hm
      rcases h.fresh c (List.mem_append_left _ hcm) b hcb with h1 | h1
      · exact hn h1
      · omega
    exact (hc.frame b (Nat.lt_of_lt_of_le hlt h.size) hk).trans (h.frame b hlt hn)
  · rcases List.mem_append.1 hcm with h1 | h1
    · exact Ch.ok_of (h.has c (List.mem_append_right _ h1)) fun b hb => hc.frame b (out c h1 b hb).1 (out c h1 b hb).2
    · exact hc.has c h1
  · rcases List.mem_append.1 hcm with h1 | h1
    · exact h.fresh c (List.mem_append_right _ h1) b hb
    · rcases hc.fresh c h1 b hb with h2 | h2
      · obtain ⟨e, hem, heb⟩ := mem_keys.1 h2
        exact h.fresh e (List.mem_append_left _ hem) b heb
      · exact .inr (Nat.le_trans h.size h2)
  · refine List.pairwise_append.2 ⟨n2, hc.nd, fun e he c hcm b hb hb2 => ?_⟩
    have ho := out e he b hb
    rcases hc.fresh c hcm b hb2 with h2 | h2
    · exact ho.2 h2
    · omega
theorem Hp.own1 {w0 w : World} {S : List Nat} {L L1 Lr : List Ch} (h : Hp w0 w S L) (hL : L = L1 ++ Lr) : Own w L1 := by
  subst hL; exact h.owns.sub (List.sublist_append_left ..)
theorem Hp.ownP {w0 w : World} {S : List Nat} {L LL L1 Lr : List Ch} (h : Hp w0 w S L) (hp : L.Perm LL) (hL : LL = L1 ++ Lr) : Own w L1 := (h.permL hp).own1 hL
theorem Hp.callP {w0 w w' : World} {S : List Nat} {L LL L1 L1' Lr L' : List Ch} (h : Hp w0 w S L) (hp : L.Perm LL) (hL : LL = L1 ++ Lr) (hc : Hp w w' (keys L1) L1') (hq : (Lr ++ L1').Perm L') : Hp w0 w' S L' :=
  ((h.permL hp).callG hL hc).permL hq
end Go.Proofs.YtmiabahejnjhiaaGreatDoor
namespace Go.Proofs.YtmiabahejnjhiaaGreatDoor
open Go Go.MapKept
set_option maxRecDepth 100000
section
variable {κ α : Type} [DecidableEq κ] {enc : α → Value} {M : List (κ × Value × Nat)} {F : κ → Option α}
/-- a map's entries are those of a function. -/
def MIs (enc : α → Value) (M : List (κ × Value × Nat)) (F : κ → Option α) : Prop := ∀ k, mget M k = (F k).map enc
def fput (F : κ → Option α) (k : κ) (v : α) : κ → Option α := fun j => if j = k then some v else F j
theorem MIs.nil : MIs enc ([] : List (κ × Value × Nat)) (fun _ => none) := fun _ => rfl
theorem MIs.put (h : MIs enc M F) (k : κ) (v : α) (c : Nat) : MIs enc (mput k (enc v) c M) (fput F k v) := fun j => by
  rw [mget_put, fput, h j]; split <;> rfl
theorem MIs.ent (h : MIs enc M F) (k : κ) (v : α) {X : Value} {c : Nat} : MIs enc (mput k (enc v) 0 (mput k X c M)) (fput F k v) := fun j => by
  rw [mget_put, mget_put, fput, h j]; split <;> rfl
theorem mput_cc {k : κ} {v : Value} (c c' : Nat) : ∀ {M : List (κ × Value × Nat)}, (mget M k).isSome = true → mput k v c M = mput k v c' M
  | [], h => by cases h
  | x :: M, h => by
    rw [mget] at h
    rw [mput, mput]
    by_cases hk : k = x.1
    · rw [if_pos hk, if_pos hk]
    · rw [if_neg hk] at h; rw [if_neg hk, if_neg hk, mput_cc c c' h]
theorem MOk.ent {k : κ} {X v : Value} {c c1 : Nat} (h : MOk (mput k X c M) c1) : MOk (mput k v 0 (mput k X c M)) c1 := by
  have h1 := h.put k v
  have h2 : mclk (mput k X c M) k c1 = c1 := if_pos mborn_put.2
  rw [h2, mput_cc c1 0 mborn_put.2] at h1
  exact h1
theorem MIs.getD (h : MIs enc M F) (k : κ) (z : α) : (mget M k).getD (enc z) = enc ((F k).getD z) := by
  rw [h k]; cases F k <;> rfl
theorem MIs.isSome (h : MIs enc M F) (k : κ) : (mget M k).isSome = (F k).isSome := by
  rw [h k]; cases F k <;> rfl
end
section
variable {κ α : Type} [DecidableEq κ] {P : Program} {n : Nat} {σ : Nat → Value} {w w0 : World}
  {ty : TypeId} {pos : String} {aft : Array Edge} {g : Option (Nat × Bool)} {d : Nat} {t kt et : TypeId} {x y : Operand} {S : List Nat} {L : List Ch}
/-- a look-up, told by the function. -/
theorem r_lookF {kv : κ → Value} {enc : α → Value} {M : List (κ × Value × Nat)} {F : κ → Option α} {c i b : Nat} {k : κ} (z : α) (hF : MIs enc M F) (H : Hp w0 w S L) (hi : L[i]? = some (.obj b (mobj kv M c))) (hu : P.underlying t = some (.map kt et)) (hK : KeyOf P kt kv) (hz : ∀ w, (zeroValue et).run P w = .ok (enc z) w)
    (hx : ev n σ x = .map (some b)) (hy : ev n σ y = kv k) :
    (execOp (ev n σ) ⟨some d, .lookup t x y false, ty, pos, aft, g⟩).run P w = .ok (.value (enc ((F k).getD z))) w := by
  have := r_look (P := P) (ty := ty) (pos := pos) (aft := aft) (g := g) (d := d) H hi hu hK hz hx hy false
  rw [hF.getD] at this
  exact this
theorem r_lookT {kv : κ → Value} {enc : α → Value} {M : List (κ × Value × Nat)} {F : κ → Option α} {c i b : Nat} {k : κ} (z : α) (hF : MIs enc M F) (H : Hp w0 w S L) (hi : L[i]? = some (.obj b (mobj kv M c))) (hu : P.underlying t = some (.map kt et)) (hK : KeyOf P kt kv) (hz : ∀ w, (zeroValue et).run P w = .ok (enc z) w)
    (hx : ev n σ x = .map (some b)) (hy : ev n σ y = kv k) :
    (execOp (ev n σ) ⟨some d, .lookup t x y true, ty, pos, aft, g⟩).run P w = .ok (.value (.tuple #[enc ((F k).getD z), .bool (F k).isSome])) w := by
  have := r_look (P := P) (ty := ty) (pos := pos) (aft := aft) (g := g) (d := d) H hi hu hK hz hx hy true
  rw [hF.getD, hF.isSome] at this
  exact this
end
end Go.Proofs.YtmiabahejnjhiaaGreatDoor
namespace Go.Proofs.YtmiabahejnjhiaaGreatDoor
open Go Go.MapKept
set_option linter.unusedSectionVars false
section
variable {κ α : Type} [DecidableEq κ] {P : Program} {Q : Exit → Act → World → Prop} {n : Nat} {σ : Nat → Value} {w w0 : World} {K : Act → World → Prop}
  {ty : TypeId} {pos : String} {aft : Array Edge} {g : Option (Nat × Bool)} {d : Nat} {t kt et : TypeId} {x : Operand} {S : List Nat} {L : List Ch}
/-- an iterator: which keys it has met. -/
def itO (b : Nat) (M : List (κ × Value × Nat)) (c : Nat) (vis : List κ) : Obj := .mapIter (some b) c (vis.map (mborn M)).toArray c
theorem o_range {kv : κ → Value} {M : List (κ × Value × Nat)} {c i b : Nat} (H : Hp w0 w S L) (hi : L[i]? = some (.obj b (mobj kv M c))) (hu : P.underlying t = some (.map kt et)) (hx : ev n σ x = .map (some b))
    (h : ∀ r w', Hp w0 w' S (L ++ [.obj r (itO b M c [])]) → w0.heap.size ≤ r → K (mk n (up σ d (.pointer (some ⟨r, 0, none⟩)))) w') : Oper.wp P ⟨some d, .range t x, ty, pos, aft, g⟩ (mk n σ) w K Q := by
  have hb : w.heap[b]? = some (.map (M.map (ment kv)).toArray c) := H.has _ (List.mem_of_getElem? hi)
  have hg := run_range_map w t kt et b _ c hu hb
  refine o_val (v := .pointer (some ⟨w.heap.size, 0, none⟩)) (w' := w.alloc (.mapIter (some b) c #[] c)) ?_ (h w.heap.size _ (H.new _ (.obj w.heap.size (itO b M c [])) rfl (heap_alloc_new' w _)) H.size)
  simp only [execOp, hx, Sem.run_bind, hg, Result.andThen_ok]
  rfl
theorem mget_mem {M : List (κ × Value × Nat)} {k : κ} {v : Value} (h : mget M k = some v) : ∃ x ∈ M, x.1 = k ∧ x.2.1 = v ∧ x.2.2 = mborn M k := by
  induction M with
  | nil => cases h
  | cons y M ih =>
    rw [mget] at h
    by_cases e : k = y.1
    · rw [if_pos e] at h; cases h
      exact ⟨y, List.mem_cons_self .., e.symm, rfl, by rw [mborn, if_pos e]⟩
    · rw [if_neg e] at h
      obtain ⟨x, hx, h1, h2, h3⟩ := ih h
      exact ⟨x, List.mem_cons_of_mem _ hx, h1, h2, by rw [mborn, if_neg e]; exact h3⟩
theorem mget_of {M : List (κ × Value × Nat)} (hn : (M.map (·.1)).Nodup) {x : κ × Value × Nat} (h : x ∈ M) : mget M x.1 = some x.2.1 ∧ mborn M x.1 = x.2.2 := by
  induction M with
  | nil => cases h
  | cons y M ih =>
    rw [List.map_cons, List.nodup_cons] at hn
    rw [mget, mborn]
    rcases List.mem_cons.1 h with rfl | h
    · rw [if_pos rfl, if_pos rfl]; exact ⟨rfl, rfl⟩
    · have hne : x.1 ≠ y.1 := fun e => hn.1 (by rw [← e]; exact List.mem_map.2 ⟨x, h, rfl⟩)
      rw [if_neg hne, if_neg hne]; exact ih hn.2 h
theorem born_inj {M : List (κ × Value × Nat)} (hb : (M.map (·.2.2)).Nodup) {x y : κ × Value × Nat} (hx : x ∈ M) (hy : y ∈ M) (e : x.2.2 = y.2.2) : x = y := by
  induction M with
  | nil => cases hx
  | cons z M ih =>
    rw [List.map_cons, List.nodup_cons] at hb
    rcases List.mem_cons.1 hx with h1 | hx
    · rcases List.mem_cons.1 hy with h2 | hy
      · rw [h1, h2]
      · exact absurd (List.mem_map.2 ⟨y, hy, by rw [← e, h1]⟩) hb.1
    · rcases List.mem_cons.1 hy with h2 | hy
      · exact absurd (List.mem_map.2 ⟨x, hx, by rw [e, h2]⟩) hb.1
      · exact ih hb.2 hx hy
theorem o_next {kv : κ → Value} {enc : α → Value} {M : List (κ × Value × Nat)} {F : κ → Option α} {c i j b r : Nat} {vis : List κ} (H : Hp w0 w S L) (hi : L[i]? = some (.obj b (mobj kv M c))) (hj : L[j]? = some (.obj r (itO b M c vis)))
    (hM : MOk M c) (hF : MIs enc M F) (hv : ∀ k ∈ vis, (F k).isSome = true) (hx : ev n σ x = .pointer (some ⟨r, 0, none⟩))
    (h1 : (∀ k, (F k).isSome = true → k ∈ vis) → ∀ w', Hp w0 w' S L → K (mk n (up σ d (.tuple #[.bool false]))) w')
    (h2 : ∀ k a, F k = some a → k ∉ vis → ∀ w', Hp w0 w' S (L.set j (.obj r (itO b M c (vis ++ [k])))) → K (mk n (up σ d (.tuple #[.bool true, kv k, enc a]))) w') :
    Oper.wp P ⟨some d, .next x false, ty, pos, aft, g⟩ (mk n σ) w K Q := by
  have hb : w.heap[b]? = some (.map (M.map (ment kv)).toArray c) := H.has _ (List.mem_of_getElem? hi)
  have hr : w.heap[r]? = some (.mapIter (some b) c (vis.map (mborn M)).toArray c) := H.has _ (List.mem_of_getElem? hj)
  have hin : ∀ k ∈ vis, ∃ y ∈ M, y.1 = k ∧ y.2.2 = mborn M k := fun k hk => by
    have h3 := hv k hk
    rw [← hF.isSome] at h3
    obtain ⟨v, hv'⟩ := Option.isSome_iff_exists.1 h3
    obtain ⟨y, hy, e1, _, e3⟩ := mget_mem hv'
    exact ⟨y, hy, e1, e3⟩
  rcases run_next_at (P := P) w ty r b c c _ _ c hr hb (fun y hy => by
      simp only [List.mem_map] at hy
      obtain ⟨z, hz, rfl⟩ := hy
      exact hM.old z hz) (Nat.le_refl c) with ⟨h0, hrun⟩ | ⟨e, he, w1, hw1, hrun⟩
  · refine o_val (v := .tuple #[.bool false]) (w' := w) ?_ (h1 (fun k hk => ?_) w H)
    · simp only [execOp, hx, Sem.run_bind, hrun, Result.andThen_ok]; rfl
    · rw [← hF.isSome] at hk
      obtain ⟨v, hv'⟩ := Option.isSome_iff_exists.1 hk
      obtain ⟨y, hy, e1, _, e3⟩ := mget_mem hv'
      have hemp := Array.eq_empty_of_size_eq_zero h0
      rw [leftOf, Array.filter_eq_empty_iff] at hemp
      have := hemp (ment kv y) (by simp only [List.mem_toArray]; exact List.mem_map.2 ⟨y, hy, rfl⟩)
      simp only [ment, Bool.not_eq_true, Bool.not_eq_false', List.contains_toArray, List.contains_iff_mem, List.mem_map] at this
      obtain ⟨k', hk', e4⟩ := this
      obtain ⟨z, hz, f1, f3⟩ := hin k' hk'
      have := born_inj hM.born hz hy (by rw [f3, e4])
      rw [← e1, ← this, f1]; exact hk'
  · have hsp : ∃ y ∈ M, e = ment kv y ∧ ∀ k ∈ vis, mborn M k ≠ y.2.2 := by
      rw [leftOf] at he
      simp only [Array.mem_toList_iff, Array.mem_filter, List.mem_toArray, List.mem_map] at he
      obtain ⟨⟨y, hy, rfl⟩, hc⟩ := he
      refine ⟨y, hy, rfl, fun k hk e => ?_⟩
      have : ((vis.map (mborn M)).toArray.contains (ment kv y).born) = true := by
        simp only [List.contains_toArray, List.contains_iff_mem, List.mem_map]
        exact ⟨k, hk, e⟩
      rw [this] at hc; cases hc
    obtain ⟨y, hy, rfl, hny⟩ := hsp
    obtain ⟨g1, g2⟩ := mget_of hM.keys hy
    have hFa : ∃ a, F y.1 = some a ∧ enc a = y.2.1 := by
      have := hF y.1
      rw [g1] at this
      cases hf : F y.1 with
      | none => rw [hf] at this; cases this
      | some a => rw [hf] at this; exact ⟨a, rfl, (Option.some.inj this).symm⟩
    obtain ⟨a, ha, hea⟩ := hFa
    have hH1 : Hp w0 w1 S L := by
      rcases hw1 with rfl | rfl
      · exact H
      · exact H.drew
    have hr1 : w1.heap[r]? = some (.mapIter (some b) c (vis.map (mborn M)).toArray c) := by rcases hw1 with rfl | rfl <;> exact hr
    have hito : (Obj.mapIter (some b) c ((vis.map (mborn M)).toArray.push (ment kv y).born) c) = itO b M c (vis ++ [y.1]) := by
      rw [itO, List.map_append, List.map_cons, List.map_nil, g2]; simp [ment]
    rw [hito] at hrun
    have hset := heap_set (o' := itO b M c (vis ++ [y.1])) hr1
    refine o_val (v := .tuple #[.bool true, kv y.1, enc a]) (w' := ChangeMaps.setBlock w1 r (itO b M c (vis ++ [y.1]))) ?_ (h2 y.1 a ha (fun hk => hny _ hk g2) _ ?_)
    · simp only [execOp, hx, Sem.run_bind, hrun, Result.andThen_ok, hea]; rfl
    · refine hH1.turn hj (c' := .obj r (itO b M c (vis ++ [y.1]))) hset.1 (fun b' hb' => .inl hb') rfl rfl rfl (by simp [ChangeMaps.setBlock]) (fun b' _ hne => ?_)
      exact hset.2 b' (fun e => hne (by rw [e]; rfl))
theorem r_entry {kv : κ → Value} {enc : α → Value} {M : List (κ × Value × Nat)} {F : κ → Option α} {c i j b r : Nat} {vis : List κ} {k : κ} {a : α} (H : Hp w0 w S L) (hi : L[i]? = some (.obj b (mobj kv M c))) (hj : L[j]? = some (.obj r (itO b M c (vis ++ [k]))))
    (hM : MOk M c) (hF : MIs enc M F) (ha : F k = some a) (hx : ev n σ x = .pointer (some ⟨r, 0, none⟩)) :
    (execOp (ev n σ) ⟨some d, .entry x, ty, pos, aft, g⟩).run P w = .ok (.value (.tuple #[kv k, enc a])) w := by
  have hb : w.heap[b]? = some (.map (M.map (ment kv)).toArray c) := H.has _ (List.mem_of_getElem? hi)
  have hr : w.heap[r]? = some (.mapIter (some b) c ((vis ++ [k]).map (mborn M)).toArray c) := H.has _ (List.mem_of_getElem? hj)
  have hg := hF k
  rw [ha] at hg
  obtain ⟨y, hy, e1, e2, e3⟩ := mget_mem hg
  have hrun := run_entry_at (P := P) w r b c ((vis.map (mborn M)).toArray) _ c (ment kv y) (by rw [hr]; simp [ment, e3]) hb (by simp only []; exact List.mem_map.2 ⟨y, hy, rfl⟩) (by
    have := hM.born
    simpa [List.map_map, Function.comp_def, ment] using this)
  simp only [execOp, hx, Sem.run_bind, hrun, Result.andThen_ok, ment, e1, e2]
  rfl
end
theorem nd_le {α : Type} [DecidableEq α] : ∀ {l m : List α}, l.Nodup → (∀ x ∈ l, x ∈ m) → l.length ≤ m.length
  | [], m, _, _ => Nat.zero_le _
  | a :: l, m, hn, hs => by
    rw [List.nodup_cons] at hn
    have h1 := nd_le (l := l) (m := m.erase a) hn.2 (fun x hx => (List.mem_erase_of_ne (fun e => hn.1 (by rw [← e]; exact hx))).2 (hs x (List.mem_cons_of_mem _ hx)))
    have h2 := List.length_erase_of_mem (hs a (List.mem_cons_self ..))
    have h3 := List.length_pos_of_mem (hs a (List.mem_cons_self ..))
    rw [List.length_cons]; omega
theorem vis_le {κ α : Type} [DecidableEq κ] {enc : α → Value} {M : List (κ × Value × Nat)} {F : κ → Option α} (hF : MIs enc M F) {vis : List κ} (hn : vis.Nodup) (hv : ∀ k ∈ vis, (F k).isSome = true) : vis.length ≤ M.length := by
  have := nd_le (m := M.map (·.1)) hn (fun x hx => by
    have h1 := hv x hx
    rw [← hF.isSome] at h1
    obtain ⟨v, h2⟩ := Option.isSome_iff_exists.1 h1
    obtain ⟨y, hy, e, _⟩ := mget_mem h2
    exact List.mem_map.2 ⟨y, hy, e⟩)
  rwa [List.length_map] at this
theorem vis_snoc {κ α : Type} [DecidableEq κ] {F : κ → Option α} {vis : List κ} {k : κ} {a : α} (hn : vis.Nodup) (hv : ∀ k ∈ vis, (F k).isSome = true) (hf : F k = some a) (hk : k ∉ vis) : (vis ++ [k]).Nodup ∧ ∀ j ∈ vis ++ [k], (F j).isSome = true := by
  refine ⟨?_, fun j hj => ?_⟩
  · rw [List.nodup_append]
    refine ⟨hn, by simp, fun x hx y hy e => ?_⟩
    rw [List.mem_singleton] at hy
    exact hk (by rw [← hy, ← e]; exact hx)
  · rcases List.mem_append.1 hj with h | h
    · exact hv j h
    · rw [List.mem_singleton.1 h, hf]; rfl
end Go.Proofs.YtmiabahejnjhiaaGreatDoor
namespace Go.Proofs.YtmiabahejnjhiaaGreatDoor
open Go
/-- C is A, then B at a of b cells, then D. -/
structure Cut3 (C A B D : List Value) (a b : Nat) : Prop where
  e : C = A ++ (B ++ D)
  ha : A.length = a
  hb : B.length = b
section
variable {C A B D V : List Value} {a b : Nat}
theorem Cut3.get {v : Value} (h : Cut3 C A [v] D a 1) : C[a]? = some v := by
  rw [h.e, ← h.ha, List.getElem?_append_right (Nat.le_refl _), Nat.sub_self]; rfl
theorem Cut3.seg (h : Cut3 C A B D a b) : (C.drop a).take b = B := by
  rw [h.e, ← h.ha, ← h.hb, List.drop_left, List.take_left]
theorem Cut3.le (h : Cut3 C A B D a b) : a + b ≤ C.length := by
  rw [h.e, List.length_append, List.length_append, h.ha, h.hb]; omega
theorem Cut3.put (h : Cut3 C A B D a b) : C.take a ++ V ++ C.drop (a + b) = A ++ (V ++ D) := by
  rw [h.e, ← h.ha, ← h.hb, List.take_left, ← List.drop_drop, List.drop_left, List.drop_left, List.append_assoc]
theorem Cut3.set1 {v u : Value} (h : Cut3 C A [v] D a 1) : C.set a u = A ++ ([u] ++ D) := by
  rw [h.e, ← h.ha, List.set_append_right _ _ (Nat.le_refl _), Nat.sub_self]; rfl
theorem fill_step {places : Nat → Option (Nat × Nat)} {k : Nat} {v : Value} {rest : List (Nat × Value)} (hp : places k = some (a, b)) (h : Cut3 C A B D a b) (hv : v.cells.toList = V) (hl : V.length = b) :
    Instr.fill places C.toArray ((k, v) :: rest) = Instr.fill places (A ++ (V ++ D)).toArray rest := by
  have hs : v.cells.size = b := by rw [← hl, ← hv, Array.length_toList]
  have hn : ¬ ((v.cells.size ≠ b || a + v.cells.size > C.toArray.size) = true) := by
    have := h.le
    simp [hs]; omega
  have h2 : ∀ (vs done zs : List Value), zs.length = vs.length → (vs.zipIdx done.length).foldl (fun (acc : Array Value) (p : Value × Nat) => acc.setIfInBounds (A.length + p.2) p.1) (A ++ done ++ zs ++ D).toArray = (A ++ done ++ vs ++ D).toArray := by
    intro vs
    induction vs with
    | nil => intro done zs hz; have : zs = [] := List.length_eq_zero_iff.1 (by simpa using hz); subst this; simp
    | cons v vs ih =>
      intro done zs hz
      cases zs with
      | nil => simp at hz
      | cons z zs =>
        have := ih (done ++ [v]) zs (by simpa using hz)
        simp only [List.length_append, List.length_singleton, List.append_assoc, List.cons_append, List.nil_append] at this
        rw [List.zipIdx_cons, List.foldl_cons]
        simp only [List.append_assoc, List.cons_append]
        rw [← this]
        congr 1
        simp []
  have h3 := h2 V [] B (by rw [hl, h.hb])
  simp only [Instr.fill, hp]
  rw [if_neg hn]
  simp only [List.append_nil, List.length_nil] at h3
  rw [h.ha] at h3
  have e1 : v.cells.zipIdx.foldl (fun (acc : Array Value) (p : Value × Nat) => acc.setIfInBounds (a + p.2) p.1) C.toArray = (A ++ (V ++ D)).toArray := by
    rw [h.e, ← List.append_assoc, ← List.append_assoc, ← h3]
    have : v.cells.zipIdx = (V.zipIdx 0).toArray := by rw [← hv]; simp [← Array.toList_inj]
    rw [this]; simp
  first | exact congrArg (fun z => Instr.fill places z rest) e1 | (rw [← e1])
inductive Fills (places : Nat → Option (Nat × Nat)) : List Value → List (Nat × Value) → List Value → Prop
  | nil (C : List Value) : Fills places C [] C
  | cons {C A B D V E : List Value} {a b k : Nat} {v : Value} {rest : List (Nat × Value)} : places k = some (a, b) → Cut3 C A B D a b → v.cells.toList = V → V.length = b → Fills places (A ++ (V ++ D)) rest E → Fills places C ((k, v) :: rest) E
theorem Fills.run {places : Nat → Option (Nat × Nat)} {C E : List Value} {pv : List (Nat × Value)} (h : Fills places C pv E) : Instr.fill places C.toArray pv = some E.toArray := by
  induction h with
  | nil C => rfl
  | cons hp hc hv hl _ ih => rw [fill_step hp hc hv hl, ih]
end
section
variable {P : Program} {Q : Exit → Act → World → Prop} {n : Nat} {σ : Nat → Value} {w w0 : World} {K : Act → World → Prop}
  {ty : TypeId} {pos : String} {aft : Array Edge} {g : Option (Nat × Bool)} {d : Nat} {t : TypeId} {x y : Operand} {S : List Nat} {L : List Ch} {C A B D : List Value} {a k : Nat}
theorem r_bldG {parts : Array (Nat × Operand)} {zs : Array Value} {places : Nat → Option (Nat × Nat)} {pv : List (Nat × Value)} {Z E : List Value} (hB : Bld P t zs places) (hz : zs = Z.toArray) (hp0 : pvs n σ parts.toList = pv) (hf : Fills places Z pv E) :
    (execOp (ev n σ) ⟨some d, .build t parts, ty, pos, aft, g⟩).run P w = .ok (.value (.agg E.toArray)) w :=
  r_bld' hB hp0 (by rw [hz]; exact hf.run)
/-- a part of a struct that is a value. -/
theorem r_f1 {i : Nat} {v : Value} {fs : Array Field} {f : Field} (hu : P.underlying t = some (.struct fs)) (hf : fs[i]? = some f) (hc : cellTy P f.type = true) (hx : ev n σ x = .agg C.toArray) (h : Cut3 C A [v] D f.offset 1) :
    (execOp (ev n σ) ⟨some d, .field t x i, ty, pos, aft, g⟩).run P w = .ok (.value v) w :=
  r_fld hu hf hc hx (by rw [List.getElem?_toArray]; exact h.get)
/-- a part of a struct in memory. -/
theorem r_l1 {b i : Nat} {v : Value} {T : TypeId} (H : Hp w0 w S L) (hi : L[i]? = some (.blk b C T)) (hx : ev n σ x = .pointer (some ⟨b, a, none⟩)) (ht : cellTy P t = true) (h : Cut3 C A [v] D a 1) :
    (execOp (ev n σ) ⟨some d, .load t x, ty, pos, aft, g⟩).run P w = .ok (.value v) w := r_ld H hi hx ht h.get
theorem r_lk {b i : Nat} {T : TypeId} (H : Hp w0 w S L) (hi : L[i]? = some (.blk b C T)) (hx : ev n σ x = .pointer (some ⟨b, a, none⟩)) (ht : rowTy P t = some k) (h : Cut3 C A B D a k) :
    (execOp (ev n σ) ⟨some d, .load t x, ty, pos, aft, g⟩).run P w = .ok (.value (.agg B.toArray)) w := by
  rw [← h.seg]; exact r_ldr H hi hx ht h.le
theorem o_s1 {b i : Nat} {v u : Value} {T : TypeId} (H : Hp w0 w S L) (hi : L[i]? = some (.blk b C T)) (hx : ev n σ x = .pointer (some ⟨b, a, none⟩)) (hy : ev n σ y = u) (hs : cellSz P t = some 1) (h1 : u.oneCell' = true) (hc : Cut3 C A [v] D a 1)
    (h : ∀ w', Hp w0 w' S (L.set i (.blk b (A ++ ([u] ++ D)) T)) → K (mk n σ) w') : Oper.wp P ⟨none, .store t x y, ty, pos, aft, g⟩ (mk n σ) w K Q := by
  refine o_st H hi hx hy hs h1 (by have := hc.le; omega) fun w' H' => h w' ?_
  rwa [hc.set1] at H'
theorem o_sk {b i : Nat} {V : List Value} {T : TypeId} (H : Hp w0 w S L) (hi : L[i]? = some (.blk b C T)) (hx : ev n σ x = .pointer (some ⟨b, a, none⟩)) (hy : ev n σ y = .agg V.toArray) (hs : cellSz P t = some k) (h1 : V.all (·.oneCell') = true) (hV : V.length = k) (hc : Cut3 C A B D a k)
    (h : ∀ w', Hp w0 w' S (L.set i (.blk b (A ++ (V ++ D)) T)) → K (mk n σ) w') : Oper.wp P ⟨none, .store t x y, ty, pos, aft, g⟩ (mk n σ) w K Q := by
  refine o_sr H hi hx hy (by rw [hs, List.size_toArray, hV]) (by rw [List.all_toArray]; exact h1) (by rw [List.size_toArray, hV]; exact hc.le) fun w' H' => h w' ?_
  rw [List.size_toArray, hV, hc.put] at H'
  exact H'
/-- a part of a struct of a slice. -/
theorem r_g1 {α : Type} {enc : α → List Value} {sz : Nat} {s : Gl α} {b o j : Nat} {c : α} {v : Value} (hs : s.ok enc sz w) (ha : s.a = some ⟨b, o, none⟩) (hx : ev n σ x = .pointer (some ⟨b, o + j * sz + a, none⟩)) (ht : cellTy P t = true) (hk : s.l[j]? = some c) (hoff : a < sz) (h : Cut3 (enc c) A [v] D a 1) :
    (execOp (ev n σ) ⟨some d, .load t x, ty, pos, aft, g⟩).run P w = .ok (.value v) w := r_ldFld hs ha hx ht hk hoff h.get
end
end Go.Proofs.YtmiabahejnjhiaaGreatDoor
namespace Go.Proofs.YtmiabahejnjhiaaGreatDoor
open Go
section
variable {P : Program} {Q : Exit → Act → World → Prop} {n : Nat} {σ : Nat → Value} {w w0 : World} {K : Act → World → Prop}
  {ty : TypeId} {pos : String} {aft : Array Edge} {g : Option (Nat × Bool)} {d : Nat} {t : TypeId} {x y : Operand} {S : List Nat} {L : List Ch} {A B D V : List Value}
theorem flat_split {α : Type} {enc : α → List Value} {sz k : Nat} {c : α} : ∀ {l : List α}, (∀ c ∈ l, (enc c).length = sz) → l[k]? = some c → ∃ R1 R2, l.flatMap enc = R1 ++ (enc c ++ R2) ∧ R1.length = k * sz ∧ ∀ c', (l.set k c').flatMap enc = R1 ++ (enc c' ++ R2) := by
  induction k with
  | zero =>
    intro l hs h
    cases l with
    | nil => cases h
    | cons a l => cases h; exact ⟨[], l.flatMap enc, by simp, by simp, fun c' => by simp⟩
  | succ k ih =>
    intro l hs h
    cases l with
    | nil => cases h
    | cons a l =>
      obtain ⟨R1, R2, h1, h2, h3⟩ := ih (l := l) (fun c hc => hs c (List.mem_cons_of_mem _ hc)) h
      refine ⟨enc a ++ R1, R2, by rw [List.flatMap_cons, h1, List.append_assoc], by rw [List.length_append, h2, hs a (List.mem_cons_self ..), Nat.succ_mul]; omega, fun c' => by rw [List.set_cons_succ, List.flatMap_cons, h3 c', List.append_assoc]⟩
theorem o_stGV {α : Type} {enc : α → List Value} {b o k i off m : Nat} {a : Option Nat} {len cap sz : Nat} {l : List α} {T : TypeId} {c : α} (c' : α) {v : Value} (H : Hp w0 w S L) (hi : L[i]? = some (.own a len cap (l.flatMap enc) T sz)) (hsz : ∀ c ∈ l, (enc c).length = sz)
    (hx : ev n σ x = .pointer (some ⟨b, o + k * sz + off, none⟩)) (ha : hd a = some ⟨b, o, none⟩) (hy : ev n σ y = v) (hv : v.cells.toList = V) (hs : cellSz P t = some m) (hm : V.length = m) (h1 : V.all (·.oneCell') = true) (hk : l[k]? = some c)
    (hc : Cut3 (enc c) A B D off m) (hc' : enc c' = A ++ (V ++ D))
    (h : ∀ w', Hp w0 w' S (L.set i (.own a len cap ((l.set k c').flatMap enc) T sz)) → K (mk n σ) w') : Oper.wp P ⟨none, .store t x y, ty, pos, aft, g⟩ (mk n σ) w K Q := by
  cases a with
  | none => cases ha
  | some b' =>
    simp only [hd, Option.map_some, Option.some.injEq, Addr.mk.injEq, and_true] at ha
    obtain ⟨rfl, rfl⟩ := ha
    obtain ⟨q1, q2, q3, rest, hw, q5⟩ := H.has _ (List.mem_of_getElem? hi)
    obtain ⟨R1, R2, e1, e2, e3⟩ := flat_split hsz hk
    have hvs : v.cells.size = m := by rw [← hm, ← hv, Array.length_toList]
    have hcut : Cut3 (l.flatMap enc ++ rest) (R1 ++ A) B (D ++ (R2 ++ rest)) (0 + k * sz + off) m := by
      refine ⟨?_, ?_, hc.hb⟩
      · rw [e1, hc.e]; simp only [List.append_assoc]
      · rw [List.length_append, e2, hc.ha]; omega
    have hr := run_storeAt_row (P := P) (t := t) (v := v) hw (o := 0 + k * sz + off) (by rw [hvs]; exact hs) (by rw [hvs]; exact hcut.le) (by rw [← hv, List.all_eq_true] at h1; rw [Array.all_eq_true']; intro z hz; exact h1 z (by simpa using hz))
    have e : (l.flatMap enc ++ rest).take (0 + k * sz + off) ++ v.cells.toList ++ (l.flatMap enc ++ rest).drop (0 + k * sz + off + v.cells.size) = (l.set k c').flatMap enc ++ rest := by
      rw [hvs, hv, hcut.put, e3 c', hc']
      simp only [List.append_assoc]
    rw [e] at hr
    simp only [Nat.zero_add] at hr hx
    have hl2 : ((l.set k c').flatMap enc).length = (l.flatMap enc).length := by
      rw [e3 c', e1, hc', hc.e]
      simp only [List.length_append, hm, hc.hb]
    refine o_skip (w' := w.setRow b' ((l.set k c').flatMap enc ++ rest).toArray) (by simp [execOp, hx, hy, hr]) (h _ ?_); exact H.row hi rfl rfl hw fun w' hw' => ⟨by rw [hl2]; exact q1, q2, q3, rest, hw', by rw [List.length_append, hl2, ← List.length_append]; exact q5⟩
end
end Go.Proofs.YtmiabahejnjhiaaGreatDoor
namespace Go.Proofs.YtmiabahejnjhiaaGreatDoor
open Go Go.MapKept
theorem Hp.permT {w0 w : World} {S : List Nat} {L L' T : List Ch} (h : Hp w0 w S (L ++ T)) (hp : L.Perm L') : Hp w0 w S (L' ++ T) := h.permL (hp.append_right T)
theorem Hp.callT {w0 w w' : World} {S : List Nat} {L L1 Lr L1' L' T T' : List Ch} (h : Hp w0 w S (L ++ T)) (hp : L.Perm (L1 ++ Lr)) (hc : Hp w w' (keys (L1 ++ T)) (L1' ++ T')) (hq : (Lr ++ L1').Perm L') : Hp w0 w' S (L' ++ T') := by
  have h1 := (h.permT hp).permL (L' := (L1 ++ T) ++ Lr) (by
    rw [List.append_assoc, List.append_assoc]
    exact List.Perm.append_left _ List.perm_append_comm)
  have h2 := h1.callG rfl hc
  rw [← List.append_assoc] at h2
  exact h2.permT hq
section
variable {P : Program} {Q : Exit → Act → World → Prop} {n : Nat} {σ : Nat → Value} {w w0 : World} {K : Act → World → Prop}
  {ty : TypeId} {pos : String} {aft : Array Edge} {g : Option (Nat × Bool)} {d : Nat} {t kt et : TypeId} {x y : Operand} {S : List Nat} {L : List Ch}
/-- a slice compared with nil. -/
theorem r_slnil {a : Option Addr} {l c : Nat} {e yt : TypeId} (hu : P.underlying t = some (.slice e)) (_hg : P.eqGuardType P.depth t = false) (hx : ev n σ x = .slice a l c) (hy : ev n σ y = .slice none 0 0) :
    (execOp (ev n σ) ⟨some d, .binOp .eql t x y yt, ty, pos, aft, g⟩).run P w = .ok (.value (.bool a.isNone)) w := by
  have e3 : (eqGuard .eql t x y (.slice a l c) (.slice none 0 0)).run P w = .ok () w := by simp [eqGuard]
  have e4 : (binOp .eql t (.slice a l c) (.slice none 0 0)).run P w = .ok (.bool a.isNone) w := by
    simp [binOp, run_equal_slice_nil w t e a l c hu]
  simp [execOp, hx, hy, e3, e4]
end
end Go.Proofs.YtmiabahejnjhiaaGreatDoor
namespace Go.Proofs.YtmiabahejnjhiaaGreatDoor
open Go
theorem Hp.slMid {w0 w : World} {S : List Nat} {L : List Ch} (H : Hp w0 w S L) {i b o k : Nat} {C A D : List Value} {l : List UInt8} {T : TypeId} (hi : L[i]? = some (.blk b C T)) (hc : Cut3 C A (l.map V8) D o k) (hm : k ≤ 9223372036854775807) : (⟨some ⟨b, o, none⟩, k, k, l⟩ : Sl).ok w := by
  have h := (Ch.rd_blk (H.has _ (List.mem_of_getElem? hi)) o).take k
  have e : (C.drop o).take k = l.map V8 := by rw [hc.e, ← hc.ha, List.drop_left, ← hc.hb, List.take_left]
  rw [e] at h
  exact ⟨h, by have := hc.hb; simpa using this, Nat.le_refl _, hm⟩
end Go.Proofs.YtmiabahejnjhiaaGreatDoor
namespace Go.Proofs.YtmiabahejnjhiaaGreatDoor
open Go
/-- C and C' are the same but for a part at a of n cells: B, and V. -/
structure Put3 (C C' B V : List Value) (a n : Nat) : Prop where
  ex : ∃ A D, C = A ++ (B ++ D) ∧ C' = A ++ (V ++ D) ∧ A.length = a ∧ B.length = n ∧ V.length = n
theorem Cut3.comp {C A B D A' B' D' : List Value} {a n a' n' : Nat} (h : Cut3 C A B D a n) (h' : Cut3 B A' B' D' a' n') : Cut3 C (A ++ A') B' (D' ++ D) (a + a') n' :=
  ⟨by rw [h.e, h'.e]; simp only [List.append_assoc], by rw [List.length_append, h.ha, h'.ha], h'.hb⟩
theorem Put3.of {C C' A B D V : List Value} {a n : Nat} (h : Cut3 C A B D a n) (h' : C' = A ++ (V ++ D)) (hv : V.length = n) : Put3 C C' B V a n := ⟨A, D, h.e, h', h.ha, h.hb, hv⟩
theorem Fills.consP {places : Nat → Option (Nat × Nat)} {C C' B V E : List Value} {a n k : Nat} {v : Value} {rest : List (Nat × Value)} (hp : places k = some (a, n)) (h : Put3 C C' B V a n) (hv : v.cells.toList = V) (hr : Fills places C' rest E) : Fills places C ((k, v) :: rest) E := by
  obtain ⟨A, D, e1, e2, l1, l2, l3⟩ := h.ex
  exact .cons hp ⟨e1, l1, l2⟩ hv l3 (e2 ▸ hr)
section
variable {P : Program} {Q : Exit → Act → World → Prop} {n : Nat} {σ : Nat → Value} {w w0 : World} {K : Act → World → Prop}
  {ty : TypeId} {pos : String} {aft : Array Edge} {g : Option (Nat × Bool)} {d : Nat} {t : TypeId} {x y : Operand} {S : List Nat} {L : List Ch} {C C' B V : List Value} {a k : Nat}
theorem o_s1P {b i : Nat} {v u : Value} {T : TypeId} (H : Hp w0 w S L) (hi : L[i]? = some (.blk b C T)) (hx : ev n σ x = .pointer (some ⟨b, a, none⟩)) (hy : ev n σ y = u) (hs : cellSz P t = some 1) (h1 : u.oneCell' = true) (hp : Put3 C C' [v] [u] a 1)
    (h : ∀ w', Hp w0 w' S (L.set i (.blk b C' T)) → K (mk n σ) w') : Oper.wp P ⟨none, .store t x y, ty, pos, aft, g⟩ (mk n σ) w K Q := by
  obtain ⟨A, D, e1, e2, l1, l2, _⟩ := hp.ex
  exact o_s1 H hi hx hy hs h1 ⟨e1, l1, l2⟩ fun w' H' => h w' (by rw [e2]; exact H')
theorem o_skP {b i : Nat} {T : TypeId} (H : Hp w0 w S L) (hi : L[i]? = some (.blk b C T)) (hx : ev n σ x = .pointer (some ⟨b, a, none⟩)) (hy : ev n σ y = .agg V.toArray) (hs : cellSz P t = some k) (h1 : V.all (·.oneCell') = true) (hp : Put3 C C' B V a k)
    (h : ∀ w', Hp w0 w' S (L.set i (.blk b C' T)) → K (mk n σ) w') : Oper.wp P ⟨none, .store t x y, ty, pos, aft, g⟩ (mk n σ) w K Q := by
  obtain ⟨A, D, e1, e2, l1, l2, l3⟩ := hp.ex
  exact o_sk H hi hx hy hs h1 l3 ⟨e1, l1, l2⟩ fun w' H' => h w' (by rw [e2]; exact H')
theorem o_stGVP {α : Type} {enc : α → List Value} {b o k i off m : Nat} {a : Option Nat} {len cap sz : Nat} {l : List α} {T : TypeId} {c c' : α} {v : Value} (H : Hp w0 w S L) (hi : L[i]? = some (.own a len cap (l.flatMap enc) T sz)) (hsz : ∀ c ∈ l, (enc c).length = sz)
    (hx : ev n σ x = .pointer (some ⟨b, o + k * sz + off, none⟩)) (ha : hd a = some ⟨b, o, none⟩) (hy : ev n σ y = v) (hv : v.cells.toList = V) (hs : cellSz P t = some m) (h1 : V.all (·.oneCell') = true) (hk : l[k]? = some c)
    (hp : Put3 (enc c) (enc c') B V off m)
    (h : ∀ w', Hp w0 w' S (L.set i (.own a len cap ((l.set k c').flatMap enc) T sz)) → K (mk n σ) w') : Oper.wp P ⟨none, .store t x y, ty, pos, aft, g⟩ (mk n σ) w K Q := by
  obtain ⟨A, D, e1, e2, l1, l2, l3⟩ := hp.ex
  exact o_stGV c' H hi hsz hx ha hy hv hs l3 h1 hk ⟨e1, l1, l2⟩ e2 h
end
end Go.Proofs.YtmiabahejnjhiaaGreatDoor
namespace Go.Proofs.YtmiabahejnjhiaaGreatDoor
open Go
def W64 (x : UInt32) : Value := V64 x.toUInt64
def turnN (x : Nat) : Nat → Nat
  | 0 => x
  | i + 1 => turnN x i / 2 + turnN x i % 2 * 2147483648
theorem turnN_eq (x : Nat) : ∀ i, i ≤ 31 → turnN x i = x / 2 ^ i + (x % 2 ^ i) * 2 ^ (32 - i)
  | 0, _ => by simp [turnN, Nat.mod_one]
  | i + 1, h => by
    have ih := turnN_eq x i oM
    have e1 : 2 ^ (32 - i) = 2 * 2 ^ (31 - i) := by
      rw [show 32 - i = (31 - i) + 1 by omega, Nat.pow_succ, Nat.mul_comm]
    have e2 : 2 ^ (32 - (i + 1)) = 2 ^ (31 - i) := by rw [show 32 - (i + 1) = 31 - i by omega]
    have e3 : x % 2 ^ (i + 1) = x % 2 ^ i + (x / 2 ^ i % 2) * 2 ^ i := by
      rw [Nat.pow_succ, Nat.mod_mul]; rw [Nat.mul_comm]
    have e4 : 2 ^ i * 2 ^ (31 - i) = 2147483648 := by
      rw [← Nat.pow_add, show i + (31 - i) = 31 by omega]
    have e5 : x / 2 ^ (i + 1) = x / 2 ^ i / 2 := by rw [Nat.pow_succ, Nat.div_div_eq_div_mul]
    rw [turnN, ih, e1, e2, e3, e5]
    generalize x / 2 ^ i = q at *
    generalize x % 2 ^ i = r at *
    generalize 2 ^ (31 - i) = p at *
    have e6 : r * (2 * p) = 2 * (r * p) := by rw [Nat.mul_left_comm]
    have e7 : (r + q % 2 * 2 ^ i) * p = r * p + q % 2 * 2147483648 := by
      rw [Nat.add_mul, Nat.mul_assoc, e4]
    rw [e6, e7]
    omega
theorem turnN_lt (x : Nat) (hx : x < 4294967296) : ∀ i, turnN x i < 4294967296
  | 0 => hx
  | i + 1 => by have := turnN_lt x hx i; rw [turnN]; omega
def turn64 (x : UInt64) : Nat → UInt64
  | 0 => x
  | i + 1 => turn64 x i / 2 + turn64 x i % 2 * 2147483648
theorem turn64_nat (x : UInt32) : ∀ i, (turn64 x.toUInt64 i).toNat = turnN x.toNat i
  | 0 => by simp [turn64, turnN]
  | i + 1 => by
    have ih := turn64_nat x i
    have hl := turnN_lt x.toNat x.toNat_lt i
    rw [turn64, turnN, UInt64.toNat_add, UInt64.toNat_mul, UInt64.toNat_div, UInt64.toNat_mod, ih]
    have e2 : (2 : UInt64).toNat = 2 := rfl
    have e3 : (2147483648 : UInt64).toNat = 2147483648 := rfl
    rw [e2, e3]
    omega
theorem rotl_nat (x : UInt32) (n : Nat) (h0 : 0 < n) (h : n < 32) : (rotl x (32 - n)).toNat = turnN x.toNat n := by
  rw [turnN_eq _ n oM, rotl, UInt32.toNat_or, UInt32.toNat_shiftLeft, UInt32.toNat_shiftRight]
  have e1 : (UInt32.ofNat (32 - n)).toNat % 32 = 32 - n := by rw [UInt32.toNat_ofNat']; omega
  have e2 : (UInt32.ofNat (32 - (32 - n))).toNat % 32 = n := by rw [UInt32.toNat_ofNat']; omega
  rw [e1, e2, Nat.shiftRight_eq_div_pow, Nat.shiftLeft_eq]
  have hx := x.toNat_lt
  have e3 : x.toNat * 2 ^ (32 - n) % 2 ^ 32 = (x.toNat % 2 ^ n) * 2 ^ (32 - n) := by
    have : 2 ^ 32 = 2 ^ n * 2 ^ (32 - n) := by rw [← Nat.pow_add]; congr 1; omega
    rw [this, Nat.mul_mod_mul_right]
  rw [e3, Nat.add_comm, ← Nat.shiftLeft_eq]
  refine (Nat.shiftLeft_add_eq_or_of_lt ?_ _).symm; have : 2 ^ 32 = 2 ^ (32 - n) * 2 ^ n := by rw [← Nat.pow_add]; congr 1; omega
  exact Nat.div_lt_of_lt_mul (by rw [Nat.mul_comm, ← this]; exact hx)
theorem turn64_eq (x : UInt32) (n : Nat) (h0 : 0 < n) (h : n < 32) : turn64 x.toUInt64 n = (rotl x (32 - n)).toUInt64 := by
  apply UInt64.toNat_inj.1
  rw [turn64_nat, UInt32.toNat_toUInt64, rotl_nat x n h0 h]
def down64 (x : UInt64) : Nat → UInt64
  | 0 => x
  | i + 1 => down64 x i / 2
theorem down64_nat (x : UInt64) : ∀ i, (down64 x i).toNat = x.toNat / 2 ^ i
  | 0 => by simp [down64]
  | i + 1 => by
    rw [down64, UInt64.toNat_div, down64_nat x i, Nat.pow_succ, Nat.div_div_eq_div_mul]; rfl
theorem down64_eq (x : UInt32) (n : Nat) (h : n < 32) : down64 x.toUInt64 n = (x >>> UInt32.ofNat n).toUInt64 := by
  apply UInt64.toNat_inj.1
  rw [down64_nat, UInt32.toNat_toUInt64, UInt32.toNat_toUInt64, UInt32.toNat_shiftRight, Nat.shiftRight_eq_div_pow]
  have e1 : (UInt32.ofNat n).toNat % 32 = n := by rw [UInt32.toNat_ofNat']; omega
  rw [e1]
theorem and_all (x : UInt64) : x &&& 4294967295 = x.toUInt32.toUInt64 := by
  apply UInt64.toNat_inj.1
  rw [UInt64.toNat_and, UInt32.toNat_toUInt64, UInt64.toNat_toUInt32]
  have : (4294967295 : UInt64).toNat = 2 ^ 32 - 1 := rfl
  rw [this, Nat.and_two_pow_sub_one_eq_mod]
section
variable {P : Program} {t : TypeId} {w : World}
theorem b_quo_u64 {x y : UInt64} (h : y.toNat ≠ 0) : (binOp .quo t (V64 x) (V64 y)).run P w = .ok (V64 (x / y)) w := by
  have hx := u64_lt x
  have h2 : (y.toNat : Int) ≠ 0 := by omega
  have e1 : (x.toNat : Int) / (y.toNat : Int) = ((x.toNat / y.toNat : Nat) : Int) := by simp
  have h3 := Nat.div_le_self x.toNat y.toNat
  have e : IntKind.u64.wrap ((x.toNat : Int) / (y.toNat : Int)) = ((x / y).toNat : Int) := by
    rw [wrap_u64, UInt64.toNat_div, e1]
    generalize x.toNat / y.toNat = q at h3
    omega
  simp [binOp, Op.intDiv, h, e, Int.tdiv_eq_ediv_of_nonneg (show (0 : Int) ≤ (x.toNat : Int) by omega)]
theorem b_rem_u64 {x y : UInt64} (h : y.toNat ≠ 0) : (binOp .rem t (V64 x) (V64 y)).run P w = .ok (V64 (x % y)) w := by
  have e := b_rem (P := P) (t := t) (w := w) (k := .u64) (a := (x.toNat : Int)) (b := (y.toNat : Int)) oM oM
  rw [show V64 (x % y) = .int .u64 ((x.toNat : Int) % (y.toNat : Int)) by rw [V64, UInt64.toNat_mod]; simp]
  exact e
end
end Go.Proofs.YtmiabahejnjhiaaGreatDoor
namespace Go.Proofs.YtmiabahejnjhiaaGreatDoor
open Go
set_option maxRecDepth 100000
theorem turn_ret (w : World) (x : UInt64) (n : Nat) (hn : n ≤ 64) : Ret Tryz.prog 167 [V64 x, VI n] w fun v w' => v = V64 (turn64 x n) ∧ w' = w := by
  refine ret_mk Tryz.func167 rfl Tryz.ntmps167 (by simp) ?_
  refine rG ?_; refine l_op (o_as ?_); refine eN ?_
  refine rG ?_; refine l_op (o_as ?_); refine eN ?_
  refine qB ?_; refine c_loop (ι := Nat) (fun i => [(5, VI i), (0, V64 (turn64 x i)), (1, VI n)]) (fun i w' => i ≤ n ∧ w' = w) (fun i => n - i) 0 ⟨rfl, rfl, rfl, trivial⟩ ⟨by omega, rfl⟩ ?_; rintro i τ w' ⟨hi, hw⟩
  rw [hw]; clear hw w'
  refine rG ?_; refine l_op (o_mv ?_); refine l_op (o_mv ?_); refine l_op (o_bin rfl rfl (fun _ => b_lss) ?_); refine eN ?_
  repeat refine c_seq ?_
  refine c_ifD rfl (fun hlt => ?_) (fun hlt => ?_)
  · have hlt' : i < n := by omega
    refine c_skip ?_; refine qB ?_; refine rG ?_; refine l_op (o_mv ?_); refine l_op (o_bin rfl (c64 2 (by decide)) (fun _ => b_quo_u64 (by decide)) ?_); refine l_op (o_mv ?_); refine l_op (o_bin rfl (c64 2 (by decide)) (fun _ => b_rem_u64 (by decide)) ?_); refine l_op (o_bin rfl (c64 2147483648 (by decide)) (fun _ => b_mul_u64) ?_); refine l_op (o_bin rfl rfl (fun _ => b_add_u64) ?_); refine l_op (o_as ?_); refine eN ?_
    refine rG ?_; refine l_op (o_mv ?_); refine l_op (o_bin rfl rfl (fun _ => b_add oM oM) ?_); refine l_op (o_as ?_); refine eN ?_
    refine round_end (i + 1) ?_ ?_ ?_
    · exact ⟨rfl, rfl, rfl, trivial⟩
    · exact ⟨hlt', rfl⟩
    · show n - (i + 1) < n - i; omega
  · have hi' : i = n := by omega
    subst hi'
    refine c_exit ?_; refine rG ?_; refine l_op (o_mv ?_); refine l_op (o_as ?_); refine eN ?_
    exact c_ret (e_ret1 Tryz.results167 rfl ⟨_, rfl, rfl, rfl⟩)
theorem down_ret (w : World) (x : UInt64) (n : Nat) (hn : n ≤ 64) : Ret Tryz.prog 168 [V64 x, VI n] w fun v w' => v = V64 (down64 x n) ∧ w' = w := by
  refine ret_mk Tryz.func168 rfl Tryz.ntmps168 (by simp) ?_
  refine rG ?_; refine l_op (o_as ?_); refine eN ?_
  refine rG ?_; refine l_op (o_as ?_); refine eN ?_
  refine qB ?_; refine c_loop (ι := Nat) (fun i => [(5, VI i), (0, V64 (down64 x i)), (1, VI n)]) (fun i w' => i ≤ n ∧ w' = w) (fun i => n - i) 0 ⟨rfl, rfl, rfl, trivial⟩ ⟨by omega, rfl⟩ ?_; rintro i τ w' ⟨hi, hw⟩
  rw [hw]; clear hw w'
  refine rG ?_; refine l_op (o_mv ?_); refine l_op (o_mv ?_); refine l_op (o_bin rfl rfl (fun _ => b_lss) ?_); refine eN ?_
  repeat refine c_seq ?_
  refine c_ifD rfl (fun hlt => ?_) (fun hlt => ?_)
  · have hlt' : i < n := by omega
    refine c_skip ?_; refine qB ?_; refine rG ?_; refine l_op (o_mv ?_); refine l_op (o_bin rfl (c64 2 (by decide)) (fun _ => b_quo_u64 (by decide)) ?_); refine l_op (o_as ?_); refine eN ?_
    refine rG ?_; refine l_op (o_mv ?_); refine l_op (o_bin rfl rfl (fun _ => b_add oM oM) ?_); refine l_op (o_as ?_); refine eN ?_
    refine round_end (i + 1) ?_ ?_ ?_
    · exact ⟨rfl, rfl, rfl, trivial⟩
    · exact ⟨hlt', rfl⟩
    · show n - (i + 1) < n - i; omega
  · have hi' : i = n := by omega
    subst hi'
    refine c_exit ?_; refine rG ?_; refine l_op (o_mv ?_); refine l_op (o_as ?_); refine eN ?_
    exact c_ret (e_ret1 Tryz.results168 rfl ⟨_, rfl, rfl, rfl⟩)
theorem keys_ret (w0 : World) : Ret Tryz.prog 146 [] w0 fun v w' => v = .agg (primeWords.map W64).toArray ∧ Hp w0 w' [] [] := by
  refine ret_mk Tryz.func146 rfl Tryz.ntmps146 (by simp) ?_
  have H := Hp.refl w0 []
  refine rG ?_; refine l_op (o_alloc H zc209 (fun b0 w H hb0 => ?_)); refine eN ?_
  refine rG ?_; refine l_op (o_bld' (cells := (primeWords.map W64).toArray) bd209 rfl (by kernel_rfl) ?_); refine l_op (o_stw H (i := 0) rfl rfl rfl (by rw [cs209]; rfl) (by kernel_rfl) (by rfl) (fun w H => ?_)); refine eN ?_
  refine c_ret (e_retc Tryz.results146 H (i := 0) rfl rfl rt209 (by rfl) ⟨_, rfl, rfl, ?_⟩); exact H.sub (List.nil_sublist _)
end Go.Proofs.YtmiabahejnjhiaaGreatDoor
namespace Go.Proofs.YtmiabahejnjhiaaGreatDoor
open Go
set_option maxRecDepth 100000
def padW (l : List UInt32) : List Value := l.map W64 ++ List.replicate (64 - l.length) (W64 0)
theorem padW_length (l : List UInt32) (h : l.length ≤ 64) : (padW l).length = 64 := by simp [padW]; omega
theorem padW_get (l : List UInt32) (j : Nat) (h : j < l.length) : (padW l)[j]? = some (W64 (l.getD j 0)) := by
  rw [padW, List.getElem?_append_left (by simpa using h)]
  simp [h]
theorem padW_set (l : List UInt32) (v : UInt32) (h : l.length < 64) : (padW l).set l.length (W64 v) = padW (l ++ [v]) := by
  unfold padW
  rw [List.set_append_right _ _ (by simp)]
  have : 64 - l.length = (64 - (l ++ [v]).length) + 1 := by simp; omega
  rw [this, List.replicate_succ]
  simp
theorem turnW_ret (w : World) (x : UInt32) (n : Nat) (h0 : 0 < n) (h : n < 32) : Ret Tryz.prog 167 [W64 x, VI n] w fun v w' => v = W64 (rotl x (32 - n)) ∧ w' = w :=
  (turn_ret w x.toUInt64 n oM).mono fun v w' ⟨hv, hw⟩ => ⟨by rw [hv, turn64_eq x n h0 h]; rfl, hw⟩
theorem downW_ret (w : World) (x : UInt32) (n : Nat) (h : n < 32) : Ret Tryz.prog 168 [W64 x, VI n] w fun v w' => v = W64 (x >>> UInt32.ofNat n) ∧ w' = w :=
  (down_ret w x.toUInt64 n oM).mono fun v w' ⟨hv, hw⟩ => ⟨by rw [hv, down64_eq x n h]; rfl, hw⟩
section
variable {P : Program} {t : TypeId} {w : World}
theorem b_xorW {x y : UInt32} : (binOp .xor t (W64 x) (W64 y)).run P w = .ok (W64 (x ^^^ y)) w := by
  have := b_xor_u64 (P := P) (t := t) (w := w) (x := x.toUInt64) (y := y.toUInt64)
  rw [W64, W64, this, W64, UInt32.toUInt64_xor]
theorem b_andW {x y : UInt32} : (binOp .and t (W64 x) (W64 y)).run P w = .ok (W64 (x &&& y)) w := by
  have := b_and_u64 (P := P) (t := t) (w := w) (x := x.toUInt64) (y := y.toUInt64)
  rw [W64, W64, this, W64, UInt32.toUInt64_and]
theorem b_notW {x : UInt32} : (binOp .sub t (V64 4294967295) (W64 x)).run P w = .ok (W64 (~~~ x)) w := by
  have := b_sub_u64 (P := P) (t := t) (w := w) (x := 4294967295) (y := x.toUInt64)
  have e : (4294967295 : UInt64) - x.toUInt64 = (~~~ x).toUInt64 := by
    apply UInt64.toNat_inj.1
    have hx := x.toNat_lt
    rw [UInt64.toNat_sub, UInt32.toNat_toUInt64, UInt32.toNat_toUInt64, UInt32.toNat_not]
    have : (4294967295 : UInt64).toNat = 4294967295 := rfl
    rw [this]
    have : UInt32.size = 4294967296 := rfl
    omega
  rw [W64, this, W64, e]
theorem b_maskW {u : UInt64} (x : UInt32) (h : u.toUInt32 = x) : (binOp .and t (V64 u) (V64 4294967295)).run P w = .ok (W64 x) w := by
  have := b_and_u64 (P := P) (t := t) (w := w) (x := u) (y := 4294967295)
  rw [this, and_all, h, W64]
end
theorem all_W64 (l : List UInt32) : (l.map W64).toArray.all (·.oneCell') = true := by
  rw [List.all_toArray]; simp [Value.oneCell', W64]
theorem red (x : UInt32) : x.toUInt64.toUInt32 = x := UInt32.toUInt32_toUInt64 x
attribute [local irreducible] rnds
set_option maxHeartbeats 4000000 in
theorem block_ret (w0 : World) (st : S8) (bs : List UInt8) : Ret Tryz.prog 147 [.agg (st.l.map W64).toArray, .agg (padW (firsts bs 16)).toArray, .agg (primeWords.map W64).toArray] w0 fun v w' => v = .agg ((comp st bs).l.map W64).toArray ∧ Hp w0 w' [] [] := by
  refine ret_mk Tryz.func147 rfl Tryz.ntmps147 (by simp) ?_
  have H := Hp.refl w0 []
  refine rG ?_; refine l_op (o_box H rfl (fun b3 w H hb3 => ?_)); refine l_op (o_box H rfl (fun b4 w H hb4 => ?_)); refine l_op (o_box H rfl (fun b5 w H hb5 => ?_)); refine l_op (o_alloc H zc211 (fun b6 w H hb6 => ?_)); refine eN ?_
  replace H : Hp w0 w [] [.blk b3 (st.l.map W64) 211, .blk b4 (padW (sched bs 0)) 209, .blk b5 (primeWords.map W64) 209, .blk b6 (List.replicate 8 (Value.int .u64 0)) 211] := H
  refine rG ?_; refine l_op (o_as ?_); refine eN ?_
  refine qB ?_; refine c_loop (ι := Nat) (fun k => [(7, VI ((16 + k : Nat) : Int)), (3, .pointer (some ⟨b3, 0, none⟩)), (4, .pointer (some ⟨b4, 0, none⟩)), (5, .pointer (some ⟨b5, 0, none⟩)), (6, .pointer (some ⟨b6, 0, none⟩))])
    (fun k w => k ≤ 48 ∧ Hp w0 w [] [.blk b3 (st.l.map W64) 211, .blk b4 (padW (sched bs k)) 209, .blk b5 (primeWords.map W64) 209, .blk b6 (List.replicate 8 (Value.int .u64 0)) 211])
    (fun k => 48 - k) 0 ⟨rfl, rfl, rfl, rfl, rfl, trivial⟩ ⟨by omega, H⟩ ?_
  clear H
  rintro k τ w ⟨hk, H⟩
  have hsl := sched_length bs k
  refine rG ?_; refine l_op (o_mv ?_); refine l_op (o_bin rfl rfl (fun _ => b_lss) ?_); refine eN ?_
  repeat refine c_seq ?_
  refine c_ifD rfl (fun hlt => ?_) (fun hlt => ?_)
  · have hlt' : k < 48 := by omega
    have hg : ∀ j, j < 16 + k → (padW (sched bs k))[j]? = some (W64 ((sched bs k).getD j 0)) := fun j hj => padW_get _ _ oM
    have x0 : 0 + (((16 + k : Nat) : Int) - 16).toNat * 1 = 16 + k - 16 := by omega
    have x1 : 0 + (((16 + k : Nat) : Int) - 15).toNat * 1 = 16 + k - 15 := by omega
    have x2 : 0 + (((16 + k : Nat) : Int) - 2).toNat * 1 = 16 + k - 2 := by omega
    have x3 : 0 + (((16 + k : Nat) : Int) - 7).toNat * 1 = 16 + k - 7 := by omega
    generalize hA : (sched bs k).getD (16 + k - 16) 0 = xa
    generalize hB : (sched bs k).getD (16 + k - 15) 0 = xb
    generalize hC : (sched bs k).getD (16 + k - 2) 0 = xc
    generalize hD : (sched bs k).getD (16 + k - 7) 0 = xd
    have hnx : nextWord (sched bs k) = ((xa + sg0 xb) + xd) + sg1 xc := by rw [nextWord, hsl, hA, hB, hC, hD]
    refine c_skip ?_; refine qB ?_; repeat refine c_seq ?_
    refine c_still mixed (by kernel_rfl) ?_; replace H := H.drew
    refine s_op (r_mv) ?_; refine s_op (r_bin rfl rfl (fun _ => b_sub oM oM)) ?_; refine s_op (r_ia rfl rfl ar209 oM oM) ?_; refine s_op (r_ld H (v := W64 xb) (i := 1) rfl rfl ct25 (by rw [x1, hg _ oM, hB])) ?_; refine s_op (r_mv) ?_; refine s_op (r_bin rfl rfl (fun _ => b_sub oM oM)) ?_; refine s_op (r_ia rfl rfl ar209 oM oM) ?_; refine s_op (r_ld H (v := W64 xc) (i := 1) rfl rfl ct25 (by rw [x2, hg _ oM, hC])) ?_; refine s_op (r_as) ?_; refine s_op (r_as) ?_; refine s_nil ?_; refine rG ?_; refine l_op (o_mv ?_); refine l_op (o_callR Tryz.func167 rfl rfl rfl (turnW_ret _ _ 7 (by decide) (by decide)) ?_); rintro _ w' ⟨rfl, hw⟩
    rw [hw]; clear hw w'
    refine l_op (o_mv ?_); refine l_op (o_callR Tryz.func167 rfl rfl rfl (turnW_ret _ _ 18 (by decide) (by decide)) ?_); rintro _ w' ⟨rfl, hw⟩
    rw [hw]; clear hw w'
    refine l_op (o_bin rfl rfl (fun _ => b_xorW) ?_); refine l_op (o_mv ?_); refine l_op (o_callR Tryz.func168 rfl rfl rfl (downW_ret _ _ 3 (by decide)) ?_); rintro _ w' ⟨rfl, hw⟩
    rw [hw]; clear hw w'
    refine l_op (o_bin (v := W64 (sg0 xb)) rfl rfl (fun _ => b_xorW) ?_); refine l_op (o_as ?_); refine eN ?_
    refine rG ?_; refine l_op (o_mv ?_); refine l_op (o_callR Tryz.func167 rfl rfl rfl (turnW_ret _ _ 17 (by decide) (by decide)) ?_); rintro _ w' ⟨rfl, hw⟩
    rw [hw]; clear hw w'
    refine l_op (o_mv ?_); refine l_op (o_callR Tryz.func167 rfl rfl rfl (turnW_ret _ _ 19 (by decide) (by decide)) ?_); rintro _ w' ⟨rfl, hw⟩
    rw [hw]; clear hw w'
    refine l_op (o_bin rfl rfl (fun _ => b_xorW) ?_); refine l_op (o_mv ?_); refine l_op (o_callR Tryz.func168 rfl rfl rfl (downW_ret _ _ 10 (by decide)) ?_); rintro _ w' ⟨rfl, hw⟩
    rw [hw]; clear hw w'
    refine l_op (o_bin (v := W64 (sg1 xc)) rfl rfl (fun _ => b_xorW) ?_); refine l_op (o_as ?_); refine eN ?_
    repeat refine c_seq ?_
    refine c_tail 15 mixed (by kernel_rfl) ?_; replace H := H.drew
    refine s_op (r_mv) ?_; refine s_op (r_mv) ?_; refine s_op (r_bin rfl rfl (fun _ => b_sub oM oM)) ?_; refine s_op (r_ia rfl rfl ar209 oM oM) ?_; refine s_op (r_ld H (v := W64 xa) (i := 1) rfl rfl ct25 (by rw [x0, hg _ oM, hA])) ?_; refine s_op (r_mv) ?_; refine s_op (r_bin rfl rfl (fun _ => b_add_u64)) ?_; refine s_op (r_mv) ?_; refine s_op (r_bin rfl rfl (fun _ => b_sub oM oM)) ?_; refine s_op (r_ia rfl rfl ar209 oM oM) ?_; refine s_op (r_ld H (v := W64 xd) (i := 1) rfl rfl ct25 (by rw [x3, hg _ oM, hD])) ?_; refine s_op (r_bin rfl rfl (fun _ => b_add_u64)) ?_; refine s_op (r_mv) ?_; refine s_op (r_bin rfl rfl (fun _ => b_add_u64)) ?_; refine s_op (r_bin (v := W64 (nextWord (sched bs k))) rfl (c64 4294967295 (by decide)) (fun _ => b_maskW _ (by rw [hnx]; simp only [UInt64.toUInt32_add, red]))) ?_; refine s_nil ?_; refine l_op (o_ia rfl rfl ar209 oM oM ?_); refine l_op (o_st H (i := 1) (v := W64 (nextWord (sched bs k))) rfl rfl rfl cs25 rfl (by rw [padW_length _ oM]; omega) (fun w H => ?_)); refine eN ?_
    have e : (padW (sched bs k)).set (0 + ((16 + k : Nat) : Int).toNat * 1) (W64 (nextWord (sched bs k))) = padW (sched bs (k + 1)) := by
      rw [sched, ← padW_set _ _ oM, hsl]; congr 1; omega
    rw [e] at H
    refine rG ?_; refine l_op (o_mv ?_); refine l_op (o_bin rfl rfl (fun _ => b_add oM oM) ?_); refine l_op (o_as ?_); refine eN ?_
    refine round_end (k + 1) ?_ ?_ ?_
    · exact ⟨rfl, rfl, rfl, rfl, rfl, trivial⟩
    · exact ⟨by omega, H⟩
    · show 48 - (k + 1) < 48 - k; omega
  · have hk48 : k = 48 := by omega
    subst hk48
    clear hlt hk hsl
    have hcomp : comp st bs = addS st (rnds (sched bs 48) st 64) := rfl
    rw [hcomp]
    have hsl := sched_length bs 48
    obtain ⟨sc, hsc⟩ : ∃ sc, sched bs 48 = sc := ⟨_, rfl⟩
    rw [hsc] at H hsl ⊢
    clear hsc hcomp
    have hpw : primeWords.length = 64 := rfl
    have hpad : padW sc = sc.map W64 := by simp [padW, hsl]
    rw [hpad] at H
    have g1 : ∀ j, j < 64 → (primeWords.map W64)[j]? = some (W64 (primeWords.getD j 0)) := fun j hj => by simp [show j < primeWords.length by omega]
    have g2 : ∀ j, j < 64 → (sc.map W64)[j]? = some (W64 (sc.getD j 0)) := fun j hj => by simp [show j < sc.length by omega]
    refine c_exit ?_; refine rG ?_; refine l_op (o_ldr H (i := 0) rfl rfl rt211 (Nat.le_refl 8) ?_); refine l_op (o_alloc H zc211 (fun b12 w H hb12 => ?_)); refine l_op (o_stw H (i := 4) rfl rfl rfl (by rw [cs211]; rfl) (all_W64 st.l) (by rfl) (fun w H => ?_)); refine eN ?_
    refine rG ?_; refine l_op (o_as ?_); refine eN ?_
    refine qB ?_; refine c_loop (ι := Nat) (fun i => [(13, VI i), (3, .pointer (some ⟨b3, 0, none⟩)), (4, .pointer (some ⟨b4, 0, none⟩)), (5, .pointer (some ⟨b5, 0, none⟩)), (6, .pointer (some ⟨b6, 0, none⟩)), (12, .pointer (some ⟨b12, 0, none⟩))])
      (fun i w => i ≤ 64 ∧ Hp w0 w [] [.blk b3 (st.l.map W64) 211, .blk b4 (sc.map W64) 209, .blk b5 (primeWords.map W64) 209, .blk b6 (List.replicate 8 (Value.int .u64 0)) 211, .blk b12 ((rnds sc st i).l.map W64) 211])
      (fun i => 64 - i) 0 ⟨rfl, rfl, rfl, rfl, rfl, rfl, trivial⟩ ⟨by omega, by rw [rnds]; exact H⟩ ?_
    clear H
    rintro i τ w ⟨hi, H⟩
    refine rG ?_; refine l_op (o_mv ?_); refine l_op (o_bin rfl rfl (fun _ => b_lss) ?_); refine eN ?_
    repeat refine c_seq ?_
    refine c_ifD rfl (fun hlt => ?_) (fun hlt => ?_)
    · have hlt' : i < 64 := by omega
      have x1 : 0 + (i : Int).toNat * 1 = i := by omega
      have e9 := rnds.eq_2 sc st i
      generalize rnds sc st i = r at H e9
      generalize hkk : primeWords.getD i 0 = kk at e9
      generalize hww : sc.getD i 0 = ww at e9
      refine c_skip ?_; refine qB ?_; repeat refine c_seq ?_
      refine c_still mixed (by kernel_rfl) ?_; replace H := H.drew
      refine s_op (r_ia rfl rfl ar211 oM oM) ?_; refine s_op (r_ld H (i := 4) rfl rfl ct25 rfl) ?_; refine s_op (r_ia rfl rfl ar211 oM oM) ?_; refine s_op (r_ld H (i := 4) rfl rfl ct25 rfl) ?_; refine s_op (r_as) ?_; refine s_op (r_as) ?_; refine s_nil ?_; refine rG ?_; refine l_op (o_mv ?_); refine l_op (o_callR Tryz.func167 rfl rfl rfl (turnW_ret _ _ 6 (by decide) (by decide)) ?_); rintro _ w' ⟨rfl, hw⟩
      rw [hw]; clear hw w'
      refine l_op (o_mv ?_); refine l_op (o_callR Tryz.func167 rfl rfl rfl (turnW_ret _ _ 11 (by decide) (by decide)) ?_); rintro _ w' ⟨rfl, hw⟩
      rw [hw]; clear hw w'
      refine l_op (o_bin rfl rfl (fun _ => b_xorW) ?_); refine l_op (o_mv ?_); refine l_op (o_callR Tryz.func167 rfl rfl rfl (turnW_ret _ _ 25 (by decide) (by decide)) ?_); rintro _ w' ⟨rfl, hw⟩
      rw [hw]; clear hw w'
      refine l_op (o_bin rfl rfl (fun _ => b_xorW) ?_); refine l_op (o_as ?_); refine eN ?_
      refine rG ?_; refine l_op (o_mv ?_); refine l_op (o_ia rfl rfl ar211 oM oM ?_); refine l_op (o_ld H (i := 4) rfl rfl ct25 rfl ?_); refine l_op (o_bin rfl rfl (fun _ => b_andW) ?_); refine l_op (o_mv ?_); refine l_op (o_bin (c64 4294967295 (by decide)) rfl (fun _ => b_notW) ?_); refine l_op (o_ia rfl rfl ar211 oM oM ?_); refine l_op (o_ld H (i := 4) rfl rfl ct25 rfl ?_); refine l_op (o_bin rfl rfl (fun _ => b_andW) ?_); refine l_op (o_bin rfl rfl (fun _ => b_xorW) ?_); refine l_op (o_as ?_); refine eN ?_
      repeat refine c_seq ?_
      refine c_still mixed (by kernel_rfl) ?_; replace H := H.drew
      refine s_op (r_ia rfl rfl ar211 oM oM) ?_; refine s_op (r_ld H (i := 4) rfl rfl ct25 rfl) ?_; refine s_op (r_mv) ?_; refine s_op (r_bin rfl rfl (fun _ => b_add_u64)) ?_; refine s_op (r_mv) ?_; refine s_op (r_bin rfl rfl (fun _ => b_add_u64)) ?_; refine s_op (r_mv) ?_; refine s_op (r_ia rfl rfl ar209 oM oM) ?_; refine s_op (r_ld H (v := W64 kk) (i := 2) rfl rfl ct25 (by rw [x1, g1 i hlt', hkk])) ?_; refine s_op (r_bin rfl rfl (fun _ => b_add_u64)) ?_; refine s_op (r_mv) ?_; refine s_op (r_ia rfl rfl ar209 oM oM) ?_; refine s_op (r_ld H (v := W64 ww) (i := 1) rfl rfl ct25 (by rw [x1, g2 i hlt', hww])) ?_; refine s_op (r_bin rfl rfl (fun _ => b_add_u64)) ?_; refine s_op (r_as) ?_; refine s_nil ?_; refine rG ?_; refine l_op (o_mv ?_); refine l_op (o_callR Tryz.func167 rfl rfl rfl (turnW_ret _ _ 2 (by decide) (by decide)) ?_); rintro _ w' ⟨rfl, hw⟩
      rw [hw]; clear hw w'
      refine l_op (o_mv ?_); refine l_op (o_callR Tryz.func167 rfl rfl rfl (turnW_ret _ _ 13 (by decide) (by decide)) ?_); rintro _ w' ⟨rfl, hw⟩
      rw [hw]; clear hw w'
      refine l_op (o_bin rfl rfl (fun _ => b_xorW) ?_); refine l_op (o_mv ?_); refine l_op (o_callR Tryz.func167 rfl rfl rfl (turnW_ret _ _ 22 (by decide) (by decide)) ?_); rintro _ w' ⟨rfl, hw⟩
      rw [hw]; clear hw w'
      refine l_op (o_bin rfl rfl (fun _ => b_xorW) ?_); refine l_op (o_as ?_); refine eN ?_
      refine rG ?_; refine l_op (o_mv ?_); refine l_op (o_ia rfl rfl ar211 oM oM ?_); refine l_op (o_ld H (i := 4) rfl rfl ct25 rfl ?_); refine l_op (o_bin rfl rfl (fun _ => b_andW) ?_); refine l_op (o_mv ?_); refine l_op (o_ia rfl rfl ar211 oM oM ?_); refine l_op (o_ld H (i := 4) rfl rfl ct25 rfl ?_); refine l_op (o_bin rfl rfl (fun _ => b_andW) ?_); refine l_op (o_bin rfl rfl (fun _ => b_xorW) ?_); refine l_op (o_ia rfl rfl ar211 oM oM ?_); refine l_op (o_ld H (i := 4) rfl rfl ct25 rfl ?_); refine l_op (o_ia rfl rfl ar211 oM oM ?_); refine l_op (o_ld H (i := 4) rfl rfl ct25 rfl ?_); refine l_op (o_bin rfl rfl (fun _ => b_andW) ?_); refine l_op (o_bin rfl rfl (fun _ => b_xorW) ?_); refine l_op (o_as ?_); refine eN ?_
      refine rG ?_; refine l_op (o_mv ?_); refine l_op (o_mv ?_); refine l_op (o_bin rfl rfl (fun _ => b_add_u64) ?_); refine l_op (o_mv ?_); refine l_op (o_bin rfl rfl (fun _ => b_add_u64) ?_); refine l_op (o_bin (v := W64 (rnd r kk ww).a) rfl (c64 4294967295 (by decide)) (fun _ => b_maskW _ (by simp only [UInt64.toUInt32_add, red]; exact UInt32.add_assoc _ _ _)) ?_); refine l_op (o_ia rfl rfl ar211 oM oM ?_); refine l_op (o_ld H (i := 4) rfl rfl ct25 rfl ?_); refine l_op (o_ia rfl rfl ar211 oM oM ?_); refine l_op (o_ld H (i := 4) rfl rfl ct25 rfl ?_); refine l_op (o_ia rfl rfl ar211 oM oM ?_); refine l_op (o_ld H (i := 4) rfl rfl ct25 rfl ?_); refine l_op (o_ia rfl rfl ar211 oM oM ?_); refine l_op (o_ld H (i := 4) rfl rfl ct25 rfl ?_); refine l_op (o_mv ?_); refine l_op (o_bin rfl rfl (fun _ => b_add_u64) ?_); refine l_op (o_bin (v := W64 (rnd r kk ww).e) rfl (c64 4294967295 (by decide)) (fun _ => b_maskW _ (by simp only [UInt64.toUInt32_add, red]; rfl)) ?_); refine l_op (o_ia rfl rfl ar211 oM oM ?_); refine l_op (o_ld H (i := 4) rfl rfl ct25 rfl ?_); refine l_op (o_ia rfl rfl ar211 oM oM ?_); refine l_op (o_ld H (i := 4) rfl rfl ct25 rfl ?_); refine l_op (o_ia rfl rfl ar211 oM oM ?_); refine l_op (o_ld H (i := 4) rfl rfl ct25 rfl ?_); refine l_op (o_bld' (pv := en 0 ((rnd r kk ww).l.map W64)) bd211 rfl (fill_en _ (all_W64 _) rfl) ?_); refine l_op (o_stw H (i := 4) rfl rfl rfl (by rw [cs211]; rfl) (all_W64 _) (by rfl) (fun w H => ?_)); refine eN ?_
      refine rG ?_; refine l_op (o_mv ?_); refine l_op (o_bin rfl rfl (fun _ => b_add oM oM) ?_); refine l_op (o_as ?_); refine eN ?_
      refine round_end (i + 1) ?_ ?_ ?_
      · exact ⟨rfl, rfl, rfl, rfl, rfl, rfl, trivial⟩
      · exact ⟨hlt', by rw [e9]; exact H⟩
      · show 64 - (i + 1) < 64 - i; omega
    · have hi64 : i = 64 := by omega
      subst hi64
      clear hlt hi
      obtain ⟨rr, hrr⟩ : ∃ rr, rnds sc st 64 = rr := ⟨_, rfl⟩
      rw [hrr] at H ⊢
      clear hrr
      refine c_exit ?_; refine rG ?_; refine l_op (o_as ?_); refine eN ?_
      refine qB ?_; refine c_loop (ι := Nat) (fun i => [(21, VI i), (3, .pointer (some ⟨b3, 0, none⟩)), (6, .pointer (some ⟨b6, 0, none⟩)), (12, .pointer (some ⟨b12, 0, none⟩))])
        (fun i w => i ≤ 8 ∧ Hp w0 w [] [.blk b3 ((parts (addS st rr).l st.l i).map W64) 211, .blk b4 (sc.map W64) 209, .blk b5 (primeWords.map W64) 209, .blk b6 (List.replicate 8 (Value.int .u64 0)) 211, .blk b12 (rr.l.map W64) 211])
        (fun i => 8 - i) 0 ⟨rfl, rfl, rfl, rfl, trivial⟩ ⟨by omega, H⟩ ?_
      clear H
      rintro i τ w ⟨hi, H⟩
      refine rG ?_; refine l_op (o_mv ?_); refine l_op (o_bin rfl rfl (fun _ => b_lss) ?_); refine eN ?_
      repeat refine c_seq ?_
      refine c_ifD rfl (fun hlt => ?_) (fun hlt => ?_)
      · have hlt' : i < 8 := by omega
        have h8 : (addS st rr).l.length = 8 := rfl
        have h8' : st.l.length = 8 := rfl
        have hpl8 : (parts (addS st rr).l st.l i).length = 8 := parts_length _ _ i rfl oM
        have x1 : 0 + (i : Int).toNat * 1 = i := by omega
        have g3 : ((parts (addS st rr).l st.l i).map W64)[i]? = some (W64 (st.l.getD i 0)) := by
          rw [← parts_get _ _ i (h8.trans h8'.symm) oM]
          simp [show i < (parts (addS st rr).l st.l i).length by omega]
        have g4 : (rr.l.map W64)[i]? = some (W64 (rr.l.getD i 0)) := by
          have : i < rr.l.length := hlt'
          simp [this]
        refine c_skip ?_; refine qB ?_; repeat refine c_seq ?_
        refine c_tail 9 mixed (by kernel_rfl) ?_; replace H := H.drew
        refine s_op (r_mv) ?_; refine s_op (r_mv) ?_; refine s_op (r_ia rfl rfl ar211 oM oM) ?_; refine s_op (r_ld H (i := 0) rfl rfl ct25 (by rw [x1]; exact g3)) ?_; refine s_op (r_mv) ?_; refine s_op (r_ia rfl rfl ar211 oM oM) ?_; refine s_op (r_ld H (i := 4) rfl rfl ct25 (by rw [x1]; exact g4)) ?_; refine s_op (r_bin rfl rfl (fun _ => b_add_u64)) ?_; refine s_op (r_bin (v := W64 ((addS st rr).l.getD i 0)) rfl (c64 4294967295 (by decide)) (fun _ => b_maskW _ (by simp only [UInt64.toUInt32_add, red]; exact add_get _ _ i hlt'))) ?_; refine s_nil ?_; refine l_op (o_ia rfl rfl ar211 oM oM ?_); refine l_op (o_st H (i := 0) (v := W64 ((addS st rr).l.getD i 0)) rfl rfl rfl cs25 rfl (by rw [x1, List.length_map, hpl8]; exact hlt') (fun w H => ?_)); refine eN ?_
        have e : ((parts (addS st rr).l st.l i).map W64).set (0 + (i : Int).toNat * 1) (W64 ((addS st rr).l.getD i 0)) = (parts (addS st rr).l st.l (i + 1)).map W64 := by
          rw [x1, ← List.map_set, parts_set _ _ i (h8.trans h8'.symm) oM]
        rw [e] at H
        refine rG ?_; refine l_op (o_mv ?_); refine l_op (o_bin rfl rfl (fun _ => b_add oM oM) ?_); refine l_op (o_as ?_); refine eN ?_
        refine round_end (i + 1) ?_ ?_ ?_
        · exact ⟨rfl, rfl, rfl, rfl, trivial⟩
        · exact ⟨by omega, H⟩
        · show 8 - (i + 1) < 8 - i; omega
      · have hi8 : i = 8 := by omega
        subst hi8
        refine c_exit ?_; refine rG ?_; refine l_op (o_ldr H (i := 0) rfl rfl rt211 (Nat.le_refl 8) ?_); refine l_op (o_stw H (i := 3) rfl rfl rfl (by rw [cs211]; rfl) (all_W64 (addS st rr).l) (by rfl) (fun w H => ?_)); refine eN ?_
        refine c_ret (e_retc Tryz.results147 H (i := 3) rfl rfl rt211 (by rfl) ⟨_, rfl, rfl, ?_⟩); exact H.sub (List.nil_sublist _)
end Go.Proofs.YtmiabahejnjhiaaGreatDoor
namespace Go.Proofs.YtmiabahejnjhiaaGreatDoor
open Go
/-- the first c bytes of word j of a block, as a number. -/
def pwN (bs : List UInt8) (j : Nat) : Nat → Nat
  | 0 => 0
  | c + 1 => pwN bs j c * 256 + (bs.getD (4 * j + c) 0).toNat
theorem wordAt_nat (bs : List UInt8) (j : Nat) : (wordAt bs j).toNat = pwN bs j 4 := by
  simp only [wordAt, pwN, Nat.add_zero, Nat.zero_mul, Nat.zero_add]
  generalize bs.getD (4 * j) 0 = a
  generalize bs.getD (4 * j + 1) 0 = b
  generalize bs.getD (4 * j + 2) 0 = c
  generalize bs.getD (4 * j + 3) 0 = d
  have ha := a.toNat_lt
  have hb := b.toNat_lt
  have hc := c.toNat_lt
  have hd := d.toNat_lt
  have e24 : (UInt32.ofNat 24).toNat % 32 = 24 := rfl
  have e16 : (UInt32.ofNat 16).toNat % 32 = 16 := rfl
  have e8 : (UInt32.ofNat 8).toNat % 32 = 8 := rfl
  simp only [UInt32.toNat_or, UInt32.toNat_shiftLeft, UInt8.toNat_toUInt32, e24, e16, e8]
  have m1 : a.toNat <<< 24 % 2 ^ 32 = a.toNat <<< 24 := by rw [Nat.shiftLeft_eq]; omega
  have m2 : b.toNat <<< 16 % 2 ^ 32 = b.toNat <<< 16 := by rw [Nat.shiftLeft_eq]; omega
  have m3 : c.toNat <<< 8 % 2 ^ 32 = c.toNat <<< 8 := by rw [Nat.shiftLeft_eq]; omega
  rw [m1, m2, m3, Nat.or_assoc, Nat.or_assoc]
  have s3 : c.toNat <<< 8 ||| d.toNat = c.toNat <<< 8 + d.toNat := (Nat.shiftLeft_add_eq_or_of_lt oM _).symm
  have s2 : b.toNat <<< 16 ||| (c.toNat <<< 8 + d.toNat) = b.toNat <<< 16 + (c.toNat <<< 8 + d.toNat) := (Nat.shiftLeft_add_eq_or_of_lt (by rw [Nat.shiftLeft_eq]; omega) _).symm
  have s1 : a.toNat <<< 24 ||| (b.toNat <<< 16 + (c.toNat <<< 8 + d.toNat)) = a.toNat <<< 24 + (b.toNat <<< 16 + (c.toNat <<< 8 + d.toNat)) := (Nat.shiftLeft_add_eq_or_of_lt (by rw [Nat.shiftLeft_eq, Nat.shiftLeft_eq]; omega) _).symm
  rw [s3, s2, s1, Nat.shiftLeft_eq, Nat.shiftLeft_eq, Nat.shiftLeft_eq]
  omega
end Go.Proofs.YtmiabahejnjhiaaGreatDoor
namespace Go.Proofs.YtmiabahejnjhiaaGreatDoor
open Go
/-- the sixty-four words when i bytes have been read. -/
def wpart (bs : List UInt8) (i : Nat) : List Value := (List.range 64).map fun j => V64 (UInt64.ofNat (pwN bs j (min 4 (i - 4 * j))))
theorem wpart_length (bs : List UInt8) (i : Nat) : (wpart bs i).length = 64 := by simp [wpart]
theorem wpart_get (bs : List UInt8) (i : Nat) (h : i < 64) : (wpart bs i)[i / 4]? = some (V64 (UInt64.ofNat (pwN bs (i / 4) (i % 4)))) := by
  have e : min 4 (i - 4 * (i / 4)) = i % 4 := by omega
  simp [wpart, List.getElem?_range (show i / 4 < 64 by omega), e]
theorem wpart_set (bs : List UInt8) (i : Nat) (h : i < 64) : (wpart bs i).set (i / 4) (V64 (UInt64.ofNat (pwN bs (i / 4) (i % 4 + 1)))) = wpart bs (i + 1) := by
  apply List.ext_getElem?
  intro j
  rw [List.getElem?_set, wpart_length]
  by_cases hj : i / 4 = j
  · subst hj
    have e : min 4 (i + 1 - 4 * (i / 4)) = i % 4 + 1 := by omega
    rw [if_pos rfl, if_pos oM]
    simp [wpart, List.getElem?_range (show i / 4 < 64 by omega), e]
  · rw [if_neg hj]
    by_cases hl : j < 64
    · have e : min 4 (i - 4 * j) = min 4 (i + 1 - 4 * j) := by omega
      simp [wpart, List.getElem?_range hl, e]
    · simp [wpart, show 64 ≤ j by omega]
theorem wpart_zero (bs : List UInt8) : wpart bs 0 = List.replicate 64 (Value.int .u64 0) := by
  apply List.ext_getElem?
  intro j
  by_cases hl : j < 64
  · rw [List.getElem?_replicate, if_pos hl]; simp [wpart, List.getElem?_range hl, pwN, V64]
  · simp [wpart, show 64 ≤ j by omega]
theorem ofNat_word (x : UInt32) : UInt64.ofNat x.toNat = x.toUInt64 := by
  apply UInt64.toNat_inj.1
  have := x.toNat_lt
  rw [UInt64.toNat_ofNat', UInt32.toNat_toUInt64]; omega
theorem firsts_get (bs : List UInt8) : ∀ (n j : Nat), j < n → (firsts bs n)[j]? = some (wordAt bs j)
  | 0, _, h => by omega
  | n + 1, j, h => by
    by_cases hj : j < n
    · rw [firsts, List.getElem?_append_left (by rw [firsts_length]; exact hj)]; exact firsts_get bs n j hj
    · have : j = n := by omega
      subst this
      rw [firsts, List.getElem?_append_right (by rw [firsts_length]; exact Nat.le_refl _), firsts_length]; simp
theorem wpart_all (bs : List UInt8) : wpart bs 64 = padW (firsts bs 16) := by
  apply List.ext_getElem?
  intro j
  have hfl := firsts_length bs 16
  by_cases h1 : j < 16
  · have e : min 4 (64 - 4 * j) = 4 := by omega
    rw [padW, List.getElem?_append_left (by rw [List.length_map, hfl]; exact h1), List.getElem?_map, firsts_get bs 16 j h1]
    simp [wpart, List.getElem?_range (show j < 64 by omega), e, ← wordAt_nat, W64]
  · by_cases hl : j < 64
    · have e : 64 - 4 * j = 0 := by omega
      rw [padW, List.getElem?_append_right (by rw [List.length_map, hfl]; omega), List.length_map, hfl, List.getElem?_replicate, if_pos oM]
      simp [wpart, List.getElem?_range hl, e, pwN, W64]
    · rw [List.getElem?_eq_none (by rw [wpart_length]; omega), List.getElem?_eq_none (by rw [padW_length _ oM]; omega)]
end Go.Proofs.YtmiabahejnjhiaaGreatDoor
namespace Go.Proofs.YtmiabahejnjhiaaGreatDoor
open Go
def foldB (st : S8) (M : List UInt8) : Nat → S8
  | 0 => st
  | n + 1 => comp (foldB st M n) ((M.drop (64 * n)).take 64)
theorem foldB_ext (st : S8) (M M' : List UInt8) : ∀ n, M.take (64 * n) = M'.take (64 * n) → foldB st M n = foldB st M' n
  | 0, _ => rfl
  | n + 1, h => by
    have h1 : M.take (64 * n) = M'.take (64 * n) := by
      have := congrArg (List.take (64 * n)) h
      rwa [List.take_take, List.take_take, Nat.min_eq_left oM] at this
    have h2 : (M.drop (64 * n)).take 64 = (M'.drop (64 * n)).take 64 := by
      have := congrArg (List.drop (64 * n)) h
      rwa [List.drop_take, List.drop_take, show 64 * (n + 1) - 64 * n = 64 by omega] at this
    rw [foldB, foldB, foldB_ext st M M' n h1, h2]
theorem absorb_blocks (s : HS) (hwt : s.wt.length = 64) (hat : s.at_ = 0) : ∀ (n : Nat) (M : List UInt8), M.length = 64 * n → (absorb s M).st = foldB s.st M n
  | 0, M, h => by
    have : M = [] := List.length_eq_zero_iff.1 oM
    subst this; rfl
  | n + 1, M, h => by
    have ih := absorb_blocks s hwt hat n (M.take (64 * n)) (by rw [List.length_take]; omega)
    have e : M = M.take (64 * n) ++ M.drop (64 * n) := (List.take_append_drop _ _).symm
    have hl : (M.drop (64 * n)).length = 64 := by rw [List.length_drop]; omega
    have ha : (absorb s (M.take (64 * n))).at_ = 0 := by
      simp only [HS.at_] at hat ⊢
      rw [absorb_m, List.length_take, UInt64.toNat_add, UInt64.toNat_ofNat', Nat.min_eq_left oM]
      omega
    have hw : (absorb s (M.take (64 * n))).wt.length = 64 := by rw [absorb_wt, hwt]
    have hf := absorb_full (M.drop (64 * n)) (absorb s (M.take (64 * n))) hw (by rw [ha, hl]) (fun e => by rw [e] at hl; simp at hl)
    have hsp : spl (absorb s (M.take (64 * n))).wt 0 (M.drop (64 * n)) = M.drop (64 * n) := by
      have hd : (absorb s (M.take (64 * n))).wt.drop (0 + (M.drop (64 * n)).length) = [] := List.drop_of_length_le (by rw [hl]; omega)
      unfold spl
      rw [hd, List.take_zero, List.nil_append, List.append_nil]
    rw [ha, hsp] at hf
    have e2 : absorb s M = absorb (absorb s (M.take (64 * n))) (M.drop (64 * n)) := by rw [← absorb_append, ← e]
    rw [e2, hf]
    simp only
    rw [ih, foldB, foldB_ext s.st (M.take (64 * n)) M n (by rw [List.take_take, Nat.min_self]), List.take_of_length_le (Nat.le_of_eq hl)]
/-- the text with what stands behind it. -/
def padded (l : List UInt8) : List UInt8 := l ++ tailOf (UInt64.ofNat l.length)
theorem init_at : HS.at_ HS.init = 0 := rfl
theorem digest_padded (l : List UInt8) (n : Nat) (h : (padded l).length = 64 * n) : digest (absorb HS.init l) = wordBytes (foldB initS (padded l) n).l := by
  have hm : (absorb HS.init l).m = UInt64.ofNat l.length := by
    rw [absorb_m]
    show (0 : UInt64) + _ = _
    rw [UInt64.zero_add]
  rw [digest, closed, hm, ← absorb_append]
  have := absorb_blocks HS.init rfl init_at n (padded l) h
  rw [padded] at this
  rw [this]; rfl
theorem padded_len (l : List UInt8) (h : l.length < 1152921504606846976) : 64 ∣ (padded l).length := by
  have e : (UInt64.ofNat l.length).toNat = l.length := by rw [UInt64.toNat_ofNat']; omega
  simp only [padded, tailOf, zerosOf, e, List.length_append, List.length_cons, List.length_replicate, lenBytes_length]
  omega
end Go.Proofs.YtmiabahejnjhiaaGreatDoor
