/- Lemmas for the statement AuditEntries, part 4: rules of operations, walks through functions, plain laws. -/
import Derived.Test.YtjmbbhnpfmblpaaAuditEntriesG3
namespace Go.Proofs.Ytjmbbhnpfmblpaa
open Go
set_option maxRecDepth 100000
def lightE (l : List Ent) (m : Nat) : Bool := decide (l.length ≤ m ∧ ∀ e ∈ l, e.tenant.length ≤ 100)
theorem lightE_iff (l : List Ent) (m : Nat) : lightE l m = true ↔ l.length ≤ m ∧ ∀ e ∈ l, e.tenant.length ≤ 100 := by simp [lightE]
theorem light20_ret (w0 : World) (g : Gl Ent) (hg : g.ok entE 38 w0) (m : Nat) (_hm : m ≤ 65536) :
    Ret Try.prog 84 [g.v, VI (m : Int)] w0 fun v w' => v = .bool (lightE g.l m) ∧ Hp w0 w' [] [] := by
  refine ret_mk Try.func84 rfl Try.ntmps84 (by simp) ?_
  have H := Hp.refl w0 []
  have hgl := hg.ln
  have hge := hg.le
  have hgx := hg.mx
  have hmL : maxLen = 9223372036854775807 := rfl
  repeat refine c_seq ?_
  refine c_region ?_
  refine l_op (o_val (r_as) ?_)
  first | refine l_end ?_ | refine l_nil ?_
  repeat refine c_seq ?_
  refine c_region ?_
  refine l_op (o_val (r_mv) ?_)
  refine l_op (o_val (r_lens el97 rfl) ?_)
  refine l_op (o_val (r_mv) ?_)
  refine l_op (o_val (r_bin (a := (g.len : Int)) (b := (m : Int)) rfl rfl (fun _ => b_gtr)) ?_)
  first | refine l_end ?_ | refine l_nil ?_
  by_cases hc1 : (m : Int) < (g.len : Int)
  ·
   repeat refine c_seq ?_
   refine c_yes (by exact congrArg Value.bool (decide_eq_true hc1)) ?_
   repeat refine c_seq ?_
   refine c_region ?_
   refine l_op (o_val (r_as) ?_)
   first | refine l_end ?_ | refine l_nil ?_
   refine c_ret ?_
   try dsimp only [Exit.then, Exit.inBlock]
   refine e_ret1 (v := .bool false) Try.results84 rfl ?_
   refine ⟨_, rfl, ?_⟩
   refine ⟨?_, H⟩
   have e : lightE g.l m = false := Bool.eq_false_iff.2 fun h => by
     have h2 := ((lightE_iff _ _).1 h).1
     omega
   rw [e]
  ·
   repeat refine c_seq ?_
   refine c_no (by exact congrArg Value.bool (decide_eq_false hc1)) ?_
   refine c_skip ?_
   repeat refine c_seq ?_
   refine c_region ?_
   refine l_op (o_val (r_as) ?_)
   first | refine l_end ?_ | refine l_nil ?_
   repeat refine c_seq ?_
   refine c_block ?_
   repeat refine c_seq ?_
   refine c_loop (fun (i : Nat) => [(0, g.v), (5, VI (i : Int))])
     (fun (i : Nat) w => (i ≤ g.len ∧ ∀ (j : Nat) (x : Ent), j < i → g.l[j]? = some x → x.tenant.length ≤ 100) ∧ Hp w0 w [] ([]))
     (fun (i : Nat) => g.len - i) 0 ⟨rfl, rfl, trivial⟩ ⟨⟨Nat.zero_le _, fun j x hj => absurd hj (by omega)⟩, H⟩ ?_
   clear H
   rintro i τ w ⟨⟨hi, hall⟩, H⟩
   repeat refine c_seq ?_
   refine c_region ?_
   refine l_op (o_val (r_mv) ?_)
   refine l_op (o_val (r_mv) ?_)
   refine l_op (o_val (r_lens el97 rfl) ?_)
   refine l_op (o_val (r_bin (a := (i : Int)) (b := (g.len : Int)) rfl rfl (fun _ => b_lss)) ?_)
   first | refine l_end ?_ | refine l_nil ?_
   by_cases hc2 : (i : Int) < (g.len : Int)
   ·
    repeat refine c_seq ?_
    refine c_yes (by exact congrArg Value.bool (decide_eq_true hc2)) ?_
    refine c_skip ?_
    repeat refine c_seq ?_
    refine c_block ?_
    repeat refine c_seq ?_
    refine c_region ?_
    refine l_op (o_val (r_mv) ?_)
    refine l_op (o_val (r_mv) ?_)
    have ah5 := ((hg.up H)).addr (by decide) (by first | omega | (dsimp only; omega))
    obtain ⟨ab3, ao4, ah5⟩ := ah5
    refine l_op (o_val (r_isN i rfl rfl el97 ah5 (by omega) (by (try simp only [Sl.cut]); omega)) ?_)
    refine l_op (o_val (r_fa rfl fo95_3) ?_)
    have he7 : ∃ c, g.l[i]? = some c := ⟨_, List.getElem?_eq_getElem (by have := ((hg.up H)).ln; (try dsimp only at this ⊢); omega)⟩
    obtain ⟨e6, he7⟩ := he7
    have hez8 := ((hg.up H)).sz e6 (List.mem_of_getElem? he7)
    refine l_op (o_val (r_ldFld (v := .string ⟨(e6.tenant).toArray⟩) (s := g) (k := i) (off := 3) (hg.up H) ah5 rfl ct9 he7 (by decide) rfl) ?_)
    refine l_op (o_val (r_lenstr (s := ⟨(e6.tenant).toArray⟩) Try.underlying9 rfl) ?_)
    refine l_op (o_val (r_bin (a := ((e6.tenant).length : Int)) (b := 100) rfl rfl (fun _ => b_gtr)) ?_)
    first | refine l_end ?_ | refine l_nil ?_
    by_cases hc9 : 100 < ((e6.tenant).length : Int)
    ·
     repeat refine c_seq ?_
     refine c_yes (by exact congrArg Value.bool (decide_eq_true hc9)) ?_
     repeat refine c_seq ?_
     refine c_region ?_
     refine l_op (o_val (r_as) ?_)
     first | refine l_end ?_ | refine l_nil ?_
     refine c_ret ?_
     try dsimp only [Exit.then, Exit.inBlock]
     refine e_ret1 (v := .bool false) Try.results84 rfl ?_
     refine ⟨_, rfl, ?_⟩
     refine ⟨?_, H⟩
     have e : lightE g.l m = false := Bool.eq_false_iff.2 fun h => by
       have h2 := ((lightE_iff _ _).1 h).2 _ (List.mem_of_getElem? he7)
       omega
     rw [e]
    ·
     repeat refine c_seq ?_
     refine c_no (by exact congrArg Value.bool (decide_eq_false hc9)) ?_
     refine c_skip ?_
     repeat refine c_seq ?_
     refine c_region ?_
     refine l_op (o_val (r_mv) ?_)
     refine l_op (o_val (r_bin (a := (i : Int)) (b := 1) rfl rfl (fun _ => b_add (by omega) (by omega))) ?_)
     refine l_op (o_val (r_as) ?_)
     first | refine l_end ?_ | refine l_nil ?_
     refine round_end (i + 1) ?_ ?_ ?_
     · exact ⟨rfl, show VI ((i : Int) + 1) = VI ((i + 1 : Nat) : Int) from congrArg VI (by omega), trivial⟩
     · refine ⟨?_, ?_⟩
       · try dsimp only
         exact ⟨by omega, fun j x hj hjx => by
           by_cases hji : j < i
           · exact hall j x hji hjx
           · have e : j = i := by omega
             rw [e, he7] at hjx
             cases hjx
             omega⟩
       · exact H
     · show g.len - (i + 1 : Nat) < g.len - i; omega
   ·
    repeat refine c_seq ?_
    refine c_no (by exact congrArg Value.bool (decide_eq_false hc2)) ?_
    refine c_exit ?_
    repeat refine c_seq ?_
    refine c_region ?_
    refine l_op (o_val (r_as) ?_)
    first | refine l_end ?_ | refine l_nil ?_
    refine c_ret ?_
    try dsimp only [Exit.then, Exit.inBlock]
    refine e_ret1 (v := .bool true) Try.results84 rfl ?_
    refine ⟨_, rfl, ?_⟩
    refine ⟨?_, H⟩
    rw [(lightE_iff _ _).2 ⟨by omega, fun x hx => by
      obtain ⟨j, hj⟩ := List.getElem?_of_mem hx
      exact hall j x (by have := (List.getElem?_eq_some_iff.1 hj).1; omega) hj⟩]
theorem begun20_ret (w0 : World) :
    Ret Try.prog 83 [] w0 fun v w' => v = .bool true ∧ Hp w0 w' [] [] := by
  refine ret_mk Try.func83 rfl Try.ntmps83 (by simp) ?_
  have H := Hp.refl w0 []
  have hb1 : mayE (⟨0, 0, (0 : UInt64), [97], 0, 0, List.replicate 32 (0 : UInt8)⟩ : Ent) = true := rfl
  have hb2 : (entB (⟨0, 0, (0 : UInt64), [97], 0, 0, List.replicate 32 (0 : UInt8)⟩ : Ent)).length = 61 := rfl
  have hx1 : (expB ([] : List Ent)).length = 10 := rfl
  have hv : verC (expB []) (List.replicate 32 (0 : UInt8)) = 0 := by rw [ver_yes _ _ [] (by rw [expB_drop]; exact parse_nil) (expB_len10 _) (expB_take _) rfl]; rfl
  have hv2 : verN (expB []) (List.replicate 32 (0 : UInt8)) = 0 := verN_len _ _ [] (by rw [expB_drop]; exact parse_nil) hv
  repeat refine c_seq ?_
  refine c_region ?_
  refine l_op (o_val (r_as) ?_)
  first | refine l_end ?_ | refine l_nil ?_
  repeat refine c_seq ?_
  refine c_region ?_
  refine l_op (o_val (r_bld' (cells := ([VI 0, VI 0, V64 (0 : UInt64), .string ⟨(([97] : List UInt8)).toArray⟩, VI 0, VI 0] ++ (List.replicate 32 (0 : UInt8)).map V8).toArray) (pv := [(3, .string ⟨(([97] : List UInt8)).toArray⟩)]) bd95 rfl rfl) ?_)
  have hk1 : (mayE (⟨0, 0, (0 : UInt64), ([97] : List UInt8), 0, 0, List.replicate 32 (0 : UInt8)⟩ : Ent)) = true := hb1
  refine l_op (o_callR Try.func85 rfl rfl rfl (aBytes_ok _ (⟨0, 0, (0 : UInt64), ([97] : List UInt8), 0, 0, List.replicate 32 (0 : UInt8)⟩ : Ent) (show (List.replicate 32 (0 : UInt8)).length = 32 from (List.length_replicate ..)) ⟨by decide, by decide⟩ hk1) ?_)
  rintro _ w ⟨a2, n3, c4, rfl, hn5, Hc⟩
  replace H : Hp _ w _ ([.own a2 n3 c4 ((entB (⟨0, 0, (0 : UInt64), ([97] : List UInt8), 0, 0, List.replicate 32 (0 : UInt8)⟩ : Ent)).map V8) 5 1]) := H.call Hc
  clear Hc
  refine l_op (o_val (r_mv) ?_)
  refine l_op (o_val (r_ext rfl rfl) ?_)
  refine l_op (o_val (r_ext rfl rfl) ?_)
  refine l_op (o_val (r_as) ?_)
  refine l_op (o_val (r_as) ?_)
  first | refine l_end ?_ | refine l_nil ?_
  repeat refine c_seq ?_
  refine c_region ?_
  have hk6 : (headC ([] : List Ent) = 0) := rfl
  refine l_op (o_callR Try.func96 rfl rfl rfl (aExp_ok _ ⟨none, 0, 0, []⟩ (glE_nil _) (fun _ h => by cases h) (by (try dsimp only); omega) (of_decide_eq_true (decide_eq_true hk6))) ?_)
  rintro _ w ⟨a7, n8, c9, rfl, hn10, hx11, Hc⟩
  replace H : Hp _ w _ ([_, .own a7 n8 c9 ((expB ([] : List Ent)).map V8) 5 1]) := H.call Hc
  clear Hc
  try dsimp only at hn10
  try dsimp only at hx11
  refine l_op (o_val (r_mv) ?_)
  refine l_op (o_val (r_ext rfl rfl) ?_)
  refine l_op (o_val (r_ext rfl rfl) ?_)
  refine l_op (o_val (r_as) ?_)
  refine l_op (o_val (r_as) ?_)
  first | refine l_end ?_ | refine l_nil ?_
  repeat refine c_seq ?_
  refine c_region ?_
  refine l_op (o_val (r_mv) ?_)
  refine l_op (o_val (r_bld' (pv := []) bd31 rfl rfl) ?_)
  refine l_op (o_callR Try.func98 rfl rfl rfl (aVerify_ret _ ⟨hd a7, n8, c9, expB ([] : List Ent)⟩ (H.slOwn (i := 1) rfl) (show n8 ≤ 65536 by omega) (List.replicate 32 (0 : UInt8)) (show (List.replicate 32 (0 : UInt8)).length = 32 from (List.length_replicate ..))) ?_)
  rintro _ w ⟨rfl, Hc⟩
  replace H : Hp _ w _ ([_, _]) := H.call Hc
  clear Hc
  refine l_op (o_val (r_mv) ?_)
  refine l_op (o_val (r_ext rfl rfl) ?_)
  refine l_op (o_val (r_ext rfl rfl) ?_)
  refine l_op (o_val (r_as) ?_)
  refine l_op (o_val (r_as) ?_)
  first | refine l_end ?_ | refine l_nil ?_
  repeat refine c_seq ?_
  refine c_region ?_
  refine l_op (o_val (r_mv) ?_)
  refine l_op (o_val (r_bin (a := 0) (b := 0) rfl rfl (fun _ => b_eqlB true (decide_eq_true (by omega)))) ?_)
  refine l_op (o_val (r_mv) ?_)
  refine l_yes rfl rfl rfl (o_val (r_mv) ?_)
  refine l_yes rfl rfl rfl (o_val (r_bin (a := 0) (b := 0) rfl rfl (fun _ => b_eqlB true (decide_eq_true (by omega)))) ?_)
  refine l_op (o_val (r_pick rfl) ?_)
  refine l_op (o_val (r_mv) ?_)
  refine l_yes rfl rfl rfl (o_val (r_mv) ?_)
  refine l_yes rfl rfl rfl (o_val (r_bin (a := ((verC (expB ([] : List Ent)) (List.replicate 32 (0 : UInt8)) : Nat) : Int)) (b := 0) rfl rfl (fun _ => b_eqlB true (decide_eq_true (by omega)))) ?_)
  refine l_op (o_val (r_pick rfl) ?_)
  refine l_op (o_val (r_mv) ?_)
  refine l_yes rfl rfl rfl (o_val (r_mv) ?_)
  refine l_yes rfl rfl rfl (o_val (r_lens el29 rfl) ?_)
  refine l_yes rfl rfl rfl (o_val (r_bin (a := (n3 : Int)) (b := 61) rfl rfl (fun _ => b_eqlB true (decide_eq_true (by omega)))) ?_)
  refine l_op (o_val (r_pick rfl) ?_)
  refine l_op (o_val (r_mv) ?_)
  refine l_yes rfl rfl rfl (o_val (r_mv) ?_)
  refine l_yes rfl rfl rfl (o_val (r_lens el29 rfl) ?_)
  refine l_yes rfl rfl rfl (o_val (r_bin (a := (n8 : Int)) (b := 10) rfl rfl (fun _ => b_eqlB true (decide_eq_true (by omega)))) ?_)
  refine l_op (o_val (r_pick rfl) ?_)
  refine l_op (o_val (r_mv) ?_)
  refine l_yes rfl rfl rfl (o_val (r_mv) ?_)
  refine l_yes rfl rfl rfl (o_val (r_bin (a := ((verN (expB ([] : List Ent)) (List.replicate 32 (0 : UInt8)) : Nat) : Int)) (b := 0) rfl rfl (fun _ => b_eqlB true (decide_eq_true (by omega)))) ?_)
  refine l_op (o_val (r_pick rfl) ?_)
  refine l_op (o_val (r_as) ?_)
  first | refine l_end ?_ | refine l_nil ?_
  refine c_ret ?_
  try dsimp only [Exit.then, Exit.inBlock]
  refine e_ret1 (v := .bool true) Try.results83 rfl ?_
  refine ⟨_, rfl, ?_⟩
  refine ⟨?_, H.sub (List.nil_sublist _)⟩
  first | rfl | (congr 1; exact decide_eq_true (by omega))
end Go.Proofs.Ytjmbbhnpfmblpaa
namespace Go.Proofs.Ytjmbbhnpfmblpaa
open Go
set_option maxRecDepth 100000
theorem spoilN_ret (w0 : World) (b len cap : Nat) (C : List Value) (hH : w0.heap[b]? = some (.cells C.toArray 5 (0, 0))) (hC : C.length = cap) (hlc : len ≤ cap) (hm : cap ≤ maxLen) :
    Ret Try.prog 43 [.slice (some ⟨b, 0, none⟩) len cap] w0 fun v w' => v = .tuple #[] ∧ Hp w0 w' [b] [.blk b (List.replicate cap (V8 90)) 5] := by
  refine ret_mk Try.func43 rfl Try.ntmps43 (by simp) ?_
  have hmL : maxLen = 9223372036854775807 := rfl
  have H := Hp.start w0 (.blk b C 5) b hH rfl
  repeat refine c_seq ?_
  refine c_region ?_
  refine l_op (o_mv ?_)
  refine l_op (o_mv ?_)
  refine l_op (o_caps el29 rfl ?_)
  refine l_op (o_sl (a := some ⟨b, 0, none⟩) (len := len) (cap := cap) rfl el29 rfl rfl rfl (fun w => by exact sb_h (by omega) (by omega) w) ?_)
  refine l_op (o_as ?_)
  first | refine l_end ?_ | refine l_nil ?_
  rw [sa_zero]
  repeat refine c_seq ?_
  refine c_region ?_
  refine l_op (o_as ?_)
  first | refine l_end ?_ | refine l_nil ?_
  repeat refine c_seq ?_
  refine c_block ?_
  have hcap : ((cap : Int).toNat - 0) = cap := by omega
  rw [hcap]
  refine c_loop (ι := Nat) (fun i => [(3, VI i), (2, .slice (some ⟨b, 0, none⟩) cap cap)])
    (fun i w => i ≤ cap ∧ Hp w0 w [b] [.blk b (sp C i) 5])
    (fun i => cap - i) 0 ⟨rfl, rfl, trivial⟩ ⟨by omega, H⟩ ?_
  clear H
  rintro i τ w ⟨hi, H⟩
  have hsl := sp_length C i (by omega)
  repeat refine c_seq ?_
  refine c_region ?_
  refine l_op (o_mv ?_)
  refine l_op (o_mv ?_)
  refine l_op (o_lens el29 rfl ?_)
  refine l_op (o_bin rfl rfl (fun _ => b_lss) ?_)
  first | refine l_end ?_ | refine l_nil ?_
  repeat refine c_seq ?_
  refine c_ifD rfl (fun hlt => ?_) (fun hlt => ?_)
  · have hlt' : i < cap := by omega
    have x1 : 0 + (i : Int).toNat * 1 = i := by omega
    refine c_skip ?_
    repeat refine c_seq ?_
    refine c_block ?_
    repeat refine c_seq ?_
    refine c_region ?_
    refine l_op (o_mv ?_)
    refine l_op (o_mv ?_)
    refine l_op (o_is (a := some ⟨b, 0, none⟩) rfl rfl el29 (by omega) (by omega) (by decide) (Ch.rd_all (H.has _ List.mem_cons_self)) (by omega) (fun b' o' ha => ?_))
    cases ha
    refine l_op (o_st H (i := 0) (v := V8 90) rfl rfl rfl cs5 rfl (by rw [x1]; omega) (fun w H => ?_))
    first | refine l_end ?_ | refine l_nil ?_
    have e1 := sp_set C i (by omega)
    simp only [List.set_cons_zero] at H
    rw [x1, e1] at H
    repeat refine c_seq ?_
    refine c_region ?_
    refine l_op (o_mv ?_)
    refine l_op (o_bin rfl rfl (fun _ => b_add (by omega) (by omega)) ?_)
    refine l_op (o_as ?_)
    first | refine l_end ?_ | refine l_nil ?_
    refine round_end (i + 1) ?_ ?_ ?_
    · exact ⟨rfl, rfl, trivial⟩
    · exact ⟨hlt', H⟩
    · show cap - (i + 1) < cap - i; omega
  · have hi' : i = cap := by omega
    subst hi'
    have e1 : sp C i = List.replicate i (V8 90) := by rw [sp, List.drop_of_length_le (by omega), List.append_nil]
    rw [e1] at H
    refine c_exit ?_
    simp only [Exit.then, Exit.inBlock, ↓reduceIte]
    refine e_norm (e_ret0 Try.results43 ?_)
    exact ⟨_, rfl, rfl, H⟩
end Go.Proofs.Ytjmbbhnpfmblpaa
namespace Go.Proofs.Ytjmbbhnpfmblpaa
open Go
set_option maxRecDepth 100000
/-- a twin: where it stands. -/
def Sl.at (t : Sl) : Prop := ∃ b, t.a = some ⟨b, 0, none⟩ ∧ t.l.length = t.len ∧ t.cap = t.len + 3 ∧ t.len ≤ 1048576
end Go.Proofs.Ytjmbbhnpfmblpaa
namespace Go.Proofs.Ytjmbbhnpfmblpaa
open Go
set_option maxRecDepth 100000
theorem spoil0b_ret (w0 : World) :
    Ret Try.prog 43 [.slice none 0 0] w0 fun v w' => v = .tuple #[] ∧ Hp w0 w' [] [] := by
  refine ret_mk Try.func43 rfl Try.ntmps43 (by simp) ?_
  have H := Hp.refl w0 []
  repeat refine c_seq ?_
  refine c_region ?_
  refine l_op (o_val (r_mv) ?_)
  refine l_op (o_val (r_mv) ?_)
  refine l_op (o_val (r_caps el29 rfl) ?_)
  refine l_op (o_val (r_slH (h := 0) (m := 0) (hv := some (VI 0)) rfl el29 rfl rfl rfl (fun w => by exact sbh 0 rfl (by omega) w)) ?_)
  refine l_op (o_val (r_as) ?_)
  first | refine l_end ?_ | refine l_nil ?_
  repeat refine c_seq ?_
  refine c_region ?_
  refine l_op (o_val (r_as) ?_)
  first | refine l_end ?_ | refine l_nil ?_
  repeat refine c_seq ?_
  refine c_block ?_
  repeat refine c_seq ?_
  refine c_loop (fun (i : Nat) => [(2, .slice none 0 0), (3, VI (i : Int))])
    (fun (i : Nat) w => (i = 0) ∧ Hp w0 w [] ([]))
    (fun (i : Nat) => 0) 0 ⟨rfl, rfl, trivial⟩ ⟨rfl, H⟩ ?_
  clear H
  rintro i τ w ⟨hi, H⟩
  repeat refine c_seq ?_
  refine c_region ?_
  refine l_op (o_val (r_mv) ?_)
  refine l_op (o_val (r_mv) ?_)
  refine l_op (o_val (r_lens el29 rfl) ?_)
  refine l_op (o_val (r_bin (a := (i : Int)) (b := 0) rfl rfl (fun _ => b_lssB false (decide_eq_false (by omega)))) ?_)
  first | refine l_end ?_ | refine l_nil ?_
  repeat refine c_seq ?_
  refine c_no rfl ?_
  refine c_exit ?_
  try simp only [Exit.then, Exit.inBlock, ↓reduceIte]
  refine e_norm ?_
  refine e_ret0 Try.results43 ?_
  refine ⟨_, rfl, ?_⟩
  exact ⟨rfl, H⟩
theorem spoilOwnb_ret {w0 w : World} {S : List Nat} {L : List Ch} {i : Nat} {a : Option Nat} {len cap : Nat} {l : List UInt8} (H : Hp w0 w S L) (hi : L[i]? = some (.own a len cap (l.map V8) 5 1)) :
    Ret Try.prog 43 [.slice (hd a) len cap] w fun v w' => v = .tuple #[] ∧ Hp w0 w' S (L.set i (.own a len cap ((List.replicate len (90 : UInt8)).map V8) 5 1)) := by
  have hok := H.has _ (List.mem_of_getElem? hi)
  cases a with
  | none =>
    obtain ⟨h1, h2, h3⟩ := id hok
    subst h1 h2
    refine (spoil0b_ret w).mono fun v w' ⟨hv, Hc⟩ => ⟨hv, ?_⟩
    have := H.call Hc
    rw [List.append_nil] at this
    exact this.conv hi rfl fun _ => ⟨rfl, rfl, rfl⟩
  | some b =>
    obtain ⟨h1, h2, h3, rest, hw, h5⟩ := id hok
    refine (spoilN_ret w b len cap (l.map V8 ++ rest) hw (by omega) h2 h3).mono fun v w' ⟨hv, Hc⟩ => ⟨hv, ?_⟩
    have hc' : Hp w w' [b] [.own (some b) len cap ((List.replicate len (90 : UInt8)).map V8) 5 1] := by
      refine Hc.conv (i := 0) rfl rfl fun hblk => ⟨by simp, h2, h3, List.replicate (cap - len) (V8 90), ?_, by simp; omega⟩
      simp only [Ch.ok] at hblk
      rw [hblk, List.map_replicate, List.replicate_append_replicate, show len + (cap - len) = cap by omega]
    have := H.callAt hi rfl rfl hc'
    rwa [List.append_nil] at this
end Go.Proofs.Ytjmbbhnpfmblpaa
namespace Go.Proofs.Ytjmbbhnpfmblpaa
open Go
set_option maxRecDepth 100000
theorem auditEntries_ret (w0 : World) (e : Ent) (h : List UInt8) (he : e.of_.length = 32) (hb : e.bd) (hh : h.length = 32) :
    Ret Try.prog 22 [.agg ([VI e.seq, VI e.tick, V64 e.serial, .string ⟨(e.tenant).toArray⟩, VI e.do_, VI e.status] ++ (e.of_).map V8).toArray, .agg ((h).map V8).toArray] w0 fun v w' => v = .bool true ∧ Hp w0 w' [] [] := by
  refine ret_mk Try.func22 rfl Try.ntmps22 (by simp) ?_
  have H := Hp.refl w0 []
  repeat refine c_seq ?_
  refine c_region ?_
  refine l_op (o_box (v := .agg ([VI e.seq, VI e.tick, V64 e.serial, .string ⟨(e.tenant).toArray⟩, VI e.do_, VI e.status] ++ (e.of_).map V8).toArray) H rfl (fun b1 w H hb1 => ?_))
  replace H : Hp _ w _ ([.blk b1 ([VI e.seq, VI e.tick, V64 e.serial, .string ⟨(e.tenant).toArray⟩, VI e.do_, VI e.status] ++ (e.of_).map V8) 95]) := H
  refine l_op (o_box (v := .agg ((h).map V8).toArray) H rfl (fun b2 w H hb2 => ?_))
  replace H : Hp _ w _ ([_, .blk b2 ((h).map V8) 31]) := H
  refine l_op (o_val (r_as) ?_)
  first | refine l_end ?_ | refine l_nil ?_
  repeat refine c_seq ?_
  refine c_region ?_
  refine l_op (o_callR Try.func83 rfl rfl rfl (begun20_ret _) ?_)
  rintro _ w ⟨rfl, Hc⟩
  replace H : Hp _ w _ ([_, _]) := H.call Hc
  clear Hc
  refine l_op (o_val (r_not rfl) ?_)
  first | refine l_end ?_ | refine l_nil ?_
  repeat refine c_seq ?_
  refine c_no rfl ?_
  refine c_skip ?_
  repeat refine c_seq ?_
  refine c_region ?_
  refine l_op (o_val (r_ldA (C := [VI e.seq, VI e.tick, V64 e.serial, .string ⟨(e.tenant).toArray⟩, VI e.do_, VI e.status] ++ (e.of_).map V8) H (i := 0) rfl rfl rt95 (by rw [List.length_append, List.length_map, (show (e.of_).length = 32 from he)]; rfl)) ?_)
  refine l_op (o_bslG1 (enc := entE) (e) H sl97 zc95 (by rfl) (by decide) (by decide) rfl (ent_len (show (e.of_).length = 32 from he)) (fun b3 w H hb3 => ?_))
  replace H : Hp _ w _ ([_, _, .own (some b3) 1 1 (([e]).flatMap entE) 95 38]) := H
  refine l_op (o_callR Try.func84 rfl rfl rfl (light20_ret _ ⟨hd (some b3), 1, 1, [e]⟩ (H.glOwn (i := 2) rfl (by decide) (fun c hc => by rw [List.mem_singleton.1 hc]; exact (ent_len (show (e.of_).length = 32 from he)))) 1 (by omega)) ?_)
  rintro _ w ⟨rfl, Hc⟩
  replace H : Hp _ w _ ([_, _, _]) := H.call Hc
  clear Hc
  refine l_op (o_val (r_not rfl) ?_)
  first | refine l_end ?_ | refine l_nil ?_
  have hc40 := Bool.eq_false_or_eq_true (lightE ([e]) 1)
  rcases hc40 with hc4 | hc4
  ·
   repeat refine c_seq ?_
   refine c_no (by exact congrArg Value.bool (congrArg not hc4)) ?_
   refine c_skip ?_
   repeat refine c_seq ?_
   refine c_region ?_
   refine l_op (o_val (r_as) ?_)
   first | refine l_end ?_ | refine l_nil ?_
   repeat refine c_seq ?_
   refine c_block ?_
   repeat refine c_seq ?_
   refine c_loop (fun (i : Nat) => [(2, .pointer (some ⟨b1, 0, none⟩)), (3, .pointer (some ⟨b2, 0, none⟩)), (5, VI (i : Int))])
     (fun (i : Nat) w => (i ≤ 2) ∧ Hp w0 w [] ([.blk b1 ([VI e.seq, VI e.tick, V64 e.serial, .string ⟨(e.tenant).toArray⟩, VI e.do_, VI e.status] ++ (e.of_).map V8) 95, .blk b2 ((h).map V8) 31, .own (some b3) 1 1 (([e]).flatMap entE) 95 38]))
     (fun (i : Nat) => 2 - i) 0 ⟨rfl, rfl, rfl, trivial⟩ ⟨by omega, H⟩ ?_
   clear H
   rintro i τ w ⟨hi, H⟩
   repeat refine c_seq ?_
   refine c_region ?_
   refine l_op (o_val (r_mv) ?_)
   refine l_op (o_val (r_bin (a := (i : Int)) (b := 2) rfl rfl (fun _ => b_lss)) ?_)
   first | refine l_end ?_ | refine l_nil ?_
   by_cases hc5 : (i : Int) < 2
   ·
    repeat refine c_seq ?_
    refine c_yes (by exact congrArg Value.bool (decide_eq_true hc5)) ?_
    refine c_skip ?_
    repeat refine c_seq ?_
    refine c_block ?_
    repeat refine c_seq ?_
    refine c_region ?_
    refine l_op (o_val (r_ldA (C := [VI e.seq, VI e.tick, V64 e.serial, .string ⟨(e.tenant).toArray⟩, VI e.do_, VI e.status] ++ (e.of_).map V8) H (i := 0) rfl rfl rt95 (by rw [List.length_append, List.length_map, (show (e.of_).length = 32 from he)]; rfl)) ?_)
    have hc60 := Bool.eq_false_or_eq_true (mayE e)
    rcases hc60 with hc6 | hc6
    ·
     refine l_op (o_callR Try.func85 rfl rfl rfl (aBytes_ok _ e (show (e.of_).length = 32 from he) hb hc6) ?_)
     rintro _ w ⟨a7, n8, c9, rfl, hn10, Hc⟩
     replace H : Hp _ w _ ([_, _, _, .own a7 n8 c9 ((entB e).map V8) 5 1]) := H.call Hc
     clear Hc
     refine l_op (o_val (r_mv) ?_)
     refine l_op (o_val (r_ext rfl rfl) ?_)
     refine l_op (o_val (r_ext rfl rfl) ?_)
     refine l_op (o_val (r_as) ?_)
     refine l_op (o_val (r_as) ?_)
     first | refine l_end ?_ | refine l_nil ?_
     repeat refine c_seq ?_
     refine c_region ?_
     refine l_op (o_val (r_ldA (C := [VI e.seq, VI e.tick, V64 e.serial, .string ⟨(e.tenant).toArray⟩, VI e.do_, VI e.status] ++ (e.of_).map V8) H (i := 0) rfl rfl rt95 (by rw [List.length_append, List.length_map, (show (e.of_).length = 32 from he)]; rfl)) ?_)
     refine l_op (o_callR Try.func86 rfl rfl rfl (aBytesr_ok _ e (show (e.of_).length = 32 from he) hb hc6) ?_)
     rintro _ w ⟨a11, n12, c13, rfl, hn14, Hc⟩
     replace H : Hp _ w _ ([_, _, _, _, .own a11 n12 c13 ((entB e).map V8) 5 1]) := H.call Hc
     clear Hc
     refine l_op (o_val (r_mv) ?_)
     refine l_op (o_val (r_ext rfl rfl) ?_)
     refine l_op (o_val (r_ext rfl rfl) ?_)
     refine l_op (o_val (r_as) ?_)
     refine l_op (o_val (r_as) ?_)
     first | refine l_end ?_ | refine l_nil ?_
     repeat refine c_seq ?_
     refine c_region ?_
     refine l_op (o_val (r_ldAA (l := h) H (i := 1) rfl rfl rt31 (show (h).length = 32 from hh)) ?_)
     refine l_op (o_val (r_ldA (C := [VI e.seq, VI e.tick, V64 e.serial, .string ⟨(e.tenant).toArray⟩, VI e.do_, VI e.status] ++ (e.of_).map V8) H (i := 0) rfl rfl rt95 (by rw [List.length_append, List.length_map, (show (e.of_).length = 32 from he)]; rfl)) ?_)
     refine l_op (o_callR Try.func87 rfl rfl rfl (aLink_ok _ (h) (show (h).length = 32 from hh) e (show (e.of_).length = 32 from he) hb hc6) ?_)
     rintro _ w ⟨rfl, Hc⟩
     replace H : Hp _ w _ ([_, _, _, _, _]) := H.call Hc
     clear Hc
     refine l_op (o_val (r_mv) ?_)
     refine l_op (o_val (r_ext rfl rfl) ?_)
     refine l_op (o_val (r_ext rfl rfl) ?_)
     refine l_op (o_alloc H zc31 (fun b15 w H hb15 => ?_))
     replace H : Hp _ w _ ([_, _, _, _, _, .blk b15 ((List.replicate 32 (0 : UInt8)).map V8) 31]) := H
     refine l_op (o_stA (l' := linkF (h) e) H (i := 5) rfl rfl rfl cs31 (show (List.replicate 32 (0 : UInt8)).length = 32 from (List.length_replicate ..)) (show (linkF (h) e).length = 32 from (linkF_len _ _)) (fun w H => ?_))
     replace H : Hp _ w _ ([_, _, _, _, _, .blk b15 ((linkF (h) e).map V8) 31]) := H
     refine l_op (o_val (r_as) ?_)
     first | refine l_end ?_ | refine l_nil ?_
     repeat refine c_seq ?_
     refine c_region ?_
     refine l_op (o_val (r_ldAA (l := h) H (i := 1) rfl rfl rt31 (show (h).length = 32 from hh)) ?_)
     refine l_op (o_val (r_ldA (C := [VI e.seq, VI e.tick, V64 e.serial, .string ⟨(e.tenant).toArray⟩, VI e.do_, VI e.status] ++ (e.of_).map V8) H (i := 0) rfl rfl rt95 (by rw [List.length_append, List.length_map, (show (e.of_).length = 32 from he)]; rfl)) ?_)
     refine l_op (o_callR Try.func88 rfl rfl rfl (aLinkr_ok _ (h) (show (h).length = 32 from hh) e (show (e.of_).length = 32 from he) hb hc6) ?_)
     rintro _ w ⟨rfl, Hc⟩
     replace H : Hp _ w _ ([_, _, _, _, _, _]) := H.call Hc
     clear Hc
     refine l_op (o_val (r_mv) ?_)
     refine l_op (o_val (r_ext rfl rfl) ?_)
     refine l_op (o_val (r_ext rfl rfl) ?_)
     refine l_op (o_alloc H zc31 (fun b16 w H hb16 => ?_))
     replace H : Hp _ w _ ([_, _, _, _, _, _, .blk b16 ((List.replicate 32 (0 : UInt8)).map V8) 31]) := H
     refine l_op (o_stA (l' := linkF (h) e) H (i := 6) rfl rfl rfl cs31 (show (List.replicate 32 (0 : UInt8)).length = 32 from (List.length_replicate ..)) (show (linkF (h) e).length = 32 from (linkF_len _ _)) (fun w H => ?_))
     replace H : Hp _ w _ ([_, _, _, _, _, _, .blk b16 ((linkF (h) e).map V8) 31]) := H
     refine l_op (o_val (r_as) ?_)
     first | refine l_end ?_ | refine l_nil ?_
     repeat refine c_seq ?_
     refine wp_held (fun w => Hp w0 w [] [.blk b1 ([VI e.seq, VI e.tick, V64 e.serial, .string ⟨(e.tenant).toArray⟩, VI e.do_, VI e.status] ++ (e.of_).map V8) 95, .blk b2 ((h).map V8) 31, .own (some b3) 1 1 (([e]).flatMap entE) 95 38, .own a7 n8 c9 ((entB e).map V8) 5 1, .own a11 n12 c13 ((entB e).map V8) 5 1, .blk b15 ((linkF (h) e).map V8) 31, .blk b16 ((linkF (h) e).map V8) 31]) mixed ?_
     replace H := H.drew
     have HS := H
     refine t_take 0 rfl (by kernel_rfl) (by kernel_rfl) (by kernel_rfl) (fun _ _ _ h => h) (fun w HS => r_mv) HS ?_
     refine t_take 1 rfl (by kernel_rfl) (by kernel_rfl) (by kernel_rfl) (fun _ _ _ h => h) (fun w HS => r_mv) HS ?_
     refine t_take 2 rfl (by kernel_rfl) (by kernel_rfl) (by kernel_rfl) (fun _ _ _ h => h) (fun w HS => r_bin (a := 0) (b := 0) rfl rfl (fun _ => b_neqB false (decide_eq_false (by decide)))) HS ?_
     refine t_take 3 rfl (by kernel_rfl) (by kernel_rfl) (by kernel_rfl) (fun _ _ _ h => h) (fun w HS => r_mv) HS ?_
     refine t_takeg 4 rfl (by kernel_rfl) (by kernel_rfl) (by kernel_rfl) (fun _ _ _ h => h) (yielded_mk _ _ _ rfl _ rfl rfl) (fun w HS => r_mv) HS ?_
     refine t_takeg 5 rfl (by kernel_rfl) (by kernel_rfl) (by kernel_rfl) (fun _ _ _ h => h) (yielded_mk _ _ _ rfl _ rfl rfl) (fun w HS => r_mv) HS ?_
     refine t_takeg 6 rfl (by kernel_rfl) (by kernel_rfl) (by kernel_rfl) (fun _ _ _ h => h) (yielded_mk _ _ _ rfl _ rfl rfl) (fun w HS => r_bin (a := 0) (b := 0) rfl rfl (fun _ => b_neqB false (decide_eq_false (by decide)))) HS ?_
     refine t_take 7 rfl (by kernel_rfl) (by kernel_rfl) (by kernel_rfl) (fun _ _ _ h => h) (fun w HS => r_pick rfl) HS ?_
     refine t_take 8 rfl (by kernel_rfl) (by kernel_rfl) (by kernel_rfl) (fun _ _ _ h => h) (fun w HS => r_mv) HS ?_
     refine t_takeg 9 rfl (by kernel_rfl) (by kernel_rfl) (by kernel_rfl) (fun _ _ _ h => h) (yielded_mk _ _ _ rfl _ rfl rfl) (fun w HS => r_mv) HS ?_
     refine t_takeg 10 rfl (by kernel_rfl) (by kernel_rfl) (by kernel_rfl) (fun _ _ _ h => h) (yielded_mk _ _ _ rfl _ rfl rfl) (fun w HS => r_b2S (s := ⟨hd a7, n8, c9, entB e⟩) Try.underlying29 Try.underlying5 Try.underlying9 rfl (HS.slOwn (i := 3) rfl)) HS ?_
     refine t_takeg 11 rfl (by kernel_rfl) (by kernel_rfl) (by kernel_rfl) (fun _ _ _ h => h) (yielded_mk _ _ _ rfl _ rfl rfl) (fun w HS => r_mv) HS ?_
     refine t_takeg 12 rfl (by kernel_rfl) (by kernel_rfl) (by kernel_rfl) (fun _ _ _ h => h) (yielded_mk _ _ _ rfl _ rfl rfl) (fun w HS => r_b2S (s := ⟨hd a11, n12, c13, entB e⟩) Try.underlying29 Try.underlying5 Try.underlying9 rfl (HS.slOwn (i := 4) rfl)) HS ?_
     refine t_takeg 13 rfl (by kernel_rfl) (by kernel_rfl) (by kernel_rfl) (fun _ _ _ h => h) (yielded_mk _ _ _ rfl _ rfl rfl) (fun w HS => r_strne (a := entB e) (b := entB e) rfl rfl) HS ?_
     refine t_take 14 rfl (by kernel_rfl) (by kernel_rfl) (by kernel_rfl) (fun _ _ _ h => h) (fun w HS => r_pick rfl) HS ?_
     refine t_take 15 rfl (by kernel_rfl) (by kernel_rfl) (by kernel_rfl) (fun _ _ _ h => h) (fun w HS => r_mv) HS ?_
     refine t_takeg 16 rfl (by kernel_rfl) (by kernel_rfl) (by kernel_rfl) (fun _ _ _ h => h) (yielded_mk _ _ _ rfl _ rfl (by exact congrArg Value.bool (congrArg not (decide_eq_true (rfl : entB e = entB e))))) (fun w HS => r_ldAA (l := linkF (h) e) HS (i := 5) rfl rfl rt31 (show (linkF (h) e).length = 32 from (linkF_len _ _))) HS ?_
     refine t_takeg 17 rfl (by kernel_rfl) (by kernel_rfl) (by kernel_rfl) (fun _ _ _ h => h) (yielded_mk _ _ _ rfl _ rfl (by exact congrArg Value.bool (congrArg not (decide_eq_true (rfl : entB e = entB e))))) (fun w HS => r_ldAA (l := linkF (h) e) HS (i := 6) rfl rfl rt31 (show (linkF (h) e).length = 32 from (linkF_len _ _))) HS ?_
     refine t_takeg 18 rfl (by kernel_rfl) (by kernel_rfl) (by kernel_rfl) (fun _ _ _ h => h) (yielded_mk _ _ _ rfl _ rfl (by exact congrArg Value.bool (congrArg not (decide_eq_true (rfl : entB e = entB e))))) (fun w HS => r_nea (a := linkF (h) e) (b := linkF (h) e) Try.underlying31 Try.underlying5 cs5 rfl rfl (show (linkF (h) e).length = 32 from (linkF_len _ _)) (show (linkF (h) e).length = 32 from (linkF_len _ _))) HS ?_
     refine t_take 19 rfl (by kernel_rfl) (by kernel_rfl) (by kernel_rfl) (fun _ _ _ h => h) (fun w HS => r_pick (b := false) (congrArg Value.bool (congrArg not (decide_eq_true (rfl : entB e = entB e))))) HS ?_
     refine t_take 20 rfl (by kernel_rfl) (by kernel_rfl) (by kernel_rfl) (fun _ _ _ h => h) (fun w HS => r_mv) HS ?_
     refine t_takeg 21 rfl (by kernel_rfl) (by kernel_rfl) (by kernel_rfl) (fun _ _ _ h => h) (yielded_mk _ _ _ rfl _ rfl (by exact congrArg Value.bool (congrArg not (decide_eq_true (rfl : linkF (h) e = linkF (h) e))))) (fun w HS => r_ldA (C := [VI e.seq, VI e.tick, V64 e.serial, .string ⟨(e.tenant).toArray⟩, VI e.do_, VI e.status] ++ (e.of_).map V8) HS (i := 0) rfl rfl rt95 (by rw [List.length_append, List.length_map, (show (e.of_).length = 32 from he)]; rfl)) HS ?_
     refine t_takeg 23 rfl (by kernel_rfl) (by kernel_rfl) (by kernel_rfl) (fun _ _ _ h => h) (yielded_mk _ _ _ rfl _ rfl (by exact congrArg Value.bool (congrArg not (decide_eq_true (rfl : linkF (h) e = linkF (h) e))))) (fun w HS => r_ldA (C := [VI e.seq, VI e.tick, V64 e.serial, .string ⟨(e.tenant).toArray⟩, VI e.do_, VI e.status] ++ (e.of_).map V8) HS (i := 0) rfl rfl rt95 (by rw [List.length_append, List.length_map, (show (e.of_).length = 32 from he)]; rfl)) HS ?_
     refine t_stepg 22 rfl (by kernel_rfl) (yielded_mk _ _ _ rfl _ rfl (by exact congrArg Value.bool (congrArg not (decide_eq_true (rfl : linkF (h) e = linkF (h) e))))) (o_callR Try.func89 rfl rfl rfl (aMay_ret _ e (show (e.of_).length = 32 from he)) ?_)
     rintro _ w ⟨rfl, Hc⟩
     replace H : Hp _ w _ ([_, _, _, _, _, _, _]) := H.call Hc
     clear Hc
     refine ⟨H, ?_⟩
     replace HS := H
     refine t_stepg 24 rfl (by kernel_rfl) (yielded_mk _ _ _ rfl _ rfl (by exact congrArg Value.bool (congrArg not (decide_eq_true (rfl : linkF (h) e = linkF (h) e))))) (o_callR Try.func90 rfl rfl rfl (aMayr_ret _ e (show (e.of_).length = 32 from he)) ?_)
     rintro _ w ⟨rfl, Hc⟩
     replace H : Hp _ w _ ([_, _, _, _, _, _, _]) := H.call Hc
     clear Hc
     refine ⟨H, ?_⟩
     replace HS := H
     refine t_takeg 25 rfl (by kernel_rfl) (by kernel_rfl) (by kernel_rfl) (fun _ _ _ h => h) (yielded_mk _ _ _ rfl _ rfl (by exact congrArg Value.bool (congrArg not (decide_eq_true (rfl : linkF (h) e = linkF (h) e))))) (fun w HS => r_bne Try.underlying4 rfl rfl) HS ?_
     have hk17 : (!((mayE e) == (mayE e))) = false := (by show (!(mayE e == mayE e)) = false; simp)
     refine t_take 26 rfl (by kernel_rfl) (by kernel_rfl) (by kernel_rfl) (fun _ _ _ h => h) (fun w HS => r_pick (b := false) (congrArg Value.bool (congrArg not (decide_eq_true (rfl : linkF (h) e = linkF (h) e))))) HS ?_
     refine t_done (by kernel_rfl) ?_
     clear HS
     repeat refine c_seq ?_
     refine c_no (by exact congrArg Value.bool hk17) ?_
     refine c_skip ?_
     repeat refine c_seq ?_
     refine c_region ?_
     refine l_op (o_val (r_mv) ?_)
     refine l_op (o_callR Try.func43 rfl rfl rfl (spoilOwnb_ret H (i := 3) rfl) ?_)
     rintro _ w ⟨rfl, Hc⟩
     clear H
     have H := Hc; clear Hc
     replace H : Hp _ w _ ([_, _, _, .own a7 n8 c9 ((List.replicate (n8) (90 : UInt8)).map V8) 5 1, _, _, _]) := H
     first | refine l_end ?_ | refine l_nil ?_
     repeat refine c_seq ?_
     refine c_region ?_
     refine l_op (o_val (r_mv) ?_)
     refine l_op (o_val (r_bin (a := (i : Int)) (b := 1) rfl rfl (fun _ => b_add (by omega) (by omega))) ?_)
     refine l_op (o_val (r_as) ?_)
     first | refine l_end ?_ | refine l_nil ?_
     refine round_end (i + 1) ?_ ?_ ?_
     · exact ⟨rfl, rfl, show VI ((i : Int) + 1) = VI ((i + 1 : Nat) : Int) from congrArg VI (by omega), trivial⟩
     · refine ⟨?_, ?_⟩
       · try dsimp only
         exact by omega
       · exact H.sub (.cons_cons _ (.cons_cons _ (.cons_cons _ (List.nil_sublist _))))
     · show 2 - (i + 1 : Nat) < 2 - i; omega
    ·
     refine l_op (o_callR Try.func85 rfl rfl rfl (aBytes_no _ e (show (e.of_).length = 32 from he) hc6) ?_)
     rintro _ w ⟨rfl, Hc⟩
     replace H : Hp _ w _ ([_, _, _]) := H.call Hc
     clear Hc
     refine l_op (o_val (r_mv) ?_)
     refine l_op (o_val (r_ext rfl rfl) ?_)
     refine l_op (o_val (r_ext rfl rfl) ?_)
     refine l_op (o_val (r_as) ?_)
     refine l_op (o_val (r_as) ?_)
     first | refine l_end ?_ | refine l_nil ?_
     repeat refine c_seq ?_
     refine c_region ?_
     refine l_op (o_val (r_ldA (C := [VI e.seq, VI e.tick, V64 e.serial, .string ⟨(e.tenant).toArray⟩, VI e.do_, VI e.status] ++ (e.of_).map V8) H (i := 0) rfl rfl rt95 (by rw [List.length_append, List.length_map, (show (e.of_).length = 32 from he)]; rfl)) ?_)
     refine l_op (o_callR Try.func86 rfl rfl rfl (aBytesr_no _ e (show (e.of_).length = 32 from he) hc6) ?_)
     rintro _ w ⟨rfl, Hc⟩
     replace H : Hp _ w _ ([_, _, _]) := H.call Hc
     clear Hc
     refine l_op (o_val (r_mv) ?_)
     refine l_op (o_val (r_ext rfl rfl) ?_)
     refine l_op (o_val (r_ext rfl rfl) ?_)
     refine l_op (o_val (r_as) ?_)
     refine l_op (o_val (r_as) ?_)
     first | refine l_end ?_ | refine l_nil ?_
     repeat refine c_seq ?_
     refine c_region ?_
     refine l_op (o_val (r_ldAA (l := h) H (i := 1) rfl rfl rt31 (show (h).length = 32 from hh)) ?_)
     refine l_op (o_val (r_ldA (C := [VI e.seq, VI e.tick, V64 e.serial, .string ⟨(e.tenant).toArray⟩, VI e.do_, VI e.status] ++ (e.of_).map V8) H (i := 0) rfl rfl rt95 (by rw [List.length_append, List.length_map, (show (e.of_).length = 32 from he)]; rfl)) ?_)
     refine l_op (o_callR Try.func87 rfl rfl rfl (aLink_no _ (h) (show (h).length = 32 from hh) e (show (e.of_).length = 32 from he) hb hc6) ?_)
     rintro _ w ⟨rfl, Hc⟩
     replace H : Hp _ w _ ([_, _, _]) := H.call Hc
     clear Hc
     refine l_op (o_val (r_mv) ?_)
     refine l_op (o_val (r_ext rfl rfl) ?_)
     refine l_op (o_val (r_ext rfl rfl) ?_)
     refine l_op (o_alloc H zc31 (fun b18 w H hb18 => ?_))
     replace H : Hp _ w _ ([_, _, _, .blk b18 ((List.replicate 32 (0 : UInt8)).map V8) 31]) := H
     refine l_op (o_stA (l' := Z32a) H (i := 3) rfl rfl rfl cs31 (show (List.replicate 32 (0 : UInt8)).length = 32 from (List.length_replicate ..)) (show (Z32a).length = 32 from (List.length_replicate ..)) (fun w H => ?_))
     replace H : Hp _ w _ ([_, _, _, .blk b18 ((Z32a).map V8) 31]) := H
     refine l_op (o_val (r_as) ?_)
     first | refine l_end ?_ | refine l_nil ?_
     repeat refine c_seq ?_
     refine c_region ?_
     refine l_op (o_val (r_ldAA (l := h) H (i := 1) rfl rfl rt31 (show (h).length = 32 from hh)) ?_)
     refine l_op (o_val (r_ldA (C := [VI e.seq, VI e.tick, V64 e.serial, .string ⟨(e.tenant).toArray⟩, VI e.do_, VI e.status] ++ (e.of_).map V8) H (i := 0) rfl rfl rt95 (by rw [List.length_append, List.length_map, (show (e.of_).length = 32 from he)]; rfl)) ?_)
     refine l_op (o_callR Try.func88 rfl rfl rfl (aLinkr_no _ (h) (show (h).length = 32 from hh) e (show (e.of_).length = 32 from he) hb hc6) ?_)
     rintro _ w ⟨rfl, Hc⟩
     replace H : Hp _ w _ ([_, _, _, _]) := H.call Hc
     clear Hc
     refine l_op (o_val (r_mv) ?_)
     refine l_op (o_val (r_ext rfl rfl) ?_)
     refine l_op (o_val (r_ext rfl rfl) ?_)
     refine l_op (o_alloc H zc31 (fun b19 w H hb19 => ?_))
     replace H : Hp _ w _ ([_, _, _, _, .blk b19 ((List.replicate 32 (0 : UInt8)).map V8) 31]) := H
     refine l_op (o_stA (l' := Z32a) H (i := 4) rfl rfl rfl cs31 (show (List.replicate 32 (0 : UInt8)).length = 32 from (List.length_replicate ..)) (show (Z32a).length = 32 from (List.length_replicate ..)) (fun w H => ?_))
     replace H : Hp _ w _ ([_, _, _, _, .blk b19 ((Z32a).map V8) 31]) := H
     refine l_op (o_val (r_as) ?_)
     first | refine l_end ?_ | refine l_nil ?_
     repeat refine c_seq ?_
     refine wp_held (fun w => Hp w0 w [] [.blk b1 ([VI e.seq, VI e.tick, V64 e.serial, .string ⟨(e.tenant).toArray⟩, VI e.do_, VI e.status] ++ (e.of_).map V8) 95, .blk b2 ((h).map V8) 31, .own (some b3) 1 1 (([e]).flatMap entE) 95 38, .blk b18 ((Z32a).map V8) 31, .blk b19 ((Z32a).map V8) 31]) mixed ?_
     replace H := H.drew
     have HS := H
     refine t_take 0 rfl (by kernel_rfl) (by kernel_rfl) (by kernel_rfl) (fun _ _ _ h => h) (fun w HS => r_mv) HS ?_
     refine t_take 1 rfl (by kernel_rfl) (by kernel_rfl) (by kernel_rfl) (fun _ _ _ h => h) (fun w HS => r_mv) HS ?_
     refine t_take 2 rfl (by kernel_rfl) (by kernel_rfl) (by kernel_rfl) (fun _ _ _ h => h) (fun w HS => r_bin (a := 1) (b := 1) rfl rfl (fun _ => b_neqB false (decide_eq_false (by decide)))) HS ?_
     refine t_take 3 rfl (by kernel_rfl) (by kernel_rfl) (by kernel_rfl) (fun _ _ _ h => h) (fun w HS => r_mv) HS ?_
     refine t_takeg 4 rfl (by kernel_rfl) (by kernel_rfl) (by kernel_rfl) (fun _ _ _ h => h) (yielded_mk _ _ _ rfl _ rfl rfl) (fun w HS => r_mv) HS ?_
     refine t_takeg 5 rfl (by kernel_rfl) (by kernel_rfl) (by kernel_rfl) (fun _ _ _ h => h) (yielded_mk _ _ _ rfl _ rfl rfl) (fun w HS => r_mv) HS ?_
     refine t_takeg 6 rfl (by kernel_rfl) (by kernel_rfl) (by kernel_rfl) (fun _ _ _ h => h) (yielded_mk _ _ _ rfl _ rfl rfl) (fun w HS => r_bin (a := 1) (b := 1) rfl rfl (fun _ => b_neqB false (decide_eq_false (by decide)))) HS ?_
     refine t_take 7 rfl (by kernel_rfl) (by kernel_rfl) (by kernel_rfl) (fun _ _ _ h => h) (fun w HS => r_pick rfl) HS ?_
     refine t_take 8 rfl (by kernel_rfl) (by kernel_rfl) (by kernel_rfl) (fun _ _ _ h => h) (fun w HS => r_mv) HS ?_
     refine t_takeg 9 rfl (by kernel_rfl) (by kernel_rfl) (by kernel_rfl) (fun _ _ _ h => h) (yielded_mk _ _ _ rfl _ rfl rfl) (fun w HS => r_mv) HS ?_
     refine t_takeg 10 rfl (by kernel_rfl) (by kernel_rfl) (by kernel_rfl) (fun _ _ _ h => h) (yielded_mk _ _ _ rfl _ rfl rfl) (fun w HS => r_b2S (s := ⟨none, 0, 0, []⟩) Try.underlying29 Try.underlying5 Try.underlying9 rfl (Sl.ok_nil _)) HS ?_
     refine t_takeg 11 rfl (by kernel_rfl) (by kernel_rfl) (by kernel_rfl) (fun _ _ _ h => h) (yielded_mk _ _ _ rfl _ rfl rfl) (fun w HS => r_mv) HS ?_
     refine t_takeg 12 rfl (by kernel_rfl) (by kernel_rfl) (by kernel_rfl) (fun _ _ _ h => h) (yielded_mk _ _ _ rfl _ rfl rfl) (fun w HS => r_b2S (s := ⟨none, 0, 0, []⟩) Try.underlying29 Try.underlying5 Try.underlying9 rfl (Sl.ok_nil _)) HS ?_
     refine t_takeg 13 rfl (by kernel_rfl) (by kernel_rfl) (by kernel_rfl) (fun _ _ _ h => h) (yielded_mk _ _ _ rfl _ rfl rfl) (fun w HS => r_strne (a := ([] : List UInt8)) (b := ([] : List UInt8)) rfl rfl) HS ?_
     refine t_take 14 rfl (by kernel_rfl) (by kernel_rfl) (by kernel_rfl) (fun _ _ _ h => h) (fun w HS => r_pick rfl) HS ?_
     refine t_take 15 rfl (by kernel_rfl) (by kernel_rfl) (by kernel_rfl) (fun _ _ _ h => h) (fun w HS => r_mv) HS ?_
     refine t_takeg 16 rfl (by kernel_rfl) (by kernel_rfl) (by kernel_rfl) (fun _ _ _ h => h) (yielded_mk _ _ _ rfl _ rfl (by exact congrArg Value.bool (congrArg not (decide_eq_true (rfl : ([] : List UInt8) = ([] : List UInt8)))))) (fun w HS => r_ldAA (l := Z32a) HS (i := 3) rfl rfl rt31 (show (Z32a).length = 32 from (List.length_replicate ..))) HS ?_
     refine t_takeg 17 rfl (by kernel_rfl) (by kernel_rfl) (by kernel_rfl) (fun _ _ _ h => h) (yielded_mk _ _ _ rfl _ rfl (by exact congrArg Value.bool (congrArg not (decide_eq_true (rfl : ([] : List UInt8) = ([] : List UInt8)))))) (fun w HS => r_ldAA (l := Z32a) HS (i := 4) rfl rfl rt31 (show (Z32a).length = 32 from (List.length_replicate ..))) HS ?_
     refine t_takeg 18 rfl (by kernel_rfl) (by kernel_rfl) (by kernel_rfl) (fun _ _ _ h => h) (yielded_mk _ _ _ rfl _ rfl (by exact congrArg Value.bool (congrArg not (decide_eq_true (rfl : ([] : List UInt8) = ([] : List UInt8)))))) (fun w HS => r_nea (a := Z32a) (b := Z32a) Try.underlying31 Try.underlying5 cs5 rfl rfl (show (Z32a).length = 32 from (List.length_replicate ..)) (show (Z32a).length = 32 from (List.length_replicate ..))) HS ?_
     refine t_take 19 rfl (by kernel_rfl) (by kernel_rfl) (by kernel_rfl) (fun _ _ _ h => h) (fun w HS => r_pick (b := false) (congrArg Value.bool (congrArg not (decide_eq_true (rfl : ([] : List UInt8) = ([] : List UInt8)))))) HS ?_
     refine t_take 20 rfl (by kernel_rfl) (by kernel_rfl) (by kernel_rfl) (fun _ _ _ h => h) (fun w HS => r_mv) HS ?_
     refine t_takeg 21 rfl (by kernel_rfl) (by kernel_rfl) (by kernel_rfl) (fun _ _ _ h => h) (yielded_mk _ _ _ rfl _ rfl (by exact congrArg Value.bool (congrArg not (decide_eq_true (rfl : Z32a = Z32a))))) (fun w HS => r_ldA (C := [VI e.seq, VI e.tick, V64 e.serial, .string ⟨(e.tenant).toArray⟩, VI e.do_, VI e.status] ++ (e.of_).map V8) HS (i := 0) rfl rfl rt95 (by rw [List.length_append, List.length_map, (show (e.of_).length = 32 from he)]; rfl)) HS ?_
     refine t_takeg 23 rfl (by kernel_rfl) (by kernel_rfl) (by kernel_rfl) (fun _ _ _ h => h) (yielded_mk _ _ _ rfl _ rfl (by exact congrArg Value.bool (congrArg not (decide_eq_true (rfl : Z32a = Z32a))))) (fun w HS => r_ldA (C := [VI e.seq, VI e.tick, V64 e.serial, .string ⟨(e.tenant).toArray⟩, VI e.do_, VI e.status] ++ (e.of_).map V8) HS (i := 0) rfl rfl rt95 (by rw [List.length_append, List.length_map, (show (e.of_).length = 32 from he)]; rfl)) HS ?_
     refine t_stepg 22 rfl (by kernel_rfl) (yielded_mk _ _ _ rfl _ rfl (by exact congrArg Value.bool (congrArg not (decide_eq_true (rfl : Z32a = Z32a))))) (o_callR Try.func89 rfl rfl rfl (aMay_ret _ e (show (e.of_).length = 32 from he)) ?_)
     rintro _ w ⟨rfl, Hc⟩
     replace H : Hp _ w _ ([_, _, _, _, _]) := H.call Hc
     clear Hc
     refine ⟨H, ?_⟩
     replace HS := H
     refine t_stepg 24 rfl (by kernel_rfl) (yielded_mk _ _ _ rfl _ rfl (by exact congrArg Value.bool (congrArg not (decide_eq_true (rfl : Z32a = Z32a))))) (o_callR Try.func90 rfl rfl rfl (aMayr_ret _ e (show (e.of_).length = 32 from he)) ?_)
     rintro _ w ⟨rfl, Hc⟩
     replace H : Hp _ w _ ([_, _, _, _, _]) := H.call Hc
     clear Hc
     refine ⟨H, ?_⟩
     replace HS := H
     refine t_takeg 25 rfl (by kernel_rfl) (by kernel_rfl) (by kernel_rfl) (fun _ _ _ h => h) (yielded_mk _ _ _ rfl _ rfl (by exact congrArg Value.bool (congrArg not (decide_eq_true (rfl : Z32a = Z32a))))) (fun w HS => r_bne Try.underlying4 rfl rfl) HS ?_
     have hk20 : (!((mayE e) == (mayE e))) = false := (by show (!(mayE e == mayE e)) = false; simp)
     refine t_take 26 rfl (by kernel_rfl) (by kernel_rfl) (by kernel_rfl) (fun _ _ _ h => h) (fun w HS => r_pick (b := false) (congrArg Value.bool (congrArg not (decide_eq_true (rfl : Z32a = Z32a))))) HS ?_
     refine t_done (by kernel_rfl) ?_
     clear HS
     repeat refine c_seq ?_
     refine c_no (by exact congrArg Value.bool hk20) ?_
     refine c_skip ?_
     repeat refine c_seq ?_
     refine c_region ?_
     refine l_op (o_val (r_mv) ?_)
     refine l_op (o_callR Try.func43 rfl rfl rfl (spoil0b_ret _) ?_)
     rintro _ w ⟨rfl, Hc⟩
     replace H : Hp _ w _ ([_, _, _, _, _]) := H.call Hc
     clear Hc
     first | refine l_end ?_ | refine l_nil ?_
     repeat refine c_seq ?_
     refine c_region ?_
     refine l_op (o_val (r_mv) ?_)
     refine l_op (o_val (r_bin (a := (i : Int)) (b := 1) rfl rfl (fun _ => b_add (by omega) (by omega))) ?_)
     refine l_op (o_val (r_as) ?_)
     first | refine l_end ?_ | refine l_nil ?_
     refine round_end (i + 1) ?_ ?_ ?_
     · exact ⟨rfl, rfl, show VI ((i : Int) + 1) = VI ((i + 1 : Nat) : Int) from congrArg VI (by omega), trivial⟩
     · refine ⟨?_, ?_⟩
       · try dsimp only
         exact by omega
       · exact H.sub (.cons_cons _ (.cons_cons _ (.cons_cons _ (List.nil_sublist _))))
     · show 2 - (i + 1 : Nat) < 2 - i; omega
   ·
    repeat refine c_seq ?_
    refine c_no (by exact congrArg Value.bool (decide_eq_false hc5)) ?_
    refine c_exit ?_
    repeat refine c_seq ?_
    refine c_region ?_
    refine l_op (o_val (r_as) ?_)
    first | refine l_end ?_ | refine l_nil ?_
    refine c_ret ?_
    try dsimp only [Exit.then, Exit.inBlock]
    refine e_ret1 (v := .bool true) Try.results22 rfl ?_
    refine ⟨_, rfl, ?_⟩
    exact ⟨rfl, H.sub (List.nil_sublist _)⟩
  ·
   repeat refine c_seq ?_
   refine c_yes (by exact congrArg Value.bool (congrArg not hc4)) ?_
   repeat refine c_seq ?_
   refine c_region ?_
   refine l_op (o_val (r_as) ?_)
   first | refine l_end ?_ | refine l_nil ?_
   refine c_ret ?_
   try dsimp only [Exit.then, Exit.inBlock]
   refine e_ret1 (v := .bool true) Try.results22 rfl ?_
   refine ⟨_, rfl, ?_⟩
   exact ⟨rfl, H.sub (List.nil_sublist _)⟩
end Go.Proofs.Ytjmbbhnpfmblpaa
