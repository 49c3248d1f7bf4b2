/- Lemmas for the statement AuditTampered, part 4: rules of operations, walks through functions, plain laws. -/
import Derived.Test.YtjmbbhnpfmblpaaAuditTamperedG3
namespace Go.Proofs.Ytjmbbhnpfmblpaa
open Go
set_option maxRecDepth 100000
def lightE (l : List Ent) (m : Nat) : Bool := decide (l.length ≤ m ∧ ∀ e ∈ l, e.tenant.length ≤ 100)
theorem lightE_iff (l : List Ent) (m : Nat) : lightE l m = true ↔ l.length ≤ m ∧ ∀ e ∈ l, e.tenant.length ≤ 100 := by simp [lightE]
def numF : Nat → List Ent → List Ent
  | _, [] => []
  | k, e :: l => { e with seq := (k : Int) } :: numF (k + 1) l
theorem numF_len : ∀ (k : Nat) (l : List Ent), (numF k l).length = l.length
  | _, [] => rfl
  | k, e :: l => by rw [numF, List.length_cons, List.length_cons, numF_len (k + 1) l]
theorem numF_snoc (k : Nat) (l : List Ent) (e : Ent) : numF k (l ++ [e]) = numF k l ++ [{ e with seq := ((k + l.length : Nat) : Int) }] := by
  induction l generalizing k with
  | nil => rfl
  | cons a l ih =>
    rw [List.cons_append, numF, ih (k + 1), numF, List.cons_append, List.length_cons]
    congr 4; omega
theorem numF_take (l : List Ent) (i : Nat) (e : Ent) (h : l[i]? = some e) : numF 0 (l.take i) ++ [{ e with seq := (i : Int) }] = numF 0 (l.take (i + 1)) := by
  have hi : i < l.length := (List.getElem?_eq_some_iff.1 h).1
  rw [List.take_add_one, h]
  simp only [Option.toList]
  rw [numF_snoc, List.length_take, Nat.min_eq_left (by omega), Nat.zero_add]
theorem numF_numb : ∀ (k : Nat) (l : List Ent), numbFrom k (numF k l) = true
  | _, [] => rfl
  | k, e :: l => by rw [numF, numbFrom, numF_numb (k + 1) l]; simp
theorem numF_all (p : Ent → Prop) (hp : ∀ (e : Ent) (k : Nat), (k : Int) ≤ 9223372036854775807 → p e → p { e with seq := (k : Int) }) : ∀ (k : Nat) (l : List Ent), k + l.length ≤ 9223372036854775807 → (∀ e ∈ l, p e) → ∀ e ∈ numF k l, p e
  | _, [], _, _, e, h => by cases h
  | k, a :: l, hk, hl, e, h => by
    rw [List.length_cons] at hk
    rw [numF] at h
    rcases List.mem_cons.1 h with rfl | h
    · exact hp a k (by omega) (hl a (List.mem_cons_self ..))
    · exact numF_all p hp (k + 1) l (by omega) (fun x hx => hl x (List.mem_cons_of_mem _ hx)) e h
theorem numF_bd (l : List Ent) (h : l.length ≤ 65536) (hb : ∀ e ∈ l, e.bd) : ∀ e ∈ numF 0 l, e.bd := numF_all Ent.bd (fun _ _ hk h => ⟨hk, h.2⟩) 0 l (by omega) hb
theorem numF_of (l : List Ent) (h : l.length ≤ 65536) (hb : ∀ e ∈ l, (entE e).length = 38) : ∀ e ∈ numF 0 l, (entE e).length = 38 := numF_all (fun e => (entE e).length = 38) (fun _ _ _ h => by rw [← h]; simp [entE]) 0 l (by omega) hb
theorem light20_ret (w0 : World) (g : Gl Ent) (hg : g.ok entE 38 w0) (m : Nat) (_hm : m ≤ 65536) :
    Ret Try.prog 84 [g.v, VI (m : Int)] w0 fun v w' => v = .bool (lightE g.l m) ∧ Hp w0 w' [] [] := by
  refine ret_mk Try.func84 rfl Try.ntmps84 (by simp) ?_
  have H := Hp.refl w0 []
  have hgl := hg.ln
  have hge := hg.le
  have hgx := hg.mx
  have hmL : maxLen = 9223372036854775807 := rfl
  repeat refine c_seq ?_
  refine c_region ?_
  refine l_op (o_val (r_as) ?_)
  first | refine l_end ?_ | refine l_nil ?_
  repeat refine c_seq ?_
  refine c_region ?_
  refine l_op (o_val (r_mv) ?_)
  refine l_op (o_val (r_lens el97 rfl) ?_)
  refine l_op (o_val (r_mv) ?_)
  refine l_op (o_val (r_bin (a := (g.len : Int)) (b := (m : Int)) rfl rfl (fun _ => b_gtr)) ?_)
  first | refine l_end ?_ | refine l_nil ?_
  by_cases hc1 : (m : Int) < (g.len : Int)
  ·
   repeat refine c_seq ?_
   refine c_yes (by exact congrArg Value.bool (decide_eq_true hc1)) ?_
   repeat refine c_seq ?_
   refine c_region ?_
   refine l_op (o_val (r_as) ?_)
   first | refine l_end ?_ | refine l_nil ?_
   refine c_ret ?_
   try dsimp only [Exit.then, Exit.inBlock]
   refine e_ret1 (v := .bool false) Try.results84 rfl ?_
   refine ⟨_, rfl, ?_⟩
   refine ⟨?_, H⟩
   have e : lightE g.l m = false := Bool.eq_false_iff.2 fun h => by
     have h2 := ((lightE_iff _ _).1 h).1
     omega
   rw [e]
  ·
   repeat refine c_seq ?_
   refine c_no (by exact congrArg Value.bool (decide_eq_false hc1)) ?_
   refine c_skip ?_
   repeat refine c_seq ?_
   refine c_region ?_
   refine l_op (o_val (r_as) ?_)
   first | refine l_end ?_ | refine l_nil ?_
   repeat refine c_seq ?_
   refine c_block ?_
   repeat refine c_seq ?_
   refine c_loop (fun (i : Nat) => [(0, g.v), (5, VI (i : Int))])
     (fun (i : Nat) w => (i ≤ g.len ∧ ∀ (j : Nat) (x : Ent), j < i → g.l[j]? = some x → x.tenant.length ≤ 100) ∧ Hp w0 w [] ([]))
     (fun (i : Nat) => g.len - i) 0 ⟨rfl, rfl, trivial⟩ ⟨⟨Nat.zero_le _, fun j x hj => absurd hj (by omega)⟩, H⟩ ?_
   clear H
   rintro i τ w ⟨⟨hi, hall⟩, H⟩
   repeat refine c_seq ?_
   refine c_region ?_
   refine l_op (o_val (r_mv) ?_)
   refine l_op (o_val (r_mv) ?_)
   refine l_op (o_val (r_lens el97 rfl) ?_)
   refine l_op (o_val (r_bin (a := (i : Int)) (b := (g.len : Int)) rfl rfl (fun _ => b_lss)) ?_)
   first | refine l_end ?_ | refine l_nil ?_
   by_cases hc2 : (i : Int) < (g.len : Int)
   ·
    repeat refine c_seq ?_
    refine c_yes (by exact congrArg Value.bool (decide_eq_true hc2)) ?_
    refine c_skip ?_
    repeat refine c_seq ?_
    refine c_block ?_
    repeat refine c_seq ?_
    refine c_region ?_
    refine l_op (o_val (r_mv) ?_)
    refine l_op (o_val (r_mv) ?_)
    have ah5 := ((hg.up H)).addr (by decide) (by first | omega | (dsimp only; omega))
    obtain ⟨ab3, ao4, ah5⟩ := ah5
    refine l_op (o_val (r_isN i rfl rfl el97 ah5 (by omega) (by (try simp only [Sl.cut]); omega)) ?_)
    refine l_op (o_val (r_fa rfl fo95_3) ?_)
    have he7 : ∃ c, g.l[i]? = some c := ⟨_, List.getElem?_eq_getElem (by have := ((hg.up H)).ln; (try dsimp only at this ⊢); omega)⟩
    obtain ⟨e6, he7⟩ := he7
    have hez8 := ((hg.up H)).sz e6 (List.mem_of_getElem? he7)
    refine l_op (o_val (r_ldFld (v := .string ⟨(e6.tenant).toArray⟩) (s := g) (k := i) (off := 3) (hg.up H) ah5 rfl ct9 he7 (by decide) rfl) ?_)
    refine l_op (o_val (r_lenstr (s := ⟨(e6.tenant).toArray⟩) Try.underlying9 rfl) ?_)
    refine l_op (o_val (r_bin (a := ((e6.tenant).length : Int)) (b := 100) rfl rfl (fun _ => b_gtr)) ?_)
    first | refine l_end ?_ | refine l_nil ?_
    by_cases hc9 : 100 < ((e6.tenant).length : Int)
    ·
     repeat refine c_seq ?_
     refine c_yes (by exact congrArg Value.bool (decide_eq_true hc9)) ?_
     repeat refine c_seq ?_
     refine c_region ?_
     refine l_op (o_val (r_as) ?_)
     first | refine l_end ?_ | refine l_nil ?_
     refine c_ret ?_
     try dsimp only [Exit.then, Exit.inBlock]
     refine e_ret1 (v := .bool false) Try.results84 rfl ?_
     refine ⟨_, rfl, ?_⟩
     refine ⟨?_, H⟩
     have e : lightE g.l m = false := Bool.eq_false_iff.2 fun h => by
       have h2 := ((lightE_iff _ _).1 h).2 _ (List.mem_of_getElem? he7)
       omega
     rw [e]
    ·
     repeat refine c_seq ?_
     refine c_no (by exact congrArg Value.bool (decide_eq_false hc9)) ?_
     refine c_skip ?_
     repeat refine c_seq ?_
     refine c_region ?_
     refine l_op (o_val (r_mv) ?_)
     refine l_op (o_val (r_bin (a := (i : Int)) (b := 1) rfl rfl (fun _ => b_add (by omega) (by omega))) ?_)
     refine l_op (o_val (r_as) ?_)
     first | refine l_end ?_ | refine l_nil ?_
     refine round_end (i + 1) ?_ ?_ ?_
     · exact ⟨rfl, show VI ((i : Int) + 1) = VI ((i + 1 : Nat) : Int) from congrArg VI (by omega), trivial⟩
     · refine ⟨?_, ?_⟩
       · try dsimp only
         exact ⟨by omega, fun j x hj hjx => by
           by_cases hji : j < i
           · exact hall j x hji hjx
           · have e : j = i := by omega
             rw [e, he7] at hjx
             cases hjx
             omega⟩
       · exact H
     · show g.len - (i + 1 : Nat) < g.len - i; omega
   ·
    repeat refine c_seq ?_
    refine c_no (by exact congrArg Value.bool (decide_eq_false hc2)) ?_
    refine c_exit ?_
    repeat refine c_seq ?_
    refine c_region ?_
    refine l_op (o_val (r_as) ?_)
    first | refine l_end ?_ | refine l_nil ?_
    refine c_ret ?_
    try dsimp only [Exit.then, Exit.inBlock]
    refine e_ret1 (v := .bool true) Try.results84 rfl ?_
    refine ⟨_, rfl, ?_⟩
    refine ⟨?_, H⟩
    rw [(lightE_iff _ _).2 ⟨by omega, fun x hx => by
      obtain ⟨j, hj⟩ := List.getElem?_of_mem hx
      exact hall j x (by have := (List.getElem?_eq_some_iff.1 hj).1; omega) hj⟩]
theorem numbered_ret (w0 : World) (g : Gl Ent) (hg : g.ok entE 38 w0) (hm : g.len ≤ 65536) :
    Ret Try.prog 93 [g.v] w0 fun v w' => ∃ a k, v = .slice (hd a) g.len k ∧ Hp w0 w' [] [.own a g.len k ((numF 0 g.l).flatMap entE) 95 38] := by
  refine ret_mk Try.func93 rfl Try.ntmps93 (by simp) ?_
  have H := Hp.refl w0 []
  have hgl := hg.ln
  have hge := hg.le
  have hgx := hg.mx
  have hmL : maxLen = 9223372036854775807 := rfl
  repeat refine c_seq ?_
  refine c_region ?_
  refine l_op (o_val (r_as) ?_)
  first | refine l_end ?_ | refine l_nil ?_
  repeat refine c_seq ?_
  refine c_region ?_
  refine l_op (o_val (r_as) ?_)
  first | refine l_end ?_ | refine l_nil ?_
  repeat refine c_seq ?_
  refine c_region ?_
  refine l_op (o_val (r_as) ?_)
  first | refine l_end ?_ | refine l_nil ?_
  repeat refine c_seq ?_
  refine c_block ?_
  repeat refine c_seq ?_
  refine c_loop3 (fun (i : Nat) (a : Option Nat) (k : Nat) => [(0, g.v), (3, .slice (hd a) i k), (4, VI (i : Int))])
    (fun (i : Nat) (a : Option Nat) (k : Nat) w => (i ≤ g.len) ∧ Hp w0 w [] ([.own a i k ((numF 0 (g.l.take i)).flatMap entE) 95 38]))
    (fun (i : Nat) (a : Option Nat) (k : Nat) => g.len - i) 0 none 0 ⟨rfl, rfl, rfl, trivial⟩ ⟨Nat.zero_le _, (H.nilEnd 95 38)⟩ ?_
  clear H
  rintro i a k τ w ⟨hi, H⟩
  repeat refine c_seq ?_
  refine c_region ?_
  refine l_op (o_val (r_mv) ?_)
  refine l_op (o_val (r_mv) ?_)
  refine l_op (o_val (r_lens el97 rfl) ?_)
  refine l_op (o_val (r_bin (a := (i : Int)) (b := (g.len : Int)) rfl rfl (fun _ => b_lss)) ?_)
  first | refine l_end ?_ | refine l_nil ?_
  by_cases hc1 : (i : Int) < (g.len : Int)
  ·
   repeat refine c_seq ?_
   refine c_yes (by exact congrArg Value.bool (decide_eq_true hc1)) ?_
   refine c_skip ?_
   repeat refine c_seq ?_
   refine c_block ?_
   repeat refine c_seq ?_
   refine c_region ?_
   refine l_op (o_val (r_mv) ?_)
   refine l_op (o_val (r_mv) ?_)
   have ah4 := ((hg.up H)).addr (by decide) (by first | omega | (dsimp only; omega))
   obtain ⟨ab2, ao3, ah4⟩ := ah4
   refine l_op (o_val (r_isN i rfl rfl el97 ah4 (by omega) (by (try simp only [Sl.cut]); omega)) ?_)
   have he6 : ∃ c, g.l[i]? = some c := ⟨_, List.getElem?_eq_getElem (by have := ((hg.up H)).ln; (try dsimp only at this ⊢); omega)⟩
   obtain ⟨e5, he6⟩ := he6
   have hez7 := ((hg.up H)).sz e5 (List.mem_of_getElem? he6)
   refine l_op (o_val (r_ldRow (s := g) (k := i) (hg.up H) ah4 rfl rt95 (by decide) he6) ?_)
   refine l_op (o_alloc H zc95 (fun b8 w H hb8 => ?_))
   replace H : Hp _ w _ ([_, .blk b8 ([VI 0, VI 0, V64 (0 : UInt64), .string ⟨(([] : List UInt8)).toArray⟩, VI 0, VI 0] ++ (List.replicate 32 (0 : UInt8)).map V8) 95]) := H
   refine l_op (o_stW (C' := [VI e5.seq, VI e5.tick, V64 e5.serial, .string ⟨(e5.tenant).toArray⟩, VI e5.do_, VI e5.status] ++ (e5.of_).map V8) H (i := 1) rfl rfl rfl cs95 (by simp [Value.oneCell']) (by rw [List.length_append, List.length_map, (show (List.replicate 32 (0 : UInt8)).length = 32 from (List.length_replicate ..))]; rfl) (by rw [List.length_append, List.length_map, (show (e5.of_).length = 32 from (ent_of hez7))]; rfl) (fun w H => ?_))
   replace H : Hp _ w _ ([_, .blk b8 ([VI e5.seq, VI e5.tick, V64 e5.serial, .string ⟨(e5.tenant).toArray⟩, VI e5.do_, VI e5.status] ++ (e5.of_).map V8) 95]) := H
   first | refine l_end ?_ | refine l_nil ?_
   repeat refine c_seq ?_
   refine c_region ?_
   refine l_op (o_val (r_mv) ?_)
   refine l_op (o_val (r_fa rfl fo95_0) ?_)
   refine l_op (o_st (v := VI (i : Int)) H (i := 1) rfl rfl rfl cs2 rfl (by simp only [List.length_append, List.length_cons, List.length_nil]; omega) (fun w H => ?_))
   replace H : Hp _ w _ ([_, .blk b8 ([VI (i : Int), VI e5.tick, V64 e5.serial, .string ⟨(e5.tenant).toArray⟩, VI e5.do_, VI e5.status] ++ (e5.of_).map V8) 95]) := H
   first | refine l_end ?_ | refine l_nil ?_
   repeat refine c_seq ?_
   refine c_region ?_
   refine l_op (o_val (r_mv) ?_)
   refine l_op (o_val (r_ldA (C := [VI (i : Int), VI e5.tick, V64 e5.serial, .string ⟨(e5.tenant).toArray⟩, VI e5.do_, VI e5.status] ++ (e5.of_).map V8) H (i := 1) rfl rfl rt95 (by rw [List.length_append, List.length_map, (show (e5.of_).length = 32 from (ent_of hez7))]; rfl)) ?_)
   refine l_op (o_bslG1 (enc := entE) ((⟨(i : Int), e5.tick, e5.serial, e5.tenant, e5.do_, e5.status, e5.of_⟩ : Ent)) H sl97 zc95 (by rfl) (by decide) (by decide) rfl (ent_len (show (e5.of_).length = 32 from (ent_of hez7))) (fun b9 w H hb9 => ?_))
   replace H : Hp _ w _ ([_, _, .own (some b9) 1 1 (([(⟨(i : Int), e5.tick, e5.serial, e5.tenant, e5.do_, e5.status, e5.of_⟩ : Ent)]).flatMap entE) 95 38]) := H
   refine l_op (o_appG (enc := entE) (s := ⟨hd (some b9), 1, 1, [(⟨(i : Int), e5.tick, e5.serial, e5.tenant, e5.do_, e5.status, e5.of_⟩ : Ent)]⟩) (l' := numF 0 (g.l.take i) ++ ([(⟨(i : Int), e5.tick, e5.serial, e5.tenant, e5.do_, e5.status, e5.of_⟩ : Ent)])) (len' := i + 1) rfl rfl H (i := 0) rfl sl97 Try.underlying97 rfl rfl (H.glOwn (i := 2) rfl (by decide) (fun c hc => by rw [List.mem_singleton.1 hc]; exact (ent_len (show (e5.of_).length = 32 from (ent_of hez7))))) (by decide) (fun c _ => ent_all c) (by omega) (by decide) (fun a10 c11 w H => ?_))
   replace H : Hp _ w _ ([.own a10 (i + 1) c11 ((numF 0 (g.l.take i) ++ ([(⟨(i : Int), e5.tick, e5.serial, e5.tenant, e5.do_, e5.status, e5.of_⟩ : Ent)])).flatMap entE) 95 38, _, _]) := H
   refine l_op (o_val (r_as) ?_)
   first | refine l_end ?_ | refine l_nil ?_
   repeat refine c_seq ?_
   refine c_region ?_
   refine l_op (o_val (r_mv) ?_)
   refine l_op (o_val (r_bin (a := (i : Int)) (b := 1) rfl rfl (fun _ => b_add (by omega) (by omega))) ?_)
   refine l_op (o_val (r_as) ?_)
   first | refine l_end ?_ | refine l_nil ?_
   rw [numF_take g.l i _ he6] at H
   refine round_end (i + 1, a10, c11) ?_ ?_ ?_
   · exact ⟨rfl, rfl, show VI ((i : Int) + 1) = VI ((i + 1 : Nat) : Int) from congrArg VI (by omega), trivial⟩
   · refine ⟨?_, ?_⟩
     · try dsimp only
       exact by omega
     · exact H.sub (.cons_cons _ (List.nil_sublist _))
   · show g.len - (i + 1 : Nat) < g.len - i; omega
  ·
   repeat refine c_seq ?_
   refine c_no (by exact congrArg Value.bool (decide_eq_false hc1)) ?_
   refine c_exit ?_
   repeat refine c_seq ?_
   refine c_region ?_
   refine l_op (o_val (r_mv) ?_)
   refine l_op (o_val (r_as) ?_)
   first | refine l_end ?_ | refine l_nil ?_
   refine c_ret ?_
   try dsimp only [Exit.then, Exit.inBlock]
   refine e_ret1 (v := .slice (hd a) i k) Try.results93 rfl ?_
   refine ⟨_, rfl, ?_⟩
   have hi2 : i = g.len := by omega
   subst hi2
   rw [List.take_of_length_le (by omega)] at H
   exact ⟨_, _, rfl, H.sub (.cons_cons _ (List.nil_sublist _))⟩
theorem begun20_ret (w0 : World) :
    Ret Try.prog 83 [] w0 fun v w' => v = .bool true ∧ Hp w0 w' [] [] := by
  refine ret_mk Try.func83 rfl Try.ntmps83 (by simp) ?_
  have H := Hp.refl w0 []
  have hb1 : mayE (⟨0, 0, (0 : UInt64), [97], 0, 0, List.replicate 32 (0 : UInt8)⟩ : Ent) = true := rfl
  have hb2 : (entB (⟨0, 0, (0 : UInt64), [97], 0, 0, List.replicate 32 (0 : UInt8)⟩ : Ent)).length = 61 := rfl
  have hx1 : (expB ([] : List Ent)).length = 10 := rfl
  have hv : verC (expB []) (List.replicate 32 (0 : UInt8)) = 0 := by rw [ver_yes _ _ [] (by rw [expB_drop]; exact parse_nil) (expB_len10 _) (expB_take _) rfl]; rfl
  have hv2 : verN (expB []) (List.replicate 32 (0 : UInt8)) = 0 := verN_len _ _ [] (by rw [expB_drop]; exact parse_nil) hv
  repeat refine c_seq ?_
  refine c_region ?_
  refine l_op (o_val (r_as) ?_)
  first | refine l_end ?_ | refine l_nil ?_
  repeat refine c_seq ?_
  refine c_region ?_
  refine l_op (o_val (r_bld' (cells := ([VI 0, VI 0, V64 (0 : UInt64), .string ⟨(([97] : List UInt8)).toArray⟩, VI 0, VI 0] ++ (List.replicate 32 (0 : UInt8)).map V8).toArray) (pv := [(3, .string ⟨(([97] : List UInt8)).toArray⟩)]) bd95 rfl rfl) ?_)
  have hk1 : (mayE (⟨0, 0, (0 : UInt64), ([97] : List UInt8), 0, 0, List.replicate 32 (0 : UInt8)⟩ : Ent)) = true := hb1
  refine l_op (o_callR Try.func85 rfl rfl rfl (aBytes_ok _ (⟨0, 0, (0 : UInt64), ([97] : List UInt8), 0, 0, List.replicate 32 (0 : UInt8)⟩ : Ent) (show (List.replicate 32 (0 : UInt8)).length = 32 from (List.length_replicate ..)) ⟨by decide, by decide⟩ hk1) ?_)
  rintro _ w ⟨a2, n3, c4, rfl, hn5, Hc⟩
  replace H : Hp _ w _ ([.own a2 n3 c4 ((entB (⟨0, 0, (0 : UInt64), ([97] : List UInt8), 0, 0, List.replicate 32 (0 : UInt8)⟩ : Ent)).map V8) 5 1]) := H.call Hc
  clear Hc
  refine l_op (o_val (r_mv) ?_)
  refine l_op (o_val (r_ext rfl rfl) ?_)
  refine l_op (o_val (r_ext rfl rfl) ?_)
  refine l_op (o_val (r_as) ?_)
  refine l_op (o_val (r_as) ?_)
  first | refine l_end ?_ | refine l_nil ?_
  repeat refine c_seq ?_
  refine c_region ?_
  have hk6 : (headC ([] : List Ent) = 0) := rfl
  refine l_op (o_callR Try.func96 rfl rfl rfl (aExp_ok _ ⟨none, 0, 0, []⟩ (glE_nil _) (fun _ h => by cases h) (by (try dsimp only); omega) (of_decide_eq_true (decide_eq_true hk6))) ?_)
  rintro _ w ⟨a7, n8, c9, rfl, hn10, hx11, Hc⟩
  replace H : Hp _ w _ ([_, .own a7 n8 c9 ((expB ([] : List Ent)).map V8) 5 1]) := H.call Hc
  clear Hc
  try dsimp only at hn10
  try dsimp only at hx11
  refine l_op (o_val (r_mv) ?_)
  refine l_op (o_val (r_ext rfl rfl) ?_)
  refine l_op (o_val (r_ext rfl rfl) ?_)
  refine l_op (o_val (r_as) ?_)
  refine l_op (o_val (r_as) ?_)
  first | refine l_end ?_ | refine l_nil ?_
  repeat refine c_seq ?_
  refine c_region ?_
  refine l_op (o_val (r_mv) ?_)
  refine l_op (o_val (r_bld' (pv := []) bd31 rfl rfl) ?_)
  refine l_op (o_callR Try.func98 rfl rfl rfl (aVerify_ret _ ⟨hd a7, n8, c9, expB ([] : List Ent)⟩ (H.slOwn (i := 1) rfl) (show n8 ≤ 65536 by omega) (List.replicate 32 (0 : UInt8)) (show (List.replicate 32 (0 : UInt8)).length = 32 from (List.length_replicate ..))) ?_)
  rintro _ w ⟨rfl, Hc⟩
  replace H : Hp _ w _ ([_, _]) := H.call Hc
  clear Hc
  refine l_op (o_val (r_mv) ?_)
  refine l_op (o_val (r_ext rfl rfl) ?_)
  refine l_op (o_val (r_ext rfl rfl) ?_)
  refine l_op (o_val (r_as) ?_)
  refine l_op (o_val (r_as) ?_)
  first | refine l_end ?_ | refine l_nil ?_
  repeat refine c_seq ?_
  refine c_region ?_
  refine l_op (o_val (r_mv) ?_)
  refine l_op (o_val (r_bin (a := 0) (b := 0) rfl rfl (fun _ => b_eqlB true (decide_eq_true (by omega)))) ?_)
  refine l_op (o_val (r_mv) ?_)
  refine l_yes rfl rfl rfl (o_val (r_mv) ?_)
  refine l_yes rfl rfl rfl (o_val (r_bin (a := 0) (b := 0) rfl rfl (fun _ => b_eqlB true (decide_eq_true (by omega)))) ?_)
  refine l_op (o_val (r_pick rfl) ?_)
  refine l_op (o_val (r_mv) ?_)
  refine l_yes rfl rfl rfl (o_val (r_mv) ?_)
  refine l_yes rfl rfl rfl (o_val (r_bin (a := ((verC (expB ([] : List Ent)) (List.replicate 32 (0 : UInt8)) : Nat) : Int)) (b := 0) rfl rfl (fun _ => b_eqlB true (decide_eq_true (by omega)))) ?_)
  refine l_op (o_val (r_pick rfl) ?_)
  refine l_op (o_val (r_mv) ?_)
  refine l_yes rfl rfl rfl (o_val (r_mv) ?_)
  refine l_yes rfl rfl rfl (o_val (r_lens el29 rfl) ?_)
  refine l_yes rfl rfl rfl (o_val (r_bin (a := (n3 : Int)) (b := 61) rfl rfl (fun _ => b_eqlB true (decide_eq_true (by omega)))) ?_)
  refine l_op (o_val (r_pick rfl) ?_)
  refine l_op (o_val (r_mv) ?_)
  refine l_yes rfl rfl rfl (o_val (r_mv) ?_)
  refine l_yes rfl rfl rfl (o_val (r_lens el29 rfl) ?_)
  refine l_yes rfl rfl rfl (o_val (r_bin (a := (n8 : Int)) (b := 10) rfl rfl (fun _ => b_eqlB true (decide_eq_true (by omega)))) ?_)
  refine l_op (o_val (r_pick rfl) ?_)
  refine l_op (o_val (r_mv) ?_)
  refine l_yes rfl rfl rfl (o_val (r_mv) ?_)
  refine l_yes rfl rfl rfl (o_val (r_bin (a := ((verN (expB ([] : List Ent)) (List.replicate 32 (0 : UInt8)) : Nat) : Int)) (b := 0) rfl rfl (fun _ => b_eqlB true (decide_eq_true (by omega)))) ?_)
  refine l_op (o_val (r_pick rfl) ?_)
  refine l_op (o_val (r_as) ?_)
  first | refine l_end ?_ | refine l_nil ?_
  refine c_ret ?_
  try dsimp only [Exit.then, Exit.inBlock]
  refine e_ret1 (v := .bool true) Try.results83 rfl ?_
  refine ⟨_, rfl, ?_⟩
  refine ⟨?_, H.sub (List.nil_sublist _)⟩
  first | rfl | (congr 1; exact decide_eq_true (by omega))
end Go.Proofs.Ytjmbbhnpfmblpaa
namespace Go.Proofs.Ytjmbbhnpfmblpaa
open Go
set_option maxRecDepth 100000
/-- a chain's texts, and their hashes. -/
def textF : List UInt8 → List Ent → List (List UInt8 × List UInt8)
  | _, [] => []
  | h, e :: l => (linkF h e, h ++ entB e) :: textF (linkF h e) l
theorem textF_snoc (l : List Ent) (e : Ent) : ∀ h : List UInt8, textF h (l ++ [e]) = textF h l ++ [(linkF (l.foldl linkF h) e, l.foldl linkF h ++ entB e)] := by
  induction l with
  | nil => intro h; rfl
  | cons a l ih => intro h; rw [List.cons_append, textF, ih, textF, List.foldl_cons, List.cons_append]
theorem textF_take (l : List Ent) (i : Nat) (e : Ent) (h : l[i]? = some e) : textF Z32a (l.take i) ++ [(headF (l.take (i + 1)), headF (l.take i) ++ entB e)] = textF Z32a (l.take (i + 1)) := by
  have e2 : l.take (i + 1) = l.take i ++ [e] := by rw [List.take_add_one, h]; rfl
  rw [← headF_succ l i e h, e2, textF_snoc]; rfl
def collF (x y : List (List UInt8 × List UInt8)) : Bool := x.any fun p => y.any fun q => decide (p.1 = q.1) && !decide (p.2 = q.2)
theorem coll_iff (x y : List (List UInt8 × List UInt8)) : collF x y = true ↔ ∃ p ∈ x, ∃ q ∈ y, p.1 = q.1 ∧ ¬ p.2 = q.2 := by simp [collF]
def Ent.good (e : Ent) : Prop := mayE e = true ∧ e.bd ∧ e.of_.length = 32
theorem entB_inj {e e' : Ent} (h : e.good) (h' : e'.good) (hb : entB e = entB e') : e = e' := by
  have h1 := (take_of e [] h.1 h.2.1 h.2.2).2.1
  have h2 := (take_of e' [] h'.1 h'.2.1 h'.2.2).2.1
  rw [← h1, hb, h2]
theorem text_inj {l m : List Ent} {e e' : Ent} (h : e.good) (h' : e'.good) (ht : headF l ++ entB e = headF m ++ entB e') : headF l = headF m ∧ e = e' := by
  obtain ⟨h1, h2⟩ := List.append_inj ht (by rw [headF_len, headF_len])
  exact ⟨h1, entB_inj h h' h2⟩
theorem textF_last (l : List Ent) (e : Ent) : (headF (l ++ [e]), headF l ++ entB e) ∈ textF Z32a (l ++ [e]) := by
  rw [textF_snoc, headF_snoc]; exact List.mem_append_right _ (List.mem_singleton.2 rfl)
theorem textF_mono (l : List Ent) (e : Ent) (p : List UInt8 × List UInt8) (h : p ∈ textF Z32a l) : p ∈ textF Z32a (l ++ [e]) := by
  rw [textF_snoc]; exact List.mem_append_left _ h
theorem snoc_of (l : List Ent) (n : Nat) (h : l.length = n + 1) : ∃ l' e, l = l' ++ [e] ∧ l'.length = n := by
  refine ⟨l.dropLast, l.getLast (by intro e; subst e; simp at h), (List.dropLast_concat_getLast _).symm, by simp [h]⟩
theorem chain_coll : ∀ (n : Nat) (l m : List Ent), l.length = n → m.length = n → (∀ e ∈ l, e.good) → (∀ e ∈ m, e.good) → headF l = headF m → ¬ l = m → collF (textF Z32a l) (textF Z32a m) = true
  | 0, l, m, hl, hm, _, _, _, hne => by
    rw [List.length_eq_zero_iff.1 hl, List.length_eq_zero_iff.1 hm] at hne
    exact absurd rfl hne
  | n + 1, l, m, hl, hm, gl, gm, hh, hne => by
    obtain ⟨l', e, rfl, hl'⟩ := snoc_of l n hl
    obtain ⟨m', e', rfl, hm'⟩ := snoc_of m n hm
    by_cases ht : headF l' ++ entB e = headF m' ++ entB e'
    · obtain ⟨h1, rfl⟩ := text_inj (gl e (by simp)) (gm e' (by simp)) ht
      have := chain_coll n l' m' hl' hm' (fun x hx => gl x (List.mem_append_left _ hx)) (fun x hx => gm x (List.mem_append_left _ hx)) h1 (fun h => hne (by rw [h]))
      obtain ⟨p, hp, q, hq, h2⟩ := (coll_iff _ _).1 this
      exact (coll_iff _ _).2 ⟨p, textF_mono _ _ _ hp, q, textF_mono _ _ _ hq, h2⟩
    · exact (coll_iff _ _).2 ⟨_, textF_last l' e, _, textF_last m' e', hh, ht⟩
theorem numb_last (l : List Ent) (e : Ent) (h : numbFrom 0 (l ++ [e]) = true) : e.seq = (l.length : Int) := by
  have := (numbFrom_iff _ _).1 h l.length e (by simp)
  rw [this]; congr 1; omega
/-- equal heads that are not zeros: the logs are the same, or two unlike texts have one hash. -/
theorem tamper (l m : List Ent) (gl : ∀ e ∈ l, e.good) (gm : ∀ e ∈ m, e.good) (nl : numbFrom 0 l = true) (nm : numbFrom 0 m = true) (hh : headF l = headF m) (hz : ¬ headF l = Z32a) (hne : ¬ l = m) : collF (textF Z32a l) (textF Z32a m) = true := by
  cases hlc : l.length with
  | zero => rw [List.length_eq_zero_iff.1 hlc] at hz; exact absurd rfl hz
  | succ i =>
    cases hmc : m.length with
    | zero => rw [hh, List.length_eq_zero_iff.1 hmc] at hz; exact absurd rfl hz
    | succ k =>
      by_cases hik : i = k
      · subst hik; exact chain_coll _ l m hlc hmc gl gm hh hne
      · obtain ⟨l', e, rfl, hl'⟩ := snoc_of l i hlc
        obtain ⟨m', e', rfl, hm'⟩ := snoc_of m k hmc
        refine (coll_iff _ _).2 ⟨_, textF_last l' e, _, textF_last m' e', hh, fun ht => hik ?_⟩
        obtain ⟨_, rfl⟩ := text_inj (gl e (by simp)) (gm e' (by simp)) ht
        have h1 := numb_last _ _ nl
        have h2 := numb_last _ _ nm
        omega
theorem same_ret (w0 : World) (g u : Gl Ent) (hg : g.ok entE 38 w0) (hu : u.ok entE 38 w0) :
    Ret Try.prog 100 [g.v, u.v] w0 fun v w' => v = .bool (decide (g.l = u.l)) ∧ Hp w0 w' [] [] := by
  refine ret_mk Try.func100 rfl Try.ntmps100 (by simp) ?_
  have H := Hp.refl w0 []
  have hgl := hg.ln
  have hge := hg.le
  have hgx := hg.mx
  have hul := hu.ln
  have hue := hu.le
  have hux := hu.mx
  have hmL : maxLen = 9223372036854775807 := rfl
  repeat refine c_seq ?_
  refine c_region ?_
  refine l_op (o_val (r_as) ?_)
  first | refine l_end ?_ | refine l_nil ?_
  repeat refine c_seq ?_
  refine c_region ?_
  refine l_op (o_val (r_mv) ?_)
  refine l_op (o_val (r_lens el97 rfl) ?_)
  refine l_op (o_val (r_mv) ?_)
  refine l_op (o_val (r_lens el97 rfl) ?_)
  refine l_op (o_val (r_bin (a := (g.len : Int)) (b := (u.len : Int)) rfl rfl (fun _ => b_neq)) ?_)
  first | refine l_end ?_ | refine l_nil ?_
  by_cases hc1 : (g.len : Int) ≠ (u.len : Int)
  ·
   repeat refine c_seq ?_
   refine c_yes (by exact congrArg Value.bool (decide_eq_true hc1)) ?_
   repeat refine c_seq ?_
   refine c_region ?_
   refine l_op (o_val (r_as) ?_)
   first | refine l_end ?_ | refine l_nil ?_
   refine c_ret ?_
   try dsimp only [Exit.then, Exit.inBlock]
   refine e_ret1 (v := .bool false) Try.results100 rfl ?_
   refine ⟨_, rfl, ?_⟩
   refine ⟨?_, H⟩
   rw [decide_eq_false]
   intro e
   rw [e] at hgl
   omega
  ·
   repeat refine c_seq ?_
   refine c_no (by exact congrArg Value.bool (decide_eq_false hc1)) ?_
   refine c_skip ?_
   repeat refine c_seq ?_
   refine c_region ?_
   refine l_op (o_val (r_as) ?_)
   first | refine l_end ?_ | refine l_nil ?_
   repeat refine c_seq ?_
   refine c_block ?_
   repeat refine c_seq ?_
   refine c_loop (fun (i : Nat) => [(0, g.v), (1, u.v), (5, VI (i : Int))])
     (fun (i : Nat) w => (i ≤ g.len ∧ ∀ (j : Nat), j < i → g.l[j]? = u.l[j]?) ∧ Hp w0 w [] ([]))
     (fun (i : Nat) => g.len - i) 0 ⟨rfl, rfl, rfl, trivial⟩ ⟨⟨Nat.zero_le _, fun j hj => absurd hj (by omega)⟩, H⟩ ?_
   clear H
   rintro i τ w ⟨⟨hi, hall⟩, H⟩
   repeat refine c_seq ?_
   refine c_region ?_
   refine l_op (o_val (r_mv) ?_)
   refine l_op (o_val (r_mv) ?_)
   refine l_op (o_val (r_lens el97 rfl) ?_)
   refine l_op (o_val (r_bin (a := (i : Int)) (b := (g.len : Int)) rfl rfl (fun _ => b_lss)) ?_)
   first | refine l_end ?_ | refine l_nil ?_
   by_cases hc2 : (i : Int) < (g.len : Int)
   ·
    repeat refine c_seq ?_
    refine c_yes (by exact congrArg Value.bool (decide_eq_true hc2)) ?_
    refine c_skip ?_
    repeat refine c_seq ?_
    refine c_block ?_
    repeat refine c_seq ?_
    refine c_still mixed (by kernel_rfl) ?_
    replace H := H.drew
    refine s_op (r_mv) ?_
    refine s_op (r_mv) ?_
    have ah5 := ((hg.up H)).addr (by decide) (by first | omega | (dsimp only; omega))
    obtain ⟨ab3, ao4, ah5⟩ := ah5
    refine s_op (r_isN i rfl rfl el97 ah5 (by omega) (by (try simp only [Sl.cut]); omega)) ?_
    have he7 : ∃ c, g.l[i]? = some c := ⟨_, List.getElem?_eq_getElem (by have := ((hg.up H)).ln; (try dsimp only at this ⊢); omega)⟩
    obtain ⟨e6, he7⟩ := he7
    have hez8 := ((hg.up H)).sz e6 (List.mem_of_getElem? he7)
    refine s_op (r_ldRow (s := g) (k := i) (hg.up H) ah5 rfl rt95 (by decide) he7) ?_
    refine s_op (r_mv) ?_
    refine s_op (r_mv) ?_
    have ah11 := ((hu.up H)).addr (by decide) (by first | omega | (dsimp only; omega))
    obtain ⟨ab9, ao10, ah11⟩ := ah11
    refine s_op (r_isN i rfl rfl el97 ah11 (by omega) (by (try simp only [Sl.cut]); omega)) ?_
    have he13 : ∃ c, u.l[i]? = some c := ⟨_, List.getElem?_eq_getElem (by have := ((hu.up H)).ln; (try dsimp only at this ⊢); omega)⟩
    obtain ⟨e12, he13⟩ := he13
    have hez14 := ((hu.up H)).sz e12 (List.mem_of_getElem? he13)
    refine s_op (r_ldRow (s := u) (k := i) (hu.up H) ah11 rfl rt95 (by decide) he13) ?_
    refine s_op (r_neS egEnt rfl rfl (eqEnt e6 e12 (show (e6.of_).length = 32 from (ent_of hez8)) (show (e12.of_).length = 32 from (ent_of hez14)))) ?_
    refine s_nil ?_
    by_cases hc15 : e6 = e12
    ·
     repeat refine c_seq ?_
     refine c_no (by exact congrArg Value.bool (congrArg not (decide_eq_true hc15))) ?_
     refine c_skip ?_
     repeat refine c_seq ?_
     refine c_region ?_
     refine l_op (o_val (r_mv) ?_)
     refine l_op (o_val (r_bin (a := (i : Int)) (b := 1) rfl rfl (fun _ => b_add (by omega) (by omega))) ?_)
     refine l_op (o_val (r_as) ?_)
     first | refine l_end ?_ | refine l_nil ?_
     refine round_end (i + 1) ?_ ?_ ?_
     · exact ⟨rfl, rfl, show VI ((i : Int) + 1) = VI ((i + 1 : Nat) : Int) from congrArg VI (by omega), trivial⟩
     · refine ⟨?_, ?_⟩
       · try dsimp only
         exact ⟨by omega, fun j hj => by
           by_cases hji : j < i
           · exact hall j hji
           · have e : j = i := by omega
             rw [e, he7, he13, of_decide_eq_true (decide_eq_true hc15)]⟩
       · exact H
     · show g.len - (i + 1 : Nat) < g.len - i; omega
    ·
     repeat refine c_seq ?_
     refine c_yes (by exact congrArg Value.bool (congrArg not (decide_eq_false hc15))) ?_
     repeat refine c_seq ?_
     refine c_region ?_
     refine l_op (o_val (r_as) ?_)
     first | refine l_end ?_ | refine l_nil ?_
     refine c_ret ?_
     try dsimp only [Exit.then, Exit.inBlock]
     refine e_ret1 (v := .bool false) Try.results100 rfl ?_
     refine ⟨_, rfl, ?_⟩
     refine ⟨?_, H⟩
     rw [decide_eq_false]
     intro e
     rw [e, he13] at he7
     exact of_decide_eq_false (decide_eq_false hc15) (Option.some.inj he7).symm
   ·
    repeat refine c_seq ?_
    refine c_no (by exact congrArg Value.bool (decide_eq_false hc2)) ?_
    refine c_exit ?_
    repeat refine c_seq ?_
    refine c_region ?_
    refine l_op (o_val (r_as) ?_)
    first | refine l_end ?_ | refine l_nil ?_
    refine c_ret ?_
    try dsimp only [Exit.then, Exit.inBlock]
    refine e_ret1 (v := .bool true) Try.results100 rfl ?_
    refine ⟨_, rfl, ?_⟩
    refine ⟨?_, H⟩
    rw [decide_eq_true]
    apply List.ext_getElem?
    intro j
    by_cases hj : j < i
    · exact hall j hj
    · rw [List.getElem?_eq_none (by omega), List.getElem?_eq_none (by omega)]
end Go.Proofs.Ytjmbbhnpfmblpaa
namespace Go.Proofs.Ytjmbbhnpfmblpaa
open Go
section
variable {P : Program} {n : Nat} {σ : Nat → Value} {w : World}
  {ty : TypeId} {pos : String} {aft : Array Edge} {g : Option (Nat × Bool)} {d : Nat} {t : TypeId} {x : Operand}
theorem fill_head {places : Nat → Option (Nat × Nat)} {m : Nat} {rest : List (Nat × Value)} (B C vs : List Value) (hp : places 0 = some (0, m)) (hB : B.length = m) (hv : vs.length = m) : Instr.fill places (B ++ C).toArray ((0, .agg vs.toArray) :: rest) = Instr.fill places (vs ++ C).toArray rest := by
  have h : ∀ (vs done zs : List Value), zs.length = vs.length → (vs.zipIdx done.length).foldl (fun (acc : Array Value) (p : Value × Nat) => acc.setIfInBounds p.2 p.1) (done ++ (zs ++ C)).toArray = (done ++ (vs ++ C)).toArray := by
    intro vs
    induction vs with
    | nil => intro done zs hz; have : zs = [] := List.length_eq_zero_iff.1 (by simpa using hz); subst this; simp
    | cons v vs ih =>
      intro done zs hz
      cases zs with
      | nil => simp at hz
      | cons z zs =>
        have := ih (done ++ [v]) zs (by simpa using hz)
        simp only [List.length_append, List.length_singleton, List.append_assoc, List.singleton_append] at this
        rw [List.zipIdx_cons, List.foldl_cons]
        simp only [List.cons_append]
        rw [← this]
        congr 1
        simp []
  have h2 := h vs [] B (by omega)
  have hn : ¬ (((Value.agg vs.toArray).cells.size ≠ m || 0 + (Value.agg vs.toArray).cells.size > (B ++ C).toArray.size) = true) := by simp [Value.cells, hB, hv]
  simp only [Instr.fill, hp]
  rw [if_neg hn]
  simp only [List.nil_append, List.length_nil] at h2
  congr 1
  simpa [Value.cells] using h2
theorem fill_one {places : Nat → Option (Nat × Nat)} {k : Nat} (A : List Value) (z v : Value) (hp : places 1 = some (k, 1)) (hA : A.length = k) (h1 : v.oneCell' = true) : Instr.fill places (A ++ [z]).toArray [(1, v)] = some (A ++ [v]).toArray := by
  have hc : v.cells = #[v] := by cases v <;> simp_all [Value.cells, Value.oneCell']
  simp only [Instr.fill, hp, hc]
  rw [if_neg (by simp [hA])]
  congr 1
  have e : (#[v] : Array Value).zipIdx = #[(v, 0)] := by simp [Array.zipIdx]
  rw [e]
  simp [← hA]
/-- a struct literal, its first part an array of bytes, and one cell behind it. -/
theorem r_bldH {parts : Array (Nat × Operand)} {zs : Array Value} {places : Nat → Option (Nat × Nat)} {z v : Value} {l : List UInt8} {m : Nat} (hB : Bld P t zs places)
    (hz : zs = (List.replicate m (V8 0) ++ [z]).toArray) (hp0 : pvs n σ parts.toList = [(0, .agg (l.map V8).toArray), (1, v)]) (hp1 : places 0 = some (0, m)) (hp2 : places 1 = some (m, 1)) (h1 : v.oneCell' = true) (hl : l.length = m) :
    (execOp (ev n σ) ⟨some d, .build t parts, ty, pos, aft, g⟩).run P w = .ok (.value (.agg (l.map V8 ++ [v]).toArray)) w := by
  refine r_bld' hB hp0 ?_
  subst hz
  rw [fill_head _ _ _ hp1 (by simp) (by simpa using hl)]
  exact fill_one _ _ _ hp2 (by simpa using hl) h1
/-- a call that leaves nothing behind. -/
theorem Hp.keep1 {w0 w w' : World} {S : List Nat} {L : List Ch} (H : Hp w0 w S L) (Hc : Hp w w' [] []) : Hp w0 w' S L := by
  have := H.call Hc
  rwa [List.append_nil] at this
/-- the array at the head of a struct of a slice. -/
theorem r_ldHead {α : Type} {enc : α → List Value} {sz m : Nat} {s : Gl α} {b o k : Nat} {c : α} {l : List UInt8} (hs : s.ok enc sz w) (ha : s.a = some ⟨b, o, none⟩) (hx : ev n σ x = .pointer (some ⟨b, o + k * sz + 0, none⟩)) (ht : rowTy P t = some m) (hz : 0 < m) (hm : m ≤ sz) (hk : s.l[k]? = some c) (hl : (enc c).take m = l.map V8) :
    (execOp (ev n σ) ⟨some d, .load t x, ty, pos, aft, g⟩).run P w = .ok (.value (.agg (l.map V8).toArray)) w := by
  have hlt : k < s.l.length := (List.getElem?_eq_some_iff.1 hk).1
  have := r_ldsr (P := P) (w := w) (t := t) (d := d) (ty := ty) (pos := pos) (aft := aft) (g := g) (i := k * sz) hs.rd ha (by rw [hx]; rfl) ht hz (by
    rw [flat_len hs.sz]
    have : (k + 1) * sz ≤ s.l.length * sz := Nat.mul_le_mul_right _ hlt
    rw [Nat.succ_mul] at this; omega)
  have e : ((s.l.flatMap enc).drop (k * sz)).take m = l.map V8 := by
    rw [← hl, ← flat_at hs.sz hk, List.take_take, Nat.min_eq_left hm]
  rwa [e] at this
/-- a piece of a slice of structs. -/
def Gl.cut {α : Type} (s : Gl α) (sz l h m : Nat) : Gl α := ⟨sa s.a l m sz, h - l, m - l, (s.l.drop l).take (h - l)⟩
theorem Gl.ok.cut {α : Type} {enc : α → List Value} {sz : Nat} {s : Gl α} (hs : s.ok enc sz w) {l h m : Nat} (h1 : l ≤ h) (h2 : h ≤ s.len) (h3 : h ≤ m) (h4 : m ≤ s.cap) : (s.cut sz l h m).ok enc sz w := by
  have hsz : ∀ c ∈ s.l.drop l, (enc c).length = sz := fun c hc => hs.sz c (List.mem_of_mem_drop hc)
  refine ⟨?_, ?_, by simp only [Gl.cut]; omega, by have := hs.mx; simp only [Gl.cut]; omega, fun c hc => hsz c (List.mem_of_mem_take hc)⟩
  · unfold Gl.cut
    simp only
    by_cases hml : m = l
    · have : (s.l.drop l).take (h - l) = [] := by rw [show h - l = 0 by omega, List.take_zero]
      rw [this]; exact .inl rfl
    · have e : sa s.a l m sz = s.a.map (·.add (l * sz)) := by unfold sa; rw [if_neg hml]
      rw [e, ← flat_take hsz, ← flat_drop hs.sz]
      exact (hs.rd.drop (l * sz)).take _
  · have := hs.ln
    simp only [Gl.cut, List.length_take, List.length_drop]; omega
theorem r_slG {α : Type} {sz : Nat} {lo hi mx : Option Operand} {s : Gl α} (l h m : Nat) {lv hv mv : Option Value} (hx : ev n σ x = s.v) (ht : eltOf P t = some sz)
    (hl : lo.map (ev n σ) = lv) (hh : hi.map (ev n σ) = hv) (hm : mx.map (ev n σ) = mv) (hb : ∀ w, (Instr.sliceBounds true s.len s.cap lv hv mv).run P w = .ok (l, h, m) w) :
    (execOp (ev n σ) ⟨some d, .slice t x lo hi mx, ty, pos, aft, g⟩).run P w = .ok (.value (s.cut sz l h m).v) w :=
  r_sl (P := P) (w := w) (d := d) (ty := ty) (pos := pos) (aft := aft) (g := g) hx ht hl hh hm hb
theorem all_set {α : Type} {p : α → Prop} {l : List α} {i : Nat} {e : α} (h : ∀ c ∈ l, p c) (he : p e) : ∀ c ∈ l.set i e, p c := fun c hc => (List.mem_or_eq_of_mem_set hc).elim (h c) (fun x => by rw [x]; exact he)
theorem all_app {α : Type} {p : α → Prop} {l m : List α} (h : ∀ c ∈ l, p c) (h2 : ∀ c ∈ m, p c) : ∀ c ∈ l ++ m, p c := fun c hc => (List.mem_append.1 hc).elim (h c) (h2 c)
theorem all_cut {α : Type} {p : α → Prop} {l : List α} {i k : Nat} (h : ∀ c ∈ l, p c) : ∀ c ∈ (l.drop i).take k, p c := fun c hc => h c (List.mem_of_mem_drop (List.mem_of_mem_take hc))
end
end Go.Proofs.Ytjmbbhnpfmblpaa
namespace Go.Proofs.Ytjmbbhnpfmblpaa
open Go
set_option maxRecDepth 100000
/-- an object of which the data is one's own. -/
structure Ob where
  of_ : List UInt8
  a : Option Nat
  n : Nat
  c : Nat
  l : List UInt8
def objE (o : Ob) : List Value := o.of_.map V8 ++ [.slice (hd o.a) o.n o.c]
def dch (o : Ob) : Ch := .own o.a o.n o.c (o.l.map V8) 5 1
def Ob.tx (o : Ob) : List UInt8 × List UInt8 := (o.of_, o.l)
def Ob.s (o : Ob) : Sl := ⟨hd o.a, o.n, o.c, o.l⟩
theorem objE_len {o : Ob} (h : o.of_.length = 32) : (objE o).length = 33 := by simp [objE, h]
theorem objE_all (o : Ob) : (objE o).all (·.oneCell') = true := by
  rw [objE, List.all_append, Bool.and_eq_true]
  refine ⟨List.all_eq_true.2 fun v hv => ?_, rfl⟩
  obtain ⟨b, _, rfl⟩ := List.mem_map.1 hv
  rfl
theorem objE_take {o : Ob} (h : o.of_.length = 32) : (objE o).take 32 = o.of_.map V8 := by rw [objE, List.take_left' (by simpa using h)]
theorem objE_get {o : Ob} (h : o.of_.length = 32) : (objE o)[32]? = some (.slice (hd o.a) o.n o.c) := by rw [objE, List.getElem?_append_right (by simp [h])]; simp [h]
theorem texts_step {w0 w : World} {x y : Ch} {o : Ob} {os : List Ob} (H : Hp w0 w [] (dch o :: x :: y :: os.map dch)) : Hp w0 w [] (x :: y :: (os ++ [o]).map dch) := by
  rw [List.map_append]
  refine H.perm ?_
  have := (List.perm_append_singleton (dch o) (x :: y :: os.map dch)).symm
  simpa using this
set_option maxHeartbeats 1000000 in
theorem texts_ret (w0 : World) (g : Gl Ent) (hg : g.ok entE 38 w0) (hgd : ∀ e ∈ g.l, e.good) (hm : g.len ≤ 65536) :
    Ret Try.prog 129 [g.v] w0 fun v w' => ∃ (a : Option Nat) (k : Nat) (os : List Ob), v = .slice (hd a) g.len k ∧ os.map Ob.tx = textF Z32a g.l ∧ (∀ o ∈ os, o.of_.length = 32) ∧ (⟨hd a, g.len, k, os⟩ : Gl Ob).ok objE 33 w' ∧ (∀ o ∈ os, o.s.ok w') ∧ Hp w0 w' [] [] := by
  refine ret_mk Try.func129 rfl Try.ntmps129 (by simp) ?_
  have H := Hp.refl w0 []
  have hgl := hg.ln
  have hge := hg.le
  have hgx := hg.mx
  have hmL : maxLen = 9223372036854775807 := rfl
  repeat refine c_seq ?_
  refine c_region ?_
  refine l_op (o_val (r_as) ?_)
  first | refine l_end ?_ | refine l_nil ?_
  repeat refine c_seq ?_
  refine c_region ?_
  refine l_op (o_val (r_as) ?_)
  first | refine l_end ?_ | refine l_nil ?_
  repeat refine c_seq ?_
  refine c_region ?_
  refine l_op (o_alloc H zc31 (fun b1 w H hb1 => ?_))
  replace H : Hp _ w _ ([.blk b1 ((List.replicate 32 (0 : UInt8)).map V8) 31]) := H
  first | refine l_end ?_ | refine l_nil ?_
  repeat refine c_seq ?_
  refine c_region ?_
  refine l_op (o_val (r_as) ?_)
  first | refine l_end ?_ | refine l_nil ?_
  repeat refine c_seq ?_
  refine c_block ?_
  repeat refine c_seq ?_
  refine c_loop4 (fun (i : Nat) (os : List Ob) (a : Option Nat) (k : Nat) => [(0, g.v), (3, .slice (hd a) i k), (4, .pointer (some ⟨b1, 0, none⟩)), (5, VI (i : Int))])
    (fun (i : Nat) (os : List Ob) (a : Option Nat) (k : Nat) w => (i ≤ g.len ∧ os.map Ob.tx = textF Z32a (g.l.take i) ∧ ∀ o ∈ os, o.of_.length = 32) ∧ Hp w0 w [] (Ch.blk b1 ((headF (g.l.take i)).map V8) 31 :: Ch.own a i k ((os).flatMap objE) 141 33 :: os.map dch))
    (fun (i : Nat) (os : List Ob) (a : Option Nat) (k : Nat) => g.len - i) 0 ([]) none 0 ⟨rfl, rfl, rfl, rfl, trivial⟩ ⟨⟨Nat.zero_le _, rfl, fun c hc => by cases hc⟩, (H.nilEnd 141 33)⟩ ?_
  clear H
  rintro i os a k τ w ⟨⟨hi, hos, hof⟩, H⟩
  repeat refine c_seq ?_
  refine c_region ?_
  refine l_op (o_val (r_mv) ?_)
  refine l_op (o_val (r_mv) ?_)
  refine l_op (o_val (r_lens el97 rfl) ?_)
  refine l_op (o_val (r_bin (a := (i : Int)) (b := (g.len : Int)) rfl rfl (fun _ => b_lss)) ?_)
  first | refine l_end ?_ | refine l_nil ?_
  by_cases hc2 : (i : Int) < (g.len : Int)
  ·
   repeat refine c_seq ?_
   refine c_yes (by exact congrArg Value.bool (decide_eq_true hc2)) ?_
   refine c_skip ?_
   repeat refine c_seq ?_
   refine c_block ?_
   repeat refine c_seq ?_
   refine c_region ?_
   refine l_op (o_val (r_mv) ?_)
   refine l_op (o_val (r_mv) ?_)
   have ah5 := ((hg.up H)).addr (by decide) (by first | omega | (dsimp only; omega))
   obtain ⟨ab3, ao4, ah5⟩ := ah5
   refine l_op (o_val (r_isN i rfl rfl el97 ah5 (by omega) (by (try simp only [Sl.cut]); omega)) ?_)
   have he7 : ∃ c, g.l[i]? = some c := ⟨_, List.getElem?_eq_getElem (by have := ((hg.up H)).ln; (try dsimp only at this ⊢); omega)⟩
   obtain ⟨e6, he7⟩ := he7
   have hez8 := ((hg.up H)).sz e6 (List.mem_of_getElem? he7)
   refine l_op (o_val (r_ldRow (s := g) (k := i) (hg.up H) ah5 rfl rt95 (by decide) he7) ?_)
   have hk9 : (mayE e6) = true := (hgd _ (List.mem_of_getElem? he7)).1
   refine l_op (o_callR Try.func86 rfl rfl rfl (aBytesr_ok _ e6 (show (e6.of_).length = 32 from (ent_of hez8)) (hgd _ (List.mem_of_getElem? he7)).2.1 hk9) ?_)
   rintro _ w ⟨a10, n11, c12, rfl, hn13, Hc⟩
   replace H : Hp _ w _ (Ch.own a10 n11 c12 ((entB e6).map V8) 5 1 :: Ch.blk b1 ((headF (g.l.take i)).map V8) 31 :: Ch.own a i k ((os).flatMap objE) 141 33 :: os.map dch) := (H.call Hc).rot
   clear Hc
   refine l_op (o_val (r_mv) ?_)
   refine l_op (o_val (r_ext rfl rfl) ?_)
   refine l_op (o_val (r_ext rfl rfl) ?_)
   refine l_op (o_val (r_as) ?_)
   refine l_op (o_val (r_as) ?_)
   first | refine l_end ?_ | refine l_nil ?_
   have hcl := entB_len e6 (ent_of hez8)
   have hm2 := (mayE_iff e6).1 (hgd _ (List.mem_of_getElem? he7)).1
   repeat refine c_seq ?_
   refine wp_held (fun w => Hp w0 w [] [.own a10 n11 c12 ((entB e6).map V8) 5 1, .blk b1 ((headF (g.l.take i)).map V8) 31, .own a i k ((os).flatMap objE) 141 33]) mixed ?_
   replace H := H.drew
   have HS := H.sub (.cons_cons _ (.cons_cons _ (.cons_cons _ (List.nil_sublist _))))
   refine t_take 0 rfl (by kernel_rfl) (by kernel_rfl) (by kernel_rfl) (fun _ _ _ h => h) (fun w HS => r_ldAA (l := headF (g.l.take i)) HS (i := 1) rfl rfl rt31 (show (headF (g.l.take i)).length = 32 from (headF_len _))) HS ?_
   refine t_take 1 rfl (by kernel_rfl) (by kernel_rfl) (by kernel_rfl) (fun _ _ _ h => h) (fun w HS => r_mv) HS ?_
   refine t_take 2 rfl (by kernel_rfl) (by kernel_rfl) (by kernel_rfl) (fun _ _ _ h => h) (fun w HS => r_mv) HS ?_
   refine t_take 3 rfl (by kernel_rfl) (by kernel_rfl) (by kernel_rfl) (fun _ _ _ h => h) (fun w HS => r_isN i rfl rfl el97 ah5 (by omega) (by (try simp only [Sl.cut]); omega)) HS ?_
   refine t_take 4 rfl (by kernel_rfl) (by kernel_rfl) (by kernel_rfl) (fun _ _ _ h => h) (fun w HS => r_ldRow (s := g) (k := i) (hg.up HS) ah5 rfl rt95 (by decide) he7) HS ?_
   refine t_all [5, 9] (by kernel_rfl) (by simp) (all_cons (w_op 5 rfl ?_) (all_cons (w_op 9 rfl ?_) (all_nil)))
   ·
    refine (o_callR Try.func88 rfl rfl rfl (aLinkr_ok _ (headF (g.l.take i)) (show (headF (g.l.take i)).length = 32 from (headF_len _)) e6 (show (e6.of_).length = 32 from (ent_of hez8)) (hgd _ (List.mem_of_getElem? he7)).2.1 hk9) ?_)
    rintro _ w ⟨rfl, Hc⟩
    replace H : Hp _ w _ (Ch.own a10 n11 c12 ((entB e6).map V8) 5 1 :: Ch.blk b1 ((headF (g.l.take i)).map V8) 31 :: Ch.own a i k ((os).flatMap objE) 141 33 :: os.map dch) := H.keep1 Hc
    clear Hc
    refine ⟨H.sub (.cons_cons _ (.cons_cons _ (.cons_cons _ (List.nil_sublist _)))), ?_⟩
    replace HS := H.sub (.cons_cons _ (.cons_cons _ (.cons_cons _ (List.nil_sublist _))))
    refine t_take 6 rfl (by kernel_rfl) (by kernel_rfl) (by kernel_rfl) (fun _ _ _ h => h) (fun w HS => r_mv) HS ?_
    refine t_take 7 rfl (by kernel_rfl) (by kernel_rfl) (by kernel_rfl) (fun _ _ _ h => h) (fun w HS => r_ext rfl rfl) HS ?_
    refine t_take 8 rfl (by kernel_rfl) (by kernel_rfl) (by kernel_rfl) (fun _ _ _ h => h) (fun w HS => r_ext rfl rfl) HS ?_
    refine t_step 9 rfl (by kernel_rfl) (o_alloc H zc31 (fun b14 w H hb14 => ?_))
    replace H := H.rot
    replace H : Hp _ w _ (Ch.blk b14 ((List.replicate 32 (0 : UInt8)).map V8) 31 :: Ch.own a10 n11 c12 ((entB e6).map V8) 5 1 :: Ch.blk b1 ((headF (g.l.take i)).map V8) 31 :: Ch.own a i k ((os).flatMap objE) 141 33 :: os.map dch) := H
    refine ⟨H.sub (.cons _ (.cons_cons _ (.cons_cons _ (.cons_cons _ (List.nil_sublist _))))), ?_⟩
    replace HS := H.sub (.cons _ (.cons_cons _ (.cons_cons _ (.cons_cons _ (List.nil_sublist _)))))
    refine t_step 10 rfl (by kernel_rfl) (o_stA (l' := linkF (headF (g.l.take i)) e6) H (i := 0) rfl rfl rfl cs31 (show (List.replicate 32 (0 : UInt8)).length = 32 from (List.length_replicate ..)) (show (linkF (headF (g.l.take i)) e6).length = 32 from (linkF_len _ _)) (fun w H => ?_))
    replace H : Hp _ w _ (Ch.blk b14 ((linkF (headF (g.l.take i)) e6).map V8) 31 :: Ch.own a10 n11 c12 ((entB e6).map V8) 5 1 :: Ch.blk b1 ((headF (g.l.take i)).map V8) 31 :: Ch.own a i k ((os).flatMap objE) 141 33 :: os.map dch) := H
    refine ⟨H.sub (.cons _ (.cons_cons _ (.cons_cons _ (.cons_cons _ (List.nil_sublist _))))), ?_⟩
    replace HS := H.sub (.cons _ (.cons_cons _ (.cons_cons _ (.cons_cons _ (List.nil_sublist _)))))
    refine t_take 11 rfl (by kernel_rfl) (by kernel_rfl) (by kernel_rfl) (fun _ _ _ h => h) (fun w HS => r_as) HS ?_
    refine t_done (by kernel_rfl) ?_
    clear HS
    repeat refine c_seq ?_
    refine wp_held (fun w => Hp w0 w [] [.blk b14 ((linkF (headF (g.l.take i)) e6).map V8) 31, .own a10 n11 c12 ((entB e6).map V8) 5 1, .blk b1 ((headF (g.l.take i)).map V8) 31]) mixed ?_
    replace H := H.drew
    have HS := H.sub (.cons_cons _ (.cons_cons _ (.cons_cons _ (List.nil_sublist _))))
    refine t_take 0 rfl (by kernel_rfl) (by kernel_rfl) (by kernel_rfl) (fun _ _ _ h => h) (fun w HS => r_mv) HS ?_
    refine t_take 1 rfl (by kernel_rfl) (by kernel_rfl) (by kernel_rfl) (fun _ _ _ h => h) (fun w HS => r_ldAA (l := linkF (headF (g.l.take i)) e6) HS (i := 0) rfl rfl rt31 (show (linkF (headF (g.l.take i)) e6).length = 32 from (linkF_len _ _))) HS ?_
    refine t_take 3 rfl (by kernel_rfl) (by kernel_rfl) (by kernel_rfl) (fun _ _ _ h => h) (fun w HS => r_slA (h := 32) (m := 32) (lv := none) (hv := none) (mv := none) rfl ar31 rfl rfl rfl (fun w => sbn w)) HS ?_
    refine t_take 5 rfl (by kernel_rfl) (by kernel_rfl) (by kernel_rfl) (fun _ _ _ h => h) (fun w HS => r_mv) HS ?_
    refine t_step 2 rfl (by kernel_rfl) (o_bslB (([] : List UInt8)) H sl29 zc5 rfl rfl (by decide) (fun b15 w H hb15 => ?_))
    replace H := H.rot
    replace H : Hp _ w _ (Ch.own (some b15) 0 0 ((([] : List UInt8)).map V8) 5 1 :: Ch.blk b14 ((linkF (headF (g.l.take i)) e6).map V8) 31 :: Ch.own a10 n11 c12 ((entB e6).map V8) 5 1 :: Ch.blk b1 ((headF (g.l.take i)).map V8) 31 :: Ch.own a i k ((os).flatMap objE) 141 33 :: os.map dch) := H
    refine ⟨H.sub (.cons _ (.cons_cons _ (.cons_cons _ (.cons_cons _ (List.nil_sublist _))))), ?_⟩
    replace HS := H.sub (.cons _ (.cons_cons _ (.cons_cons _ (.cons_cons _ (List.nil_sublist _)))))
    refine t_step 4 rfl (by kernel_rfl) (o_appB (s := (⟨some ⟨b1, 0, none⟩, 32, 32, headF (g.l.take i)⟩ : Sl)) (l' := headF (g.l.take i)) (len' := 32) rfl (Nat.zero_add _) H (i := 0) rfl sl29 Try.underlying29 rfl rfl (H.slBlkA (i := 3) rfl 32 (show (headF (g.l.take i)).length = 32 from (headF_len _)) (by decide)) (by omega) (fun a16 c17 w H => ?_))
    replace H : Hp _ w _ (Ch.own a16 32 c17 ((headF (g.l.take i)).map V8) 5 1 :: Ch.blk b14 ((linkF (headF (g.l.take i)) e6).map V8) 31 :: Ch.own a10 n11 c12 ((entB e6).map V8) 5 1 :: Ch.blk b1 ((headF (g.l.take i)).map V8) 31 :: Ch.own a i k ((os).flatMap objE) 141 33 :: os.map dch) := H
    refine ⟨H.sub (.cons _ (.cons_cons _ (.cons_cons _ (.cons_cons _ (List.nil_sublist _))))), ?_⟩
    replace HS := H.sub (.cons _ (.cons_cons _ (.cons_cons _ (.cons_cons _ (List.nil_sublist _)))))
    refine t_step 6 rfl (by kernel_rfl) (o_appB (s := ⟨hd a10, n11, c12, entB e6⟩) (l' := headF (g.l.take i) ++ (entB e6)) (len' := 32 + n11) rfl rfl H (i := 0) rfl sl29 Try.underlying29 rfl rfl (H.slOwn (i := 2) rfl) (by omega) (fun a18 c19 w H => ?_))
    replace H : Hp _ w _ (Ch.own a18 (32 + n11) c19 ((headF (g.l.take i) ++ (entB e6)).map V8) 5 1 :: Ch.blk b14 ((linkF (headF (g.l.take i)) e6).map V8) 31 :: Ch.own a10 n11 c12 ((entB e6).map V8) 5 1 :: Ch.blk b1 ((headF (g.l.take i)).map V8) 31 :: Ch.own a i k ((os).flatMap objE) 141 33 :: os.map dch) := H
    refine ⟨H.sub (.cons _ (.cons_cons _ (.cons_cons _ (.cons_cons _ (List.nil_sublist _))))), ?_⟩
    replace HS := H.sub (.cons _ (.cons_cons _ (.cons_cons _ (.cons_cons _ (List.nil_sublist _)))))
    refine t_take 7 rfl (by kernel_rfl) (by kernel_rfl) (by kernel_rfl) (fun _ _ _ h => h) (fun w HS => r_bldH (z := .slice none 0 0) (v := .slice (hd a18) (32 + n11) c19) (l := linkF (headF (g.l.take i)) e6) (m := 32) bd141 rfl rfl rfl rfl rfl (show (linkF (headF (g.l.take i)) e6).length = 32 from (linkF_len _ _))) HS ?_
    refine t_step 8 rfl (by kernel_rfl) (o_bslG1 (enc := objE) ((⟨linkF (headF (g.l.take i)) e6, a18, 32 + n11, c19, headF (g.l.take i) ++ (entB e6)⟩ : Ob)) H sl138 zc141 (by rfl) (by decide) (by decide) rfl (objE_len (show (linkF (headF (g.l.take i)) e6).length = 32 from (linkF_len _ _))) (fun b20 w H hb20 => ?_))
    replace H := H.rot
    replace H : Hp _ w _ (Ch.own (some b20) 1 1 (([(⟨linkF (headF (g.l.take i)) e6, a18, 32 + n11, c19, headF (g.l.take i) ++ (entB e6)⟩ : Ob)]).flatMap objE) 141 33 :: Ch.own a18 (32 + n11) c19 ((headF (g.l.take i) ++ (entB e6)).map V8) 5 1 :: Ch.blk b14 ((linkF (headF (g.l.take i)) e6).map V8) 31 :: Ch.own a10 n11 c12 ((entB e6).map V8) 5 1 :: Ch.blk b1 ((headF (g.l.take i)).map V8) 31 :: Ch.own a i k ((os).flatMap objE) 141 33 :: os.map dch) := H
    refine ⟨H.sub (.cons _ (.cons _ (.cons_cons _ (.cons_cons _ (.cons_cons _ (List.nil_sublist _)))))), ?_⟩
    replace HS := H.sub (.cons _ (.cons _ (.cons_cons _ (.cons_cons _ (.cons_cons _ (List.nil_sublist _))))))
    refine t_step 9 rfl (by kernel_rfl) (o_appG (enc := objE) (s := ⟨hd (some b20), 1, 1, [(⟨linkF (headF (g.l.take i)) e6, a18, 32 + n11, c19, headF (g.l.take i) ++ (entB e6)⟩ : Ob)]⟩) (l' := os ++ ([(⟨linkF (headF (g.l.take i)) e6, a18, 32 + n11, c19, headF (g.l.take i) ++ (entB e6)⟩ : Ob)])) (len' := i + 1) rfl rfl H (i := 5) rfl sl138 Try.underlying138 rfl rfl (H.glOwn (i := 0) rfl (by decide) (fun c hc => by rw [List.mem_singleton.1 hc]; exact objE_len (show (linkF (headF (g.l.take i)) e6).length = 32 from (linkF_len _ _)))) (by decide) (fun c _ => objE_all c) (by omega) (by decide) (fun a21 c22 w H => ?_))
    replace H : Hp _ w _ (Ch.own (some b20) 1 1 (([(⟨linkF (headF (g.l.take i)) e6, a18, 32 + n11, c19, headF (g.l.take i) ++ (entB e6)⟩ : Ob)]).flatMap objE) 141 33 :: Ch.own a18 (32 + n11) c19 ((headF (g.l.take i) ++ (entB e6)).map V8) 5 1 :: Ch.blk b14 ((linkF (headF (g.l.take i)) e6).map V8) 31 :: Ch.own a10 n11 c12 ((entB e6).map V8) 5 1 :: Ch.blk b1 ((headF (g.l.take i)).map V8) 31 :: Ch.own a21 (i + 1) c22 ((os ++ ([(⟨linkF (headF (g.l.take i)) e6, a18, 32 + n11, c19, headF (g.l.take i) ++ (entB e6)⟩ : Ob)])).flatMap objE) 141 33 :: os.map dch) := H
    refine ⟨H.sub (.cons _ (.cons _ (.cons_cons _ (.cons_cons _ (.cons_cons _ (List.nil_sublist _)))))), ?_⟩
    replace HS := H.sub (.cons _ (.cons _ (.cons_cons _ (.cons_cons _ (.cons_cons _ (List.nil_sublist _))))))
    refine t_take 10 rfl (by kernel_rfl) (by kernel_rfl) (by kernel_rfl) (fun _ _ _ h => h) (fun w HS => r_as) HS ?_
    refine t_done (by kernel_rfl) ?_
    clear HS
    repeat refine c_seq ?_
    refine c_region ?_
    refine l_op (o_val (r_ldAA (l := linkF (headF (g.l.take i)) e6) H (i := 2) rfl rfl rt31 (show (linkF (headF (g.l.take i)) e6).length = 32 from (linkF_len _ _))) ?_)
    refine l_op (o_stA (l' := linkF (headF (g.l.take i)) e6) H (i := 4) rfl rfl rfl cs31 (show (headF (g.l.take i)).length = 32 from (headF_len _)) (show (linkF (headF (g.l.take i)) e6).length = 32 from (linkF_len _ _)) (fun w H => ?_))
    replace H : Hp _ w _ (Ch.own (some b20) 1 1 (([(⟨linkF (headF (g.l.take i)) e6, a18, 32 + n11, c19, headF (g.l.take i) ++ (entB e6)⟩ : Ob)]).flatMap objE) 141 33 :: Ch.own a18 (32 + n11) c19 ((headF (g.l.take i) ++ (entB e6)).map V8) 5 1 :: Ch.blk b14 ((linkF (headF (g.l.take i)) e6).map V8) 31 :: Ch.own a10 n11 c12 ((entB e6).map V8) 5 1 :: Ch.blk b1 ((linkF (headF (g.l.take i)) e6).map V8) 31 :: Ch.own a21 (i + 1) c22 ((os ++ ([(⟨linkF (headF (g.l.take i)) e6, a18, 32 + n11, c19, headF (g.l.take i) ++ (entB e6)⟩ : Ob)])).flatMap objE) 141 33 :: os.map dch) := H
    first | refine l_end ?_ | refine l_nil ?_
    repeat refine c_seq ?_
    refine c_region ?_
    refine l_op (o_val (r_mv) ?_)
    refine l_op (o_val (r_bin (a := (i : Int)) (b := 1) rfl rfl (fun _ => b_add (by omega) (by omega))) ?_)
    refine l_op (o_val (r_as) ?_)
    first | refine l_end ?_ | refine l_nil ?_
    rw [headF_succ g.l i _ he7] at H
    refine round_end (i + 1, os ++ [(⟨headF (g.l.take (i + 1)), a18, 32 + n11, c19, headF (g.l.take i) ++ (entB e6)⟩ : Ob)], a21, c22) ?_ ?_ ?_
    · exact ⟨rfl, rfl, rfl, show VI ((i : Int) + 1) = VI ((i + 1 : Nat) : Int) from congrArg VI (by omega), trivial⟩
    · refine ⟨?_, ?_⟩
      · try dsimp only
        exact ⟨by omega, by rw [List.map_append, hos, ← textF_take g.l i _ he7]; rfl, fun c hc => by
                rcases List.mem_append.1 hc with h1 | h1
                · exact hof c h1
                · rw [List.mem_singleton.1 h1]; exact headF_len _⟩
      · exact (texts_step (o := (⟨headF (g.l.take (i + 1)), a18, 32 + n11, c19, headF (g.l.take i) ++ (entB e6)⟩ : Ob)) (H.sub (.cons _ (.cons_cons _ (.cons _ (.cons _ (.cons_cons _ (.cons_cons _ (List.Sublist.refl _)))))))))
    · show g.len - (i + 1 : Nat) < g.len - i; omega
   ·
    refine (o_alloc H zc31 (fun b23 w H hb23 => ?_))
    replace H := H.rot
    replace H : Hp _ w _ (Ch.blk b23 ((List.replicate 32 (0 : UInt8)).map V8) 31 :: Ch.own a10 n11 c12 ((entB e6).map V8) 5 1 :: Ch.blk b1 ((headF (g.l.take i)).map V8) 31 :: Ch.own a i k ((os).flatMap objE) 141 33 :: os.map dch) := H
    refine ⟨H.sub (.cons _ (.cons_cons _ (.cons_cons _ (.cons_cons _ (List.nil_sublist _))))), ?_⟩
    replace HS := H.sub (.cons _ (.cons_cons _ (.cons_cons _ (.cons_cons _ (List.nil_sublist _)))))
    refine t_step 5 rfl (by kernel_rfl) (o_callR Try.func88 rfl rfl rfl (aLinkr_ok _ (headF (g.l.take i)) (show (headF (g.l.take i)).length = 32 from (headF_len _)) e6 (show (e6.of_).length = 32 from (ent_of hez8)) (hgd _ (List.mem_of_getElem? he7)).2.1 hk9) ?_)
    rintro _ w ⟨rfl, Hc⟩
    replace H : Hp _ w _ (Ch.blk b23 ((List.replicate 32 (0 : UInt8)).map V8) 31 :: Ch.own a10 n11 c12 ((entB e6).map V8) 5 1 :: Ch.blk b1 ((headF (g.l.take i)).map V8) 31 :: Ch.own a i k ((os).flatMap objE) 141 33 :: os.map dch) := H.keep1 Hc
    clear Hc
    refine ⟨H.sub (.cons _ (.cons_cons _ (.cons_cons _ (.cons_cons _ (List.nil_sublist _))))), ?_⟩
    replace HS := H.sub (.cons _ (.cons_cons _ (.cons_cons _ (.cons_cons _ (List.nil_sublist _)))))
    refine t_take 6 rfl (by kernel_rfl) (by kernel_rfl) (by kernel_rfl) (fun _ _ _ h => h) (fun w HS => r_mv) HS ?_
    refine t_take 7 rfl (by kernel_rfl) (by kernel_rfl) (by kernel_rfl) (fun _ _ _ h => h) (fun w HS => r_ext rfl rfl) HS ?_
    refine t_take 8 rfl (by kernel_rfl) (by kernel_rfl) (by kernel_rfl) (fun _ _ _ h => h) (fun w HS => r_ext rfl rfl) HS ?_
    refine t_step 10 rfl (by kernel_rfl) (o_stA (l' := linkF (headF (g.l.take i)) e6) H (i := 0) rfl rfl rfl cs31 (show (List.replicate 32 (0 : UInt8)).length = 32 from (List.length_replicate ..)) (show (linkF (headF (g.l.take i)) e6).length = 32 from (linkF_len _ _)) (fun w H => ?_))
    replace H : Hp _ w _ (Ch.blk b23 ((linkF (headF (g.l.take i)) e6).map V8) 31 :: Ch.own a10 n11 c12 ((entB e6).map V8) 5 1 :: Ch.blk b1 ((headF (g.l.take i)).map V8) 31 :: Ch.own a i k ((os).flatMap objE) 141 33 :: os.map dch) := H
    refine ⟨H.sub (.cons _ (.cons_cons _ (.cons_cons _ (.cons_cons _ (List.nil_sublist _))))), ?_⟩
    replace HS := H.sub (.cons _ (.cons_cons _ (.cons_cons _ (.cons_cons _ (List.nil_sublist _)))))
    refine t_take 11 rfl (by kernel_rfl) (by kernel_rfl) (by kernel_rfl) (fun _ _ _ h => h) (fun w HS => r_as) HS ?_
    refine t_done (by kernel_rfl) ?_
    clear HS
    repeat refine c_seq ?_
    refine wp_held (fun w => Hp w0 w [] [.blk b23 ((linkF (headF (g.l.take i)) e6).map V8) 31, .own a10 n11 c12 ((entB e6).map V8) 5 1, .blk b1 ((headF (g.l.take i)).map V8) 31]) mixed ?_
    replace H := H.drew
    have HS := H.sub (.cons_cons _ (.cons_cons _ (.cons_cons _ (List.nil_sublist _))))
    refine t_take 0 rfl (by kernel_rfl) (by kernel_rfl) (by kernel_rfl) (fun _ _ _ h => h) (fun w HS => r_mv) HS ?_
    refine t_take 1 rfl (by kernel_rfl) (by kernel_rfl) (by kernel_rfl) (fun _ _ _ h => h) (fun w HS => r_ldAA (l := linkF (headF (g.l.take i)) e6) HS (i := 0) rfl rfl rt31 (show (linkF (headF (g.l.take i)) e6).length = 32 from (linkF_len _ _))) HS ?_
    refine t_take 3 rfl (by kernel_rfl) (by kernel_rfl) (by kernel_rfl) (fun _ _ _ h => h) (fun w HS => r_slA (h := 32) (m := 32) (lv := none) (hv := none) (mv := none) rfl ar31 rfl rfl rfl (fun w => sbn w)) HS ?_
    refine t_take 5 rfl (by kernel_rfl) (by kernel_rfl) (by kernel_rfl) (fun _ _ _ h => h) (fun w HS => r_mv) HS ?_
    refine t_step 2 rfl (by kernel_rfl) (o_bslB (([] : List UInt8)) H sl29 zc5 rfl rfl (by decide) (fun b24 w H hb24 => ?_))
    replace H := H.rot
    replace H : Hp _ w _ (Ch.own (some b24) 0 0 ((([] : List UInt8)).map V8) 5 1 :: Ch.blk b23 ((linkF (headF (g.l.take i)) e6).map V8) 31 :: Ch.own a10 n11 c12 ((entB e6).map V8) 5 1 :: Ch.blk b1 ((headF (g.l.take i)).map V8) 31 :: Ch.own a i k ((os).flatMap objE) 141 33 :: os.map dch) := H
    refine ⟨H.sub (.cons _ (.cons_cons _ (.cons_cons _ (.cons_cons _ (List.nil_sublist _))))), ?_⟩
    replace HS := H.sub (.cons _ (.cons_cons _ (.cons_cons _ (.cons_cons _ (List.nil_sublist _)))))
    refine t_step 4 rfl (by kernel_rfl) (o_appB (s := (⟨some ⟨b1, 0, none⟩, 32, 32, headF (g.l.take i)⟩ : Sl)) (l' := headF (g.l.take i)) (len' := 32) rfl (Nat.zero_add _) H (i := 0) rfl sl29 Try.underlying29 rfl rfl (H.slBlkA (i := 3) rfl 32 (show (headF (g.l.take i)).length = 32 from (headF_len _)) (by decide)) (by omega) (fun a25 c26 w H => ?_))
    replace H : Hp _ w _ (Ch.own a25 32 c26 ((headF (g.l.take i)).map V8) 5 1 :: Ch.blk b23 ((linkF (headF (g.l.take i)) e6).map V8) 31 :: Ch.own a10 n11 c12 ((entB e6).map V8) 5 1 :: Ch.blk b1 ((headF (g.l.take i)).map V8) 31 :: Ch.own a i k ((os).flatMap objE) 141 33 :: os.map dch) := H
    refine ⟨H.sub (.cons _ (.cons_cons _ (.cons_cons _ (.cons_cons _ (List.nil_sublist _))))), ?_⟩
    replace HS := H.sub (.cons _ (.cons_cons _ (.cons_cons _ (.cons_cons _ (List.nil_sublist _)))))
    refine t_step 6 rfl (by kernel_rfl) (o_appB (s := ⟨hd a10, n11, c12, entB e6⟩) (l' := headF (g.l.take i) ++ (entB e6)) (len' := 32 + n11) rfl rfl H (i := 0) rfl sl29 Try.underlying29 rfl rfl (H.slOwn (i := 2) rfl) (by omega) (fun a27 c28 w H => ?_))
    replace H : Hp _ w _ (Ch.own a27 (32 + n11) c28 ((headF (g.l.take i) ++ (entB e6)).map V8) 5 1 :: Ch.blk b23 ((linkF (headF (g.l.take i)) e6).map V8) 31 :: Ch.own a10 n11 c12 ((entB e6).map V8) 5 1 :: Ch.blk b1 ((headF (g.l.take i)).map V8) 31 :: Ch.own a i k ((os).flatMap objE) 141 33 :: os.map dch) := H
    refine ⟨H.sub (.cons _ (.cons_cons _ (.cons_cons _ (.cons_cons _ (List.nil_sublist _))))), ?_⟩
    replace HS := H.sub (.cons _ (.cons_cons _ (.cons_cons _ (.cons_cons _ (List.nil_sublist _)))))
    refine t_take 7 rfl (by kernel_rfl) (by kernel_rfl) (by kernel_rfl) (fun _ _ _ h => h) (fun w HS => r_bldH (z := .slice none 0 0) (v := .slice (hd a27) (32 + n11) c28) (l := linkF (headF (g.l.take i)) e6) (m := 32) bd141 rfl rfl rfl rfl rfl (show (linkF (headF (g.l.take i)) e6).length = 32 from (linkF_len _ _))) HS ?_
    refine t_step 8 rfl (by kernel_rfl) (o_bslG1 (enc := objE) ((⟨linkF (headF (g.l.take i)) e6, a27, 32 + n11, c28, headF (g.l.take i) ++ (entB e6)⟩ : Ob)) H sl138 zc141 (by rfl) (by decide) (by decide) rfl (objE_len (show (linkF (headF (g.l.take i)) e6).length = 32 from (linkF_len _ _))) (fun b29 w H hb29 => ?_))
    replace H := H.rot
    replace H : Hp _ w _ (Ch.own (some b29) 1 1 (([(⟨linkF (headF (g.l.take i)) e6, a27, 32 + n11, c28, headF (g.l.take i) ++ (entB e6)⟩ : Ob)]).flatMap objE) 141 33 :: Ch.own a27 (32 + n11) c28 ((headF (g.l.take i) ++ (entB e6)).map V8) 5 1 :: Ch.blk b23 ((linkF (headF (g.l.take i)) e6).map V8) 31 :: Ch.own a10 n11 c12 ((entB e6).map V8) 5 1 :: Ch.blk b1 ((headF (g.l.take i)).map V8) 31 :: Ch.own a i k ((os).flatMap objE) 141 33 :: os.map dch) := H
    refine ⟨H.sub (.cons _ (.cons _ (.cons_cons _ (.cons_cons _ (.cons_cons _ (List.nil_sublist _)))))), ?_⟩
    replace HS := H.sub (.cons _ (.cons _ (.cons_cons _ (.cons_cons _ (.cons_cons _ (List.nil_sublist _))))))
    refine t_step 9 rfl (by kernel_rfl) (o_appG (enc := objE) (s := ⟨hd (some b29), 1, 1, [(⟨linkF (headF (g.l.take i)) e6, a27, 32 + n11, c28, headF (g.l.take i) ++ (entB e6)⟩ : Ob)]⟩) (l' := os ++ ([(⟨linkF (headF (g.l.take i)) e6, a27, 32 + n11, c28, headF (g.l.take i) ++ (entB e6)⟩ : Ob)])) (len' := i + 1) rfl rfl H (i := 5) rfl sl138 Try.underlying138 rfl rfl (H.glOwn (i := 0) rfl (by decide) (fun c hc => by rw [List.mem_singleton.1 hc]; exact objE_len (show (linkF (headF (g.l.take i)) e6).length = 32 from (linkF_len _ _)))) (by decide) (fun c _ => objE_all c) (by omega) (by decide) (fun a30 c31 w H => ?_))
    replace H : Hp _ w _ (Ch.own (some b29) 1 1 (([(⟨linkF (headF (g.l.take i)) e6, a27, 32 + n11, c28, headF (g.l.take i) ++ (entB e6)⟩ : Ob)]).flatMap objE) 141 33 :: Ch.own a27 (32 + n11) c28 ((headF (g.l.take i) ++ (entB e6)).map V8) 5 1 :: Ch.blk b23 ((linkF (headF (g.l.take i)) e6).map V8) 31 :: Ch.own a10 n11 c12 ((entB e6).map V8) 5 1 :: Ch.blk b1 ((headF (g.l.take i)).map V8) 31 :: Ch.own a30 (i + 1) c31 ((os ++ ([(⟨linkF (headF (g.l.take i)) e6, a27, 32 + n11, c28, headF (g.l.take i) ++ (entB e6)⟩ : Ob)])).flatMap objE) 141 33 :: os.map dch) := H
    refine ⟨H.sub (.cons _ (.cons _ (.cons_cons _ (.cons_cons _ (.cons_cons _ (List.nil_sublist _)))))), ?_⟩
    replace HS := H.sub (.cons _ (.cons _ (.cons_cons _ (.cons_cons _ (.cons_cons _ (List.nil_sublist _))))))
    refine t_take 10 rfl (by kernel_rfl) (by kernel_rfl) (by kernel_rfl) (fun _ _ _ h => h) (fun w HS => r_as) HS ?_
    refine t_done (by kernel_rfl) ?_
    clear HS
    repeat refine c_seq ?_
    refine c_region ?_
    refine l_op (o_val (r_ldAA (l := linkF (headF (g.l.take i)) e6) H (i := 2) rfl rfl rt31 (show (linkF (headF (g.l.take i)) e6).length = 32 from (linkF_len _ _))) ?_)
    refine l_op (o_stA (l' := linkF (headF (g.l.take i)) e6) H (i := 4) rfl rfl rfl cs31 (show (headF (g.l.take i)).length = 32 from (headF_len _)) (show (linkF (headF (g.l.take i)) e6).length = 32 from (linkF_len _ _)) (fun w H => ?_))
    replace H : Hp _ w _ (Ch.own (some b29) 1 1 (([(⟨linkF (headF (g.l.take i)) e6, a27, 32 + n11, c28, headF (g.l.take i) ++ (entB e6)⟩ : Ob)]).flatMap objE) 141 33 :: Ch.own a27 (32 + n11) c28 ((headF (g.l.take i) ++ (entB e6)).map V8) 5 1 :: Ch.blk b23 ((linkF (headF (g.l.take i)) e6).map V8) 31 :: Ch.own a10 n11 c12 ((entB e6).map V8) 5 1 :: Ch.blk b1 ((linkF (headF (g.l.take i)) e6).map V8) 31 :: Ch.own a30 (i + 1) c31 ((os ++ ([(⟨linkF (headF (g.l.take i)) e6, a27, 32 + n11, c28, headF (g.l.take i) ++ (entB e6)⟩ : Ob)])).flatMap objE) 141 33 :: os.map dch) := H
    first | refine l_end ?_ | refine l_nil ?_
    repeat refine c_seq ?_
    refine c_region ?_
    refine l_op (o_val (r_mv) ?_)
    refine l_op (o_val (r_bin (a := (i : Int)) (b := 1) rfl rfl (fun _ => b_add (by omega) (by omega))) ?_)
    refine l_op (o_val (r_as) ?_)
    first | refine l_end ?_ | refine l_nil ?_
    rw [headF_succ g.l i _ he7] at H
    refine round_end (i + 1, os ++ [(⟨headF (g.l.take (i + 1)), a27, 32 + n11, c28, headF (g.l.take i) ++ (entB e6)⟩ : Ob)], a30, c31) ?_ ?_ ?_
    · exact ⟨rfl, rfl, rfl, show VI ((i : Int) + 1) = VI ((i + 1 : Nat) : Int) from congrArg VI (by omega), trivial⟩
    · refine ⟨?_, ?_⟩
      · try dsimp only
        exact ⟨by omega, by rw [List.map_append, hos, ← textF_take g.l i _ he7]; rfl, fun c hc => by
                rcases List.mem_append.1 hc with h1 | h1
                · exact hof c h1
                · rw [List.mem_singleton.1 h1]; exact headF_len _⟩
      · exact (texts_step (o := (⟨headF (g.l.take (i + 1)), a27, 32 + n11, c28, headF (g.l.take i) ++ (entB e6)⟩ : Ob)) (H.sub (.cons _ (.cons_cons _ (.cons _ (.cons _ (.cons_cons _ (.cons_cons _ (List.Sublist.refl _)))))))))
    · show g.len - (i + 1 : Nat) < g.len - i; omega
  ·
   repeat refine c_seq ?_
   refine c_no (by exact congrArg Value.bool (decide_eq_false hc2)) ?_
   refine c_exit ?_
   repeat refine c_seq ?_
   refine c_region ?_
   refine l_op (o_val (r_mv) ?_)
   refine l_op (o_val (r_as) ?_)
   first | refine l_end ?_ | refine l_nil ?_
   refine c_ret ?_
   try dsimp only [Exit.then, Exit.inBlock]
   refine e_ret1 (v := .slice (hd a) i k) Try.results129 rfl ?_
   refine ⟨_, rfl, ?_⟩
   have hi2 : i = g.len := by omega
   subst hi2
   rw [List.take_of_length_le (by omega)] at hos
   refine ⟨_, _, os, rfl, hos, hof, H.glOwn (i := 1) rfl (by decide) (fun c hc => objE_len (hof c hc)), fun o ho => ?_, H.sub (List.nil_sublist _)⟩
   obtain ⟨j, hj⟩ := List.getElem?_of_mem ho
   exact H.slOwn (i := j + 2) (l := o.l) (T := 5) (by simp only [List.getElem?_cons_succ, List.getElem?_map, hj]; rfl)
end Go.Proofs.Ytjmbbhnpfmblpaa
namespace Go.Proofs.Ytjmbbhnpfmblpaa
open Go
set_option maxRecDepth 100000
set_option maxHeartbeats 1000000 in
theorem collides_ret (w0 : World) (g u : Gl Ent) (hg : g.ok entE 38 w0) (hu : u.ok entE 38 w0) (hgd : ∀ e ∈ g.l, e.good) (hud : ∀ e ∈ u.l, e.good) (hm : g.len ≤ 65536) (hm2 : u.len ≤ 65536) :
    Ret Try.prog 101 [g.v, u.v] w0 fun v w' => v = .bool (collF (textF Z32a g.l) (textF Z32a u.l)) ∧ Hp w0 w' [] [] := by
  refine ret_mk Try.func101 rfl Try.ntmps101 (by simp) ?_
  have H := Hp.refl w0 []
  have hgl := hg.ln
  have hge := hg.le
  have hgx := hg.mx
  have hul := hu.ln
  have hue := hu.le
  have hux := hu.mx
  have hmL : maxLen = 9223372036854775807 := rfl
  repeat refine c_seq ?_
  refine c_region ?_
  refine l_op (o_val (r_as) ?_)
  first | refine l_end ?_ | refine l_nil ?_
  repeat refine c_seq ?_
  refine c_region ?_
  refine l_op (o_val (r_mv) ?_)
  refine l_op (o_callR Try.func129 rfl rfl rfl (texts_ret _ g (hg.up H) hgd (by omega)) ?_)
  rintro _ w ⟨a1, k1, os1, rfl, hos1, hof1, hX1, hsX1, Hc⟩
  replace H : Hp _ w _ ([]) := H.call Hc
  clear Hc
  have Hb1 := H
  replace hg := hg.up H
  replace hu := hu.up H
  clear H
  rename World => wb1
  have H := Hp.refl wb1 []
  refine l_op (o_val (r_mv) ?_)
  refine l_op (o_callR Try.func129 rfl rfl rfl (texts_ret _ u (hu.up H) hud (by omega)) ?_)
  rintro _ w ⟨a2, k2, os2, rfl, hos2, hof2, hX2, hsX2, Hc⟩
  replace H : Hp _ w _ ([]) := H.call Hc
  clear Hc
  have Hb2 := H
  replace hX1 := hX1.up H
  replace hsX1 : ∀ o ∈ os1, o.s.ok _ := fun o ho => (hsX1 o ho).up H (fun _ => apart_nil _)
  clear H
  rename World => wb2
  have H := Hp.refl wb2 []
  refine l_op (o_val (r_as) ?_)
  refine l_op (o_val (r_as) ?_)
  first | refine l_end ?_ | refine l_nil ?_
  repeat refine c_seq ?_
  refine c_region ?_
  refine l_op (o_val (r_as) ?_)
  first | refine l_end ?_ | refine l_nil ?_
  repeat refine c_seq ?_
  refine c_block ?_
  have hXl1 : os1.length = g.len := hX1.ln
  have hXl2 : os2.length = u.len := hX2.ln
  repeat refine c_seq ?_
  refine c_loop (fun (i : Nat) => [(5, (⟨hd a1, g.len, k1, os1⟩ : Gl Ob).v), (6, (⟨hd a2, u.len, k2, os2⟩ : Gl Ob).v), (7, VI (i : Int))])
    (fun (i : Nat) w => (i ≤ g.len ∧ ∀ (j b : Nat) (p q : Ob), j < i → os1[j]? = some p → os2[b]? = some q → ¬ (p.of_ = q.of_ ∧ ¬ p.l = q.l)) ∧ Hp wb2 w [] ([]))
    (fun (i : Nat) => g.len - i) 0 ⟨rfl, rfl, rfl, trivial⟩ ⟨⟨Nat.zero_le _, fun j b p q hj => absurd hj (by omega)⟩, H⟩ ?_
  clear H
  rintro i τ w ⟨⟨hi, hall⟩, H⟩
  repeat refine c_seq ?_
  refine c_region ?_
  refine l_op (o_val (r_mv) ?_)
  refine l_op (o_val (r_mv) ?_)
  refine l_op (o_val (r_lens el138 rfl) ?_)
  refine l_op (o_val (r_bin (a := (i : Int)) (b := (g.len : Int)) rfl rfl (fun _ => b_lss)) ?_)
  first | refine l_end ?_ | refine l_nil ?_
  by_cases hc1 : (i : Int) < (g.len : Int)
  ·
   repeat refine c_seq ?_
   refine c_yes (by exact congrArg Value.bool (decide_eq_true hc1)) ?_
   refine c_skip ?_
   repeat refine c_seq ?_
   refine c_block ?_
   repeat refine c_seq ?_
   refine c_region ?_
   refine l_op (o_val (r_as) ?_)
   first | refine l_end ?_ | refine l_nil ?_
   repeat refine c_seq ?_
   refine c_block ?_
   repeat refine c_seq ?_
   refine c_loop (fun (k : Nat) => [(5, (⟨hd a1, g.len, k1, os1⟩ : Gl Ob).v), (6, (⟨hd a2, u.len, k2, os2⟩ : Gl Ob).v), (7, VI (i : Int)), (8, VI (k : Int))])
     (fun (k : Nat) w => (k ≤ u.len ∧ ∀ (b : Nat) (p q : Ob), b < k → os1[i]? = some p → os2[b]? = some q → ¬ (p.of_ = q.of_ ∧ ¬ p.l = q.l)) ∧ Hp wb2 w [] ([]))
     (fun (k : Nat) => u.len - k) 0 ⟨rfl, rfl, rfl, rfl, trivial⟩ ⟨⟨Nat.zero_le _, fun b p q hb => absurd hb (by omega)⟩, H⟩ ?_
   clear H
   rintro k τ w ⟨⟨hk, hin⟩, H⟩
   repeat refine c_seq ?_
   refine c_region ?_
   refine l_op (o_val (r_mv) ?_)
   refine l_op (o_val (r_mv) ?_)
   refine l_op (o_val (r_lens el138 rfl) ?_)
   refine l_op (o_val (r_bin (a := (k : Int)) (b := (u.len : Int)) rfl rfl (fun _ => b_lss)) ?_)
   first | refine l_end ?_ | refine l_nil ?_
   by_cases hc2 : (k : Int) < (u.len : Int)
   ·
    repeat refine c_seq ?_
    refine c_yes (by exact congrArg Value.bool (decide_eq_true hc2)) ?_
    refine c_skip ?_
    repeat refine c_seq ?_
    refine c_block ?_
    repeat refine c_seq ?_
    refine c_still mixed (by kernel_rfl) ?_
    replace H := H.drew
    refine s_op (r_mv) ?_
    refine s_op (r_mv) ?_
    have ah5 := ((hX1.up H)).addr (by decide) (by first | omega | (dsimp only; omega))
    obtain ⟨ab3, ao4, ah5⟩ := ah5
    refine s_op (r_isN i rfl rfl el138 ah5 (by omega) (by (try simp only []); omega)) ?_
    refine s_op (r_fa rfl fo141_0) ?_
    have ho70 : ∃ c, os1[i]? = some c := ⟨_, List.getElem?_eq_getElem (by have := hX1.ln; (try dsimp only at this ⊢); omega)⟩
    obtain ⟨o6, ho7⟩ := ho70
    refine s_op (r_ldHead (s := (⟨hd a1, g.len, k1, os1⟩ : Gl Ob)) (k := i) (hX1.up H) ah5 rfl rt31 (by decide) (by decide) ho7 (objE_take (hof1 _ (List.mem_of_getElem? ho7)))) ?_
    refine s_op (r_mv) ?_
    refine s_op (r_mv) ?_
    have ah10 := ((hX2.up H)).addr (by decide) (by first | omega | (dsimp only; omega))
    obtain ⟨ab8, ao9, ah10⟩ := ah10
    refine s_op (r_isN k rfl rfl el138 ah10 (by omega) (by (try simp only []); omega)) ?_
    refine s_op (r_fa rfl fo141_0) ?_
    have ho120 : ∃ c, os2[k]? = some c := ⟨_, List.getElem?_eq_getElem (by have := hX2.ln; (try dsimp only at this ⊢); omega)⟩
    obtain ⟨o11, ho12⟩ := ho120
    refine s_op (r_ldHead (s := (⟨hd a2, u.len, k2, os2⟩ : Gl Ob)) (k := k) (hX2.up H) ah10 rfl rt31 (by decide) (by decide) ho12 (objE_take (hof2 _ (List.mem_of_getElem? ho12)))) ?_
    refine s_op (r_eqa (a := o6.of_) (b := o11.of_) Try.underlying31 Try.underlying5 cs5 rfl rfl (show (o6.of_).length = 32 from (hof1 _ (List.mem_of_getElem? ho7))) (show (o11.of_).length = 32 from (hof2 _ (List.mem_of_getElem? ho12)))) ?_
    refine s_op (r_mv) ?_
    by_cases hc13 : o6.of_ = o11.of_
    ·
     refine s_yes rfl rfl (by exact congrArg Value.bool (decide_eq_true hc13)) (r_mv) ?_
     refine s_yes rfl rfl (by exact congrArg Value.bool (decide_eq_true hc13)) (r_mv) ?_
     refine s_yes rfl rfl (by exact congrArg Value.bool (decide_eq_true hc13)) (r_isN i rfl rfl el138 ah5 (by omega) (by (try simp only []); omega)) ?_
     refine s_yes rfl rfl (by exact congrArg Value.bool (decide_eq_true hc13)) (r_fa rfl fo141_1) ?_
     refine s_yes rfl rfl (by exact congrArg Value.bool (decide_eq_true hc13)) (r_ldFld (v := (Ob.s o6).v) (s := (⟨hd a1, g.len, k1, os1⟩ : Gl Ob)) (k := i) (off := 32) (hX1.up H) ah5 rfl ct29 ho7 (by decide) (objE_get (hof1 _ (List.mem_of_getElem? ho7)))) ?_
     refine s_yes rfl rfl (by exact congrArg Value.bool (decide_eq_true hc13)) (r_b2S (s := (Ob.s o6)) Try.underlying29 Try.underlying5 Try.underlying9 rfl ((hsX1 _ (List.mem_of_getElem? ho7)).up H (fun _ => apart_nil _))) ?_
     refine s_yes rfl rfl (by exact congrArg Value.bool (decide_eq_true hc13)) (r_mv) ?_
     refine s_yes rfl rfl (by exact congrArg Value.bool (decide_eq_true hc13)) (r_mv) ?_
     refine s_yes rfl rfl (by exact congrArg Value.bool (decide_eq_true hc13)) (r_isN k rfl rfl el138 ah10 (by omega) (by (try simp only []); omega)) ?_
     refine s_yes rfl rfl (by exact congrArg Value.bool (decide_eq_true hc13)) (r_fa rfl fo141_1) ?_
     refine s_yes rfl rfl (by exact congrArg Value.bool (decide_eq_true hc13)) (r_ldFld (v := (Ob.s o11).v) (s := (⟨hd a2, u.len, k2, os2⟩ : Gl Ob)) (k := k) (off := 32) (hX2.up H) ah10 rfl ct29 ho12 (by decide) (objE_get (hof2 _ (List.mem_of_getElem? ho12)))) ?_
     refine s_yes rfl rfl (by exact congrArg Value.bool (decide_eq_true hc13)) (r_b2S (s := (Ob.s o11)) Try.underlying29 Try.underlying5 Try.underlying9 rfl ((hsX2 _ (List.mem_of_getElem? ho12)).up H (fun _ => apart_nil _))) ?_
     refine s_yes rfl rfl (by exact congrArg Value.bool (decide_eq_true hc13)) (r_strne (a := o6.l) (b := o11.l) rfl rfl) ?_
     refine s_op (r_pick (b := true) (congrArg Value.bool (decide_eq_true hc13))) ?_
     refine s_nil ?_
     by_cases hc14 : o6.l = o11.l
     ·
      repeat refine c_seq ?_
      refine c_no (by exact congrArg Value.bool (congrArg not (decide_eq_true hc14))) ?_
      refine c_skip ?_
      repeat refine c_seq ?_
      refine c_region ?_
      refine l_op (o_val (r_mv) ?_)
      refine l_op (o_val (r_bin (a := (k : Int)) (b := 1) rfl rfl (fun _ => b_add (by omega) (by omega))) ?_)
      refine l_op (o_val (r_as) ?_)
      first | refine l_end ?_ | refine l_nil ?_
      refine round_end (k + 1) ?_ ?_ ?_
      · exact ⟨rfl, rfl, rfl, show VI ((k : Int) + 1) = VI ((k + 1 : Nat) : Int) from congrArg VI (by omega), trivial⟩
      · refine ⟨?_, ?_⟩
        · try dsimp only
          exact ⟨by omega, fun b p q hb hp hq => by
                by_cases hbk : b < k
                · exact hin b p q hbk hp hq
                · have e : b = k := by omega
                  rw [e, ho12] at hq
                  rw [ho7] at hp
                  cases hp
                  cases hq
                  exact fun hx => hx.2 (of_decide_eq_true (decide_eq_true hc14))⟩
        · exact H
      · show u.len - (k + 1 : Nat) < u.len - k; omega
     ·
      repeat refine c_seq ?_
      refine c_yes (by exact congrArg Value.bool (congrArg not (decide_eq_false hc14))) ?_
      repeat refine c_seq ?_
      refine c_region ?_
      refine l_op (o_val (r_as) ?_)
      first | refine l_end ?_ | refine l_nil ?_
      refine c_ret ?_
      try dsimp only [Exit.then, Exit.inBlock]
      refine e_ret1 (v := .bool true) Try.results101 rfl ?_
      refine ⟨_, rfl, ?_⟩
      refine ⟨?_, (Hb1.keep1 (Hb2.keep1 H))⟩
      have e : collF (textF Z32a g.l) (textF Z32a u.l) = true := by
        rw [← hos1, ← hos2]
        exact (coll_iff _ _).2 ⟨o6.tx, List.mem_map_of_mem (List.mem_of_getElem? ho7), o11.tx, List.mem_map_of_mem (List.mem_of_getElem? ho12), of_decide_eq_true (decide_eq_true hc13), of_decide_eq_false (decide_eq_false hc14)⟩
      rw [e]
    ·
     refine s_no rfl rfl (by exact congrArg Value.bool (decide_eq_false hc13)) rfl ?_
     refine s_no rfl rfl (by exact congrArg Value.bool (decide_eq_false hc13)) rfl ?_
     refine s_no rfl rfl (by exact congrArg Value.bool (decide_eq_false hc13)) rfl ?_
     refine s_no rfl rfl (by exact congrArg Value.bool (decide_eq_false hc13)) rfl ?_
     refine s_no rfl rfl (by exact congrArg Value.bool (decide_eq_false hc13)) rfl ?_
     refine s_no rfl rfl (by exact congrArg Value.bool (decide_eq_false hc13)) rfl ?_
     refine s_no rfl rfl (by exact congrArg Value.bool (decide_eq_false hc13)) rfl ?_
     refine s_no rfl rfl (by exact congrArg Value.bool (decide_eq_false hc13)) rfl ?_
     refine s_no rfl rfl (by exact congrArg Value.bool (decide_eq_false hc13)) rfl ?_
     refine s_no rfl rfl (by exact congrArg Value.bool (decide_eq_false hc13)) rfl ?_
     refine s_no rfl rfl (by exact congrArg Value.bool (decide_eq_false hc13)) rfl ?_
     refine s_no rfl rfl (by exact congrArg Value.bool (decide_eq_false hc13)) rfl ?_
     refine s_no rfl rfl (by exact congrArg Value.bool (decide_eq_false hc13)) rfl ?_
     refine s_op (r_pick (b := false) (congrArg Value.bool (decide_eq_false hc13))) ?_
     refine s_nil ?_
     repeat refine c_seq ?_
     refine c_no rfl ?_
     refine c_skip ?_
     repeat refine c_seq ?_
     refine c_region ?_
     refine l_op (o_val (r_mv) ?_)
     refine l_op (o_val (r_bin (a := (k : Int)) (b := 1) rfl rfl (fun _ => b_add (by omega) (by omega))) ?_)
     refine l_op (o_val (r_as) ?_)
     first | refine l_end ?_ | refine l_nil ?_
     refine round_end (k + 1) ?_ ?_ ?_
     · exact ⟨rfl, rfl, rfl, show VI ((k : Int) + 1) = VI ((k + 1 : Nat) : Int) from congrArg VI (by omega), trivial⟩
     · refine ⟨?_, ?_⟩
       · try dsimp only
         exact ⟨by omega, fun b p q hb hp hq => by
               by_cases hbk : b < k
               · exact hin b p q hbk hp hq
               · have e : b = k := by omega
                 rw [e, ho12] at hq
                 rw [ho7] at hp
                 cases hp
                 cases hq
                 exact fun hx => of_decide_eq_false (decide_eq_false hc13) hx.1⟩
       · exact H
     · show u.len - (k + 1 : Nat) < u.len - k; omega
   ·
    repeat refine c_seq ?_
    refine c_no (by exact congrArg Value.bool (decide_eq_false hc2)) ?_
    refine c_exit ?_
    repeat refine c_seq ?_
    refine c_region ?_
    refine l_op (o_val (r_mv) ?_)
    refine l_op (o_val (r_bin (a := (i : Int)) (b := 1) rfl rfl (fun _ => b_add (by omega) (by omega))) ?_)
    refine l_op (o_val (r_as) ?_)
    first | refine l_end ?_ | refine l_nil ?_
    refine round_end (i + 1) ?_ ?_ ?_
    · exact ⟨rfl, rfl, show VI ((i : Int) + 1) = VI ((i + 1 : Nat) : Int) from congrArg VI (by omega), trivial⟩
    · refine ⟨?_, ?_⟩
      · try dsimp only
        exact ⟨by omega, fun j b p q hj hp hq => by
              by_cases hji : j < i
              · exact hall j b p q hji hp hq
              · have e : j = i := by omega
                rw [e] at hp
                have hbl : b < u.len := by have := (List.getElem?_eq_some_iff.1 hq).1; omega
                exact hin b p q (by omega) hp hq⟩
      · exact H
    · show g.len - (i + 1 : Nat) < g.len - i; omega
  ·
   repeat refine c_seq ?_
   refine c_no (by exact congrArg Value.bool (decide_eq_false hc1)) ?_
   refine c_exit ?_
   repeat refine c_seq ?_
   refine c_region ?_
   refine l_op (o_val (r_as) ?_)
   first | refine l_end ?_ | refine l_nil ?_
   refine c_ret ?_
   try dsimp only [Exit.then, Exit.inBlock]
   refine e_ret1 (v := .bool false) Try.results101 rfl ?_
   refine ⟨_, rfl, ?_⟩
   refine ⟨?_, (Hb1.keep1 (Hb2.keep1 H))⟩
   have e : collF (textF Z32a g.l) (textF Z32a u.l) = false := Bool.eq_false_iff.2 fun hx => by
     rw [← hos1, ← hos2] at hx
     obtain ⟨p', hp, q', hq, h2⟩ := (coll_iff _ _).1 hx
     obtain ⟨p, hp1, rfl⟩ := List.mem_map.1 hp
     obtain ⟨q, hq1, rfl⟩ := List.mem_map.1 hq
     obtain ⟨j, hj⟩ := List.getElem?_of_mem hp1
     obtain ⟨b, hb⟩ := List.getElem?_of_mem hq1
     exact hall j b p q (by have := (List.getElem?_eq_some_iff.1 hj).1; omega) hj hb h2
   rw [e]
end Go.Proofs.Ytjmbbhnpfmblpaa
namespace Go.Proofs.Ytjmbbhnpfmblpaa
open Go
set_option maxRecDepth 100000
/-- a twin: where it stands. -/
def Sl.at (t : Sl) : Prop := ∃ b, t.a = some ⟨b, 0, none⟩ ∧ t.l.length = t.len ∧ t.cap = t.len + 3 ∧ t.len ≤ 1048576
end Go.Proofs.Ytjmbbhnpfmblpaa
namespace Go.Proofs.Ytjmbbhnpfmblpaa
open Go
set_option maxRecDepth 100000
set_option maxHeartbeats 4000000 in
theorem auditTampered_ret (w0 : World) (g : Gl Ent) (n1 n2 n3 : Int) (e : Ent) (hg : g.ok entE 38 w0) (hbl : ∀ c ∈ g.l, c.bd) (he : e.of_.length = 32) (hbe : e.bd) :
    Ret Try.prog 27 [g.v, VI n1, VI n2, VI n3, .agg ([VI e.seq, VI e.tick, V64 e.serial, .string ⟨(e.tenant).toArray⟩, VI e.do_, VI e.status] ++ (e.of_).map V8).toArray] w0 fun v w' => v = .bool true ∧ Hp w0 w' [] [] := by
  refine ret_mk Try.func27 rfl Try.ntmps27 (by simp) ?_
  have H := Hp.refl w0 []
  have hgl := hg.ln
  have hge := hg.le
  have hgx := hg.mx
  have hmL : maxLen = 9223372036854775807 := rfl
  repeat refine c_seq ?_
  refine c_region ?_
  refine l_op (o_box (v := .agg ([VI e.seq, VI e.tick, V64 e.serial, .string ⟨(e.tenant).toArray⟩, VI e.do_, VI e.status] ++ (e.of_).map V8).toArray) H rfl (fun b1 w H hb1 => ?_))
  replace H : Hp _ w _ ([.blk b1 ([VI e.seq, VI e.tick, V64 e.serial, .string ⟨(e.tenant).toArray⟩, VI e.do_, VI e.status] ++ (e.of_).map V8) 95]) := H
  refine l_op (o_val (r_as) ?_)
  first | refine l_end ?_ | refine l_nil ?_
  repeat refine c_seq ?_
  refine c_region ?_
  refine l_op (o_callR Try.func83 rfl rfl rfl (begun20_ret _) ?_)
  rintro _ w ⟨rfl, Hc⟩
  replace H : Hp _ w _ ([_]) := H.call Hc
  clear Hc
  refine l_op (o_val (r_not rfl) ?_)
  first | refine l_end ?_ | refine l_nil ?_
  repeat refine c_seq ?_
  refine c_no rfl ?_
  refine c_skip ?_
  repeat refine c_seq ?_
  refine c_region ?_
  refine l_op (o_val (r_mv) ?_)
  refine l_op (o_callR Try.func84 rfl rfl rfl (light20_ret _ g (hg.up H) 30 (by omega)) ?_)
  rintro _ w ⟨rfl, Hc⟩
  replace H : Hp _ w _ ([_]) := H.call Hc
  clear Hc
  refine l_op (o_val (r_not rfl) ?_)
  refine l_op (o_val (r_mv) ?_)
  have hc20 := Bool.eq_false_or_eq_true (lightE g.l 30)
  rcases hc20 with hc2 | hc2
  ·
   refine l_yes rfl rfl (by exact congrArg Value.bool (congrArg not hc2)) (o_val (r_ldA (C := [VI e.seq, VI e.tick, V64 e.serial, .string ⟨(e.tenant).toArray⟩, VI e.do_, VI e.status] ++ (e.of_).map V8) H (i := 0) rfl rfl rt95 (by rw [List.length_append, List.length_map, (show (e.of_).length = 32 from he)]; rfl)) ?_)
   refine l_yes rfl rfl (by exact congrArg Value.bool (congrArg not hc2)) (o_bslG1 (enc := entE) (e) H sl97 zc95 (by rfl) (by decide) (by decide) rfl (ent_len (show (e.of_).length = 32 from he)) (fun b3 w H hb3 => ?_))
   replace H : Hp _ w _ ([_, .own (some b3) 1 1 (([e]).flatMap entE) 95 38]) := H
   refine l_yes rfl rfl (by exact congrArg Value.bool (congrArg not hc2)) (o_callR Try.func84 rfl rfl rfl (light20_ret _ ⟨hd (some b3), 1, 1, [e]⟩ (H.glOwn (i := 1) rfl (by decide) (fun c hc => by rw [List.mem_singleton.1 hc]; exact (ent_len (show (e.of_).length = 32 from he)))) 1 (by omega)) ?_)
   rintro _ w ⟨rfl, Hc⟩
   replace H : Hp _ w _ ([_, _]) := H.call Hc
   clear Hc
   refine l_yes rfl rfl (by exact congrArg Value.bool (congrArg not hc2)) (o_val (r_not rfl) ?_)
   refine l_op (o_val (r_pick (b := false) (congrArg Value.bool (congrArg not hc2))) ?_)
   first | refine l_end ?_ | refine l_nil ?_
   have hc40 := Bool.eq_false_or_eq_true (lightE ([e]) 1)
   rcases hc40 with hc4 | hc4
   ·
    repeat refine c_seq ?_
    refine c_no (by exact congrArg Value.bool (congrArg not hc4)) ?_
    refine c_skip ?_
    have hlt := ((lightE_iff _ _).1 hc2).1
    repeat refine c_seq ?_
    refine c_region ?_
    refine l_op (o_val (r_mv) ?_)
    refine l_op (o_callR Try.func93 rfl rfl rfl (numbered_ret _ g (hg.up H) (show g.len ≤ 65536 by omega)) ?_)
    rintro _ w ⟨a5, c6, rfl, Hc⟩
    replace H : Hp _ w _ ([_, _, .own a5 g.len c6 ((numF 0 g.l).flatMap entE) 95 38]) := H.call Hc
    clear Hc
    refine l_op (o_val (r_as) ?_)
    first | refine l_end ?_ | refine l_nil ?_
    have hNb : ∀ c ∈ numF 0 g.l, c.bd := numF_bd _ (by omega) hbl
    have hNs : ∀ c ∈ numF 0 g.l, (entE c).length = 38 := numF_of _ (by omega) hg.sz
    have hNl : (numF 0 g.l).length = g.len := by rw [numF_len]; omega
    repeat refine c_seq ?_
    refine c_region ?_
    refine l_op (o_val (r_mv) ?_)
    refine l_op (o_callR Try.func94 rfl rfl rfl (aHead_ret _ ⟨hd a5, g.len, c6, numF 0 g.l⟩ (H.glOwn (i := 2) rfl (by decide) (numF_of _ (by omega) hg.sz)) (numF_bd _ (by omega) hbl) (by (try dsimp only); omega)) ?_)
    rintro _ w ⟨rfl, Hc⟩
    replace H : Hp _ w _ ([_, _, _]) := H.call Hc
    clear Hc
    refine l_op (o_val (r_mv) ?_)
    refine l_op (o_val (r_ext rfl rfl) ?_)
    refine l_op (o_val (r_ext rfl rfl) ?_)
    refine l_op (o_alloc H zc31 (fun b7 w H hb7 => ?_))
    replace H : Hp _ w _ ([_, _, _, .blk b7 ((List.replicate 32 (0 : UInt8)).map V8) 31]) := H
    refine l_op (o_stA (l' := headV (numF 0 g.l)) H (i := 3) rfl rfl rfl cs31 (show (List.replicate 32 (0 : UInt8)).length = 32 from (List.length_replicate ..)) (show (headV (numF 0 g.l)).length = 32 from (headV_len _)) (fun w H => ?_))
    replace H : Hp _ w _ ([_, _, _, .blk b7 ((headV (numF 0 g.l)).map V8) 31]) := H
    refine l_op (o_val (r_as) ?_)
    first | refine l_end ?_ | refine l_nil ?_
    repeat refine c_seq ?_
    refine c_region ?_
    refine l_op (o_val (r_mv) ?_)
    refine l_op (o_val (r_bin (a := ((headC (numF 0 g.l) : Nat) : Int)) (b := 0) rfl rfl (fun _ => b_neq)) ?_)
    refine l_op (o_val (r_mv) ?_)
    by_cases hc8 : ((headC (numF 0 g.l) : Nat) : Int) ≠ 0
    ·
     refine l_no rfl rfl (by exact congrArg Value.bool (decide_eq_true hc8)) rfl ?_
     refine l_no rfl rfl (by exact congrArg Value.bool (decide_eq_true hc8)) rfl ?_
     refine l_no rfl rfl (by exact congrArg Value.bool (decide_eq_true hc8)) rfl ?_
     refine l_op (o_val (r_pick (b := true) (congrArg Value.bool (decide_eq_true hc8))) ?_)
     first | refine l_end ?_ | refine l_nil ?_
     repeat refine c_seq ?_
     refine c_yes rfl ?_
     repeat refine c_seq ?_
     refine c_region ?_
     refine l_op (o_val (r_as) ?_)
     first | refine l_end ?_ | refine l_nil ?_
     refine c_ret ?_
     try dsimp only [Exit.then, Exit.inBlock]
     refine e_ret1 (v := .bool true) Try.results27 rfl ?_
     refine ⟨_, rfl, ?_⟩
     exact ⟨rfl, H.sub (List.nil_sublist _)⟩
    ·
     refine l_yes rfl rfl (by exact congrArg Value.bool (decide_eq_false hc8)) (o_val (r_mv) ?_)
     refine l_yes rfl rfl (by exact congrArg Value.bool (decide_eq_false hc8)) (o_val (r_lens el97 rfl) ?_)
     refine l_yes rfl rfl (by exact congrArg Value.bool (decide_eq_false hc8)) (o_val (r_bin (a := (g.len : Int)) (b := 0) rfl rfl (fun _ => b_eql)) ?_)
     refine l_op (o_val (r_pick (b := false) (congrArg Value.bool (decide_eq_false hc8))) ?_)
     first | refine l_end ?_ | refine l_nil ?_
     by_cases hc9 : (g.len : Int) = 0
     ·
      repeat refine c_seq ?_
      refine c_yes (by exact congrArg Value.bool (decide_eq_true hc9)) ?_
      repeat refine c_seq ?_
      refine c_region ?_
      refine l_op (o_val (r_as) ?_)
      first | refine l_end ?_ | refine l_nil ?_
      refine c_ret ?_
      try dsimp only [Exit.then, Exit.inBlock]
      refine e_ret1 (v := .bool true) Try.results27 rfl ?_
      refine ⟨_, rfl, ?_⟩
      exact ⟨rfl, H.sub (List.nil_sublist _)⟩
     ·
      repeat refine c_seq ?_
      refine c_no (by exact congrArg Value.bool (decide_eq_false hc9)) ?_
      refine c_skip ?_
      have hN0 : headC (numF 0 g.l) = 0 := by omega
      have hlen1 : 1 ≤ g.len := by omega
      repeat refine c_seq ?_
      refine c_region ?_
      refine l_op (o_bslG0 (α := Ent) (enc := entE) H sl97 zc95 (by decide) (fun b10 w H hb10 => ?_))
      replace H : Hp _ w _ ([_, _, _, _, .own (some b10) 0 0 ((([] : List Ent)).flatMap entE) 95 38]) := H
      refine l_op (o_val (r_mv) ?_)
      refine l_op (o_appG (enc := entE) (s := ⟨hd a5, g.len, c6, numF 0 g.l⟩) (l' := numF 0 g.l) (len' := g.len) rfl (Nat.zero_add _) H (i := 4) rfl sl97 Try.underlying97 rfl rfl (H.glOwn (i := 2) rfl (by decide) (numF_of _ (by omega) hg.sz)) (by decide) (fun c _ => ent_all c) (by omega) (by decide) (fun a11 c12 w H => ?_))
      replace H : Hp _ w _ ([_, _, _, _, .own a11 g.len c12 ((numF 0 g.l).flatMap entE) 95 38]) := H
      refine l_op (o_val (r_as) ?_)
      first | refine l_end ?_ | refine l_nil ?_
      repeat refine c_seq ?_
      refine c_region ?_
      refine l_op (o_val (r_mv) ?_)
      refine l_op (o_val (r_mv) ?_)
      refine l_op (o_val (r_lens el97 rfl) ?_)
      refine l_op (o_callR Try.func44 rfl rfl rfl (place_ret _ n2 (g.len : Int) (by omega) (by omega)) ?_)
      rintro _ w' ⟨m13, rfl, hm14, hw15⟩
      rw [hw15]; clear hw15 w'
      refine l_op (o_val (r_mv) ?_)
      refine l_op (o_val (r_mv) ?_)
      refine l_op (o_val (r_lens el97 rfl) ?_)
      refine l_op (o_callR Try.func44 rfl rfl rfl (place_ret _ n3 (g.len : Int) (by omega) (by omega)) ?_)
      rintro _ w' ⟨m16, rfl, hm17, hw18⟩
      rw [hw18]; clear hw18 w'
      refine l_op (o_val (r_as) ?_)
      refine l_op (o_val (r_as) ?_)
      first | refine l_end ?_ | refine l_nil ?_
      repeat refine c_seq ?_
      refine c_region ?_
      refine l_op (o_val (r_mv) ?_)
      refine l_op (o_callR Try.func44 rfl rfl rfl (place_ret _ n1 4 (by omega) (by omega)) ?_)
      rintro _ w' ⟨m19, rfl, hm20, hw21⟩
      rw [hw21]; clear hw21 w'
      first | refine l_end ?_ | refine l_nil ?_
      repeat refine c_seq ?_
      refine c_block ?_
      repeat refine c_seq ?_
      refine c_region ?_
      refine l_op (o_val (r_bin (a := (m19 : Int)) (b := 0) rfl rfl (fun _ => b_eql)) ?_)
      refine l_op (o_val (r_as) ?_)
      first | refine l_end ?_ | refine l_nil ?_
      by_cases hc22 : (m19 : Int) = 0
      ·
       repeat refine c_seq ?_
       refine c_yes (by exact congrArg Value.bool (decide_eq_true hc22)) ?_
       repeat refine c_seq ?_
       refine c_region ?_
       refine l_op (o_val (r_mv) ?_)
       refine l_op (o_val (r_mv) ?_)
       refine l_op (o_val (r_ldA (C := [VI e.seq, VI e.tick, V64 e.serial, .string ⟨(e.tenant).toArray⟩, VI e.do_, VI e.status] ++ (e.of_).map V8) H (i := 0) rfl rfl rt95 (by rw [List.length_append, List.length_map, (show (e.of_).length = 32 from he)]; rfl)) ?_)
       have ah24 := H.ownAddr (i := 4) rfl (by omega)
       obtain ⟨ab23, ah24⟩ := ah24
       refine l_op (o_val (r_isN m13 rfl rfl el97 ah24 (by omega) (by (try simp only [Sl.cut]); omega)) ?_)
       have hg25 := ((H.glOwn (i := 4) rfl (by decide) hNs)).ln
       refine l_op (o_stG (enc := entE) (c := e) (k := m13) H (i := 4) rfl hNs rfl ah24 rfl cs95 (ent_len (show (e.of_).length = 32 from he)) (ent_all _) (by dsimp only at hg25; omega) (fun w H => ?_))
       replace H : Hp _ w _ ([_, _, _, _, .own a11 g.len c12 (((numF 0 g.l).set m13 e).flatMap entE) 95 38]) := H
       first | refine l_end ?_ | refine l_nil ?_
       have hMb : ∀ c ∈ (numF 0 g.l).set m13 e, c.bd := (all_set (p := Ent.bd) hNb hbe)
       have hMs : ∀ c ∈ (numF 0 g.l).set m13 e, (entE c).length = 38 := ((H.glOwn (i := 4) rfl (by decide) (all_set hNs (ent_len (show (e.of_).length = 32 from he))))).sz
       have hMl : ((numF 0 g.l).set m13 e).length = g.len := ((H.glOwn (i := 4) rfl (by decide) (all_set hNs (ent_len (show (e.of_).length = 32 from he))))).ln
       repeat refine c_seq ?_
       refine c_region ?_
       refine l_op (o_val (r_mv) ?_)
       refine l_op (o_callR Try.func93 rfl rfl rfl (numbered_ret _ ⟨hd a11, g.len, c12, (numF 0 g.l).set m13 e⟩ (H.glOwn (i := 4) rfl (by decide) (all_set hNs (ent_len (show (e.of_).length = 32 from he)))) (show g.len ≤ 65536 by omega)) ?_)
       rintro _ w ⟨a26, c27, rfl, Hc⟩
       replace H : Hp _ w _ ([_, _, _, _, _, .own a26 g.len c27 ((numF 0 ((numF 0 g.l).set m13 e)).flatMap entE) 95 38]) := H.call Hc
       clear Hc
       refine l_op (o_val (r_as) ?_)
       first | refine l_end ?_ | refine l_nil ?_
       repeat refine c_seq ?_
       refine c_region ?_
       refine l_op (o_val (r_mv) ?_)
       refine l_op (o_callR Try.func94 rfl rfl rfl (aHead_ret _ ⟨hd a26, g.len, c27, numF 0 ((numF 0 g.l).set m13 e)⟩ (H.glOwn (i := 5) rfl (by decide) (numF_of _ (by omega) hMs)) (numF_bd _ (by omega) hMb) (by (try dsimp only); omega)) ?_)
       rintro _ w ⟨rfl, Hc⟩
       replace H : Hp _ w _ ([_, _, _, _, _, _]) := H.call Hc
       clear Hc
       refine l_op (o_val (r_mv) ?_)
       refine l_op (o_val (r_ext rfl rfl) ?_)
       refine l_op (o_val (r_ext rfl rfl) ?_)
       refine l_op (o_alloc H zc31 (fun b28 w H hb28 => ?_))
       replace H : Hp _ w _ ([_, _, _, _, _, _, .blk b28 ((List.replicate 32 (0 : UInt8)).map V8) 31]) := H
       refine l_op (o_stA (l' := headV (numF 0 ((numF 0 g.l).set m13 e))) H (i := 6) rfl rfl rfl cs31 (show (List.replicate 32 (0 : UInt8)).length = 32 from (List.length_replicate ..)) (show (headV (numF 0 ((numF 0 g.l).set m13 e))).length = 32 from (headV_len _)) (fun w H => ?_))
       replace H : Hp _ w _ ([_, _, _, _, _, _, .blk b28 ((headV (numF 0 ((numF 0 g.l).set m13 e))).map V8) 31]) := H
       refine l_op (o_val (r_as) ?_)
       first | refine l_end ?_ | refine l_nil ?_
       repeat refine c_seq ?_
       refine c_region ?_
       refine l_op (o_val (r_mv) ?_)
       refine l_op (o_val (r_bin (a := ((headC (numF 0 ((numF 0 g.l).set m13 e)) : Nat) : Int)) (b := 0) rfl rfl (fun _ => b_neq)) ?_)
       first | refine l_end ?_ | refine l_nil ?_
       by_cases hc29 : ((headC (numF 0 ((numF 0 g.l).set m13 e)) : Nat) : Int) ≠ 0
       ·
        repeat refine c_seq ?_
        refine c_yes (by exact congrArg Value.bool (decide_eq_true hc29)) ?_
        repeat refine c_seq ?_
        refine c_region ?_
        refine l_op (o_val (r_as) ?_)
        first | refine l_end ?_ | refine l_nil ?_
        refine c_ret ?_
        try dsimp only [Exit.then, Exit.inBlock]
        refine e_ret1 (v := .bool true) Try.results27 rfl ?_
        refine ⟨_, rfl, ?_⟩
        exact ⟨rfl, H.sub (List.nil_sublist _)⟩
       ·
        repeat refine c_seq ?_
        refine c_no (by exact congrArg Value.bool (decide_eq_false hc29)) ?_
        refine c_skip ?_
        have hM0 : headC (numF 0 ((numF 0 g.l).set m13 e)) = 0 := by omega
        have hNg : ∀ c ∈ numF 0 g.l, c.good := fun c hc => ⟨List.all_eq_true.1 ((headC_iff _).1 hN0).1 c hc, hNb c hc, ent_of (hNs c hc)⟩
        have hPb : ∀ c ∈ numF 0 ((numF 0 g.l).set m13 e), c.bd := numF_bd _ (by omega) hMb
        have hPs : ∀ c ∈ numF 0 ((numF 0 g.l).set m13 e), (entE c).length = 38 := numF_of _ (by omega) hMs
        have hPg : ∀ c ∈ numF 0 ((numF 0 g.l).set m13 e), c.good := fun c hc => ⟨List.all_eq_true.1 ((headC_iff _).1 hM0).1 c hc, hPb c hc, ent_of (hPs c hc)⟩
        have hvN : headV (numF 0 g.l) = headF (numF 0 g.l) := by rw [headV, if_pos hN0]
        have hvM : headV (numF 0 ((numF 0 g.l).set m13 e)) = headF (numF 0 ((numF 0 g.l).set m13 e)) := by rw [headV, if_pos hM0]
        repeat refine c_seq ?_
        refine c_region ?_
        refine l_op (o_val (r_mv) ?_)
        refine l_op (o_val (r_mv) ?_)
        refine l_op (o_callR Try.func100 rfl rfl rfl (same_ret _ ⟨hd a5, g.len, c6, numF 0 g.l⟩ ⟨hd a26, g.len, c27, numF 0 ((numF 0 g.l).set m13 e)⟩ (H.glOwn (i := 2) rfl (by decide) (numF_of _ (by omega) hg.sz)) (H.glOwn (i := 5) rfl (by decide) (numF_of _ (by omega) hMs))) ?_)
        rintro _ w ⟨rfl, Hc⟩
        replace H : Hp _ w _ ([_, _, _, _, _, _, _]) := H.call Hc
        clear Hc
        first | refine l_end ?_ | refine l_nil ?_
        by_cases hc30 : numF 0 g.l = numF 0 ((numF 0 g.l).set m13 e)
        ·
         repeat refine c_seq ?_
         refine c_yes (by exact congrArg Value.bool (decide_eq_true hc30)) ?_
         repeat refine c_seq ?_
         refine c_region ?_
         refine l_op (o_val (r_ldAA (l := headV (numF 0 g.l)) H (i := 3) rfl rfl rt31 (show (headV (numF 0 g.l)).length = 32 from (headV_len _))) ?_)
         refine l_op (o_val (r_ldAA (l := headV (numF 0 ((numF 0 g.l).set m13 e))) H (i := 6) rfl rfl rt31 (show (headV (numF 0 ((numF 0 g.l).set m13 e))).length = 32 from (headV_len _))) ?_)
         refine l_op (o_val (r_eqa (a := headV (numF 0 g.l)) (b := headV (numF 0 ((numF 0 g.l).set m13 e))) Try.underlying31 Try.underlying5 cs5 rfl rfl (show (headV (numF 0 g.l)).length = 32 from (headV_len _)) (show (headV (numF 0 ((numF 0 g.l).set m13 e))).length = 32 from (headV_len _))) ?_)
         have hk31 : (decide (headV (numF 0 g.l) = headV (numF 0 ((numF 0 g.l).set m13 e)))) = true := (decide_eq_true (by rw [← of_decide_eq_true (decide_eq_true hc30)]))
         refine l_op (o_val (r_as) ?_)
         first | refine l_end ?_ | refine l_nil ?_
         refine c_ret ?_
         try dsimp only [Exit.then, Exit.inBlock]
         refine e_ret1 (v := .bool (decide (headV (numF 0 g.l) = headV (numF 0 ((numF 0 g.l).set m13 e))))) Try.results27 rfl ?_
         refine ⟨_, rfl, ?_⟩
         exact ⟨congrArg Value.bool hk31, H.sub (List.nil_sublist _)⟩
        ·
         repeat refine c_seq ?_
         refine c_no (by exact congrArg Value.bool (decide_eq_false hc30)) ?_
         refine c_skip ?_
         repeat refine c_seq ?_
         refine c_region ?_
         refine l_op (o_val (r_ldAA (l := headV (numF 0 g.l)) H (i := 3) rfl rfl rt31 (show (headV (numF 0 g.l)).length = 32 from (headV_len _))) ?_)
         refine l_op (o_val (r_ldAA (l := headV (numF 0 ((numF 0 g.l).set m13 e))) H (i := 6) rfl rfl rt31 (show (headV (numF 0 ((numF 0 g.l).set m13 e))).length = 32 from (headV_len _))) ?_)
         refine l_op (o_val (r_nea (a := headV (numF 0 g.l)) (b := headV (numF 0 ((numF 0 g.l).set m13 e))) Try.underlying31 Try.underlying5 cs5 rfl rfl (show (headV (numF 0 g.l)).length = 32 from (headV_len _)) (show (headV (numF 0 ((numF 0 g.l).set m13 e))).length = 32 from (headV_len _))) ?_)
         refine l_op (o_val (r_mv) ?_)
         by_cases hc32 : headV (numF 0 g.l) = headV (numF 0 ((numF 0 g.l).set m13 e))
         ·
          refine l_yes rfl rfl (by exact congrArg Value.bool (congrArg not (decide_eq_true hc32))) (o_val (r_mv) ?_)
          refine l_yes rfl rfl (by exact congrArg Value.bool (congrArg not (decide_eq_true hc32))) (o_val (r_mv) ?_)
          refine l_yes rfl rfl (by exact congrArg Value.bool (congrArg not (decide_eq_true hc32))) (o_callR Try.func101 rfl rfl rfl (collides_ret _ ⟨hd a5, g.len, c6, numF 0 g.l⟩ ⟨hd a26, g.len, c27, numF 0 ((numF 0 g.l).set m13 e)⟩ (H.glOwn (i := 2) rfl (by decide) (numF_of _ (by omega) hg.sz)) (H.glOwn (i := 5) rfl (by decide) (numF_of _ (by omega) hMs)) hNg hPg (by (try dsimp only); omega) (by (try dsimp only); omega)) ?_)
          rintro _ w ⟨rfl, Hc⟩
          replace H : Hp _ w _ ([_, _, _, _, _, _, _]) := H.call Hc
          clear Hc
          refine l_op (o_val (r_pick (b := false) (congrArg Value.bool (congrArg not (decide_eq_true hc32)))) ?_)
          refine l_op (o_val (r_mv) ?_)
          have hc330 := Bool.eq_false_or_eq_true (collF (textF Z32a (numF 0 g.l)) (textF Z32a (numF 0 ((numF 0 g.l).set m13 e))))
          rcases hc330 with hc33 | hc33
          ·
           refine l_no rfl rfl (by exact congrArg Value.bool hc33) rfl ?_
           refine l_no rfl rfl (by exact congrArg Value.bool hc33) rfl ?_
           refine l_no rfl rfl (by exact congrArg Value.bool hc33) rfl ?_
           refine l_op (o_val (r_pick (b := true) (congrArg Value.bool hc33)) ?_)
           refine l_op (o_val (r_as) ?_)
           first | refine l_end ?_ | refine l_nil ?_
           refine c_ret ?_
           try dsimp only [Exit.then, Exit.inBlock]
           refine e_ret1 (v := .bool true) Try.results27 rfl ?_
           refine ⟨_, rfl, ?_⟩
           exact ⟨rfl, H.sub (List.nil_sublist _)⟩
          ·
           refine l_yes rfl rfl (by exact congrArg Value.bool hc33) (o_val (r_ldAA (l := headV (numF 0 g.l)) H (i := 3) rfl rfl rt31 (show (headV (numF 0 g.l)).length = 32 from (headV_len _))) ?_)
           refine l_yes rfl rfl (by exact congrArg Value.bool hc33) (o_val (r_bld' (pv := []) bd31 rfl rfl) ?_)
           refine l_yes rfl rfl (by exact congrArg Value.bool hc33) (o_val (r_eqa (a := headV (numF 0 g.l)) (b := List.replicate 32 (0 : UInt8)) Try.underlying31 Try.underlying5 cs5 rfl rfl (show (headV (numF 0 g.l)).length = 32 from (headV_len _)) (show (List.replicate 32 (0 : UInt8)).length = 32 from (List.length_replicate ..))) ?_)
           have hk34 : (decide (headV (numF 0 g.l) = List.replicate 32 (0 : UInt8))) = true := (decide_eq_true (Classical.byContradiction fun hz => by
                 have hcc := tamper _ _ hNg hPg (numF_numb 0 _) (numF_numb 0 _) (by rw [← hvN, ← hvM]; exact of_decide_eq_true (decide_eq_true hc32)) (by rw [← hvN]; exact hz) (of_decide_eq_false (decide_eq_false hc30))
                 rw [hcc] at hc33
                 cases hc33))
           refine l_op (o_val (r_pick (b := false) (congrArg Value.bool hc33)) ?_)
           refine l_op (o_val (r_as) ?_)
           first | refine l_end ?_ | refine l_nil ?_
           refine c_ret ?_
           try dsimp only [Exit.then, Exit.inBlock]
           refine e_ret1 (v := .bool (decide (headV (numF 0 g.l) = List.replicate 32 (0 : UInt8)))) Try.results27 rfl ?_
           refine ⟨_, rfl, ?_⟩
           exact ⟨congrArg Value.bool hk34, H.sub (List.nil_sublist _)⟩
         ·
          refine l_no rfl rfl (by exact congrArg Value.bool (congrArg not (decide_eq_false hc32))) rfl ?_
          refine l_no rfl rfl (by exact congrArg Value.bool (congrArg not (decide_eq_false hc32))) rfl ?_
          refine l_no rfl rfl (by exact congrArg Value.bool (congrArg not (decide_eq_false hc32))) rfl ?_
          refine l_op (o_val (r_pick (b := true) (congrArg Value.bool (congrArg not (decide_eq_false hc32)))) ?_)
          refine l_op (o_val (r_mv) ?_)
          refine l_no rfl rfl rfl rfl ?_
          refine l_no rfl rfl rfl rfl ?_
          refine l_no rfl rfl rfl rfl ?_
          refine l_op (o_val (r_pick rfl) ?_)
          refine l_op (o_val (r_as) ?_)
          first | refine l_end ?_ | refine l_nil ?_
          refine c_ret ?_
          try dsimp only [Exit.then, Exit.inBlock]
          refine e_ret1 (v := .bool true) Try.results27 rfl ?_
          refine ⟨_, rfl, ?_⟩
          exact ⟨rfl, H.sub (List.nil_sublist _)⟩
      ·
       repeat refine c_seq ?_
       refine c_no (by exact congrArg Value.bool (decide_eq_false hc22)) ?_
       repeat refine c_seq ?_
       refine c_region ?_
       refine l_op (o_val (r_bin (a := (m19 : Int)) (b := 1) rfl rfl (fun _ => b_eql)) ?_)
       refine l_op (o_val (r_as) ?_)
       first | refine l_end ?_ | refine l_nil ?_
       by_cases hc35 : (m19 : Int) = 1
       ·
        repeat refine c_seq ?_
        refine c_yes (by exact congrArg Value.bool (decide_eq_true hc35)) ?_
        repeat refine c_seq ?_
        refine wp_held (fun w => Hp w0 w [] [.blk b1 ([VI e.seq, VI e.tick, V64 e.serial, .string ⟨(e.tenant).toArray⟩, VI e.do_, VI e.status] ++ (e.of_).map V8) 95, .own (some b3) 1 1 (([e]).flatMap entE) 95 38, .own a5 g.len c6 ((numF 0 g.l).flatMap entE) 95 38, .blk b7 ((headV (numF 0 g.l)).map V8) 31, .own a11 g.len c12 ((numF 0 g.l).flatMap entE) 95 38]) mixed ?_
        replace H := H.drew
        have HS := H
        refine t_take 1 rfl (by kernel_rfl) (by kernel_rfl) (by kernel_rfl) (fun _ _ _ h => h) (fun w HS => r_mv) HS ?_
        refine t_take 2 rfl (by kernel_rfl) (by kernel_rfl) (by kernel_rfl) (fun _ _ _ h => h) (fun w HS => r_mv) HS ?_
        have hol36 := (HS.ownLen (i := 2) rfl).2.1
        refine t_take 3 rfl (by kernel_rfl) (by kernel_rfl) (by kernel_rfl) (fun _ _ _ h => h) (fun w HS => r_slG (s := ⟨hd a5, g.len, c6, numF 0 g.l⟩) 0 m13 c6 (lv := none) (hv := some (VI (m13 : Int))) (mv := none) rfl el97 rfl rfl rfl (fun w => by exact sbh m13 (by omega) (by (try simp only []); omega) w)) HS ?_
        refine t_take 5 rfl (by kernel_rfl) (by kernel_rfl) (by kernel_rfl) (fun _ _ _ h => h) (fun w HS => r_mv) HS ?_
        refine t_take 6 rfl (by kernel_rfl) (by kernel_rfl) (by kernel_rfl) (fun _ _ _ h => h) (fun w HS => r_mv) HS ?_
        refine t_take 7 rfl (by kernel_rfl) (by kernel_rfl) (by kernel_rfl) (fun _ _ _ h => h) (fun w HS => r_bin (a := (m13 : Int)) (b := 1) rfl rfl (fun _ => b_add (by omega) (by omega))) HS ?_
        refine t_take 8 rfl (by kernel_rfl) (by kernel_rfl) (by kernel_rfl) (fun _ _ _ h => h) (fun w HS => r_slG (s := ⟨hd a5, g.len, c6, numF 0 g.l⟩) (m13 + 1) g.len c6 (lv := some (VI ((m13 : Int) + 1))) (hv := none) (mv := none) rfl el97 rfl rfl rfl (fun w => by exact sbl (m13 + 1) (by omega) (by (try simp only []); omega) w)) HS ?_
        refine t_step 0 rfl (by kernel_rfl) (o_bslG0 (α := Ent) (enc := entE) H sl97 zc95 (by decide) (fun b37 w H hb37 => ?_))
        replace H : Hp _ w _ ([_, _, _, _, _, .own (some b37) 0 0 ((([] : List Ent)).flatMap entE) 95 38]) := H
        refine ⟨H.sub (.cons_cons _ (.cons_cons _ (.cons_cons _ (.cons_cons _ (.cons_cons _ (List.nil_sublist _)))))), ?_⟩
        replace HS := H.sub (.cons_cons _ (.cons_cons _ (.cons_cons _ (.cons_cons _ (.cons_cons _ (List.nil_sublist _))))))
        refine t_step 4 rfl (by kernel_rfl) (o_appG (enc := entE) (s := (Gl.cut ⟨hd a5, g.len, c6, numF 0 g.l⟩ 38 0 m13 c6)) (l' := ((numF 0 g.l).drop 0).take (m13)) (len' := m13) rfl (Nat.zero_add _) H (i := 5) rfl sl97 Try.underlying97 rfl rfl ((H.glOwn (i := 2) rfl (by decide) (numF_of _ (by omega) hg.sz)).cut (l := 0) (h := m13) (m := c6) (by omega) (by (try simp only []); omega) (by omega) (by (try simp only []); omega)) (by decide) (fun c _ => ent_all c) (by omega) (by decide) (fun a38 c39 w H => ?_))
        replace H : Hp _ w _ ([_, _, _, _, _, .own a38 m13 c39 ((((numF 0 g.l).drop 0).take (m13)).flatMap entE) 95 38]) := H
        refine ⟨H.sub (.cons_cons _ (.cons_cons _ (.cons_cons _ (.cons_cons _ (.cons_cons _ (List.nil_sublist _)))))), ?_⟩
        replace HS := H.sub (.cons_cons _ (.cons_cons _ (.cons_cons _ (.cons_cons _ (.cons_cons _ (List.nil_sublist _))))))
        refine t_step 9 rfl (by kernel_rfl) (o_appG (enc := entE) (s := (Gl.cut ⟨hd a5, g.len, c6, numF 0 g.l⟩ 38 (m13 + 1) g.len c6)) (l' := ((numF 0 g.l).drop 0).take (m13) ++ (((numF 0 g.l).drop (m13 + 1)).take (g.len - (m13 + 1)))) (len' := m13 + (g.len - (m13 + 1))) rfl rfl H (i := 5) rfl sl97 Try.underlying97 rfl rfl ((H.glOwn (i := 2) rfl (by decide) (numF_of _ (by omega) hg.sz)).cut (l := m13 + 1) (h := g.len) (m := c6) (by omega) (by (try simp only []); omega) (by omega) (by (try simp only []); omega)) (by decide) (fun c _ => ent_all c) (by omega) (by decide) (fun a40 c41 w H => ?_))
        replace H : Hp _ w _ ([_, _, _, _, _, .own a40 (m13 + (g.len - (m13 + 1))) c41 ((((numF 0 g.l).drop 0).take (m13) ++ (((numF 0 g.l).drop (m13 + 1)).take (g.len - (m13 + 1)))).flatMap entE) 95 38]) := H
        refine ⟨H.sub (.cons_cons _ (.cons_cons _ (.cons_cons _ (.cons_cons _ (.cons_cons _ (List.nil_sublist _)))))), ?_⟩
        replace HS := H.sub (.cons_cons _ (.cons_cons _ (.cons_cons _ (.cons_cons _ (.cons_cons _ (List.nil_sublist _))))))
        refine t_take 10 rfl (by kernel_rfl) (by kernel_rfl) (by kernel_rfl) (fun _ _ _ h => h) (fun w HS => r_as) HS ?_
        refine t_done (by kernel_rfl) ?_
        clear HS
        have hMb : ∀ c ∈ ((numF 0 g.l).drop 0).take (m13) ++ (((numF 0 g.l).drop (m13 + 1)).take (g.len - (m13 + 1))), c.bd := (all_app (p := Ent.bd) (all_cut hNb) (all_cut hNb))
        have hMs : ∀ c ∈ ((numF 0 g.l).drop 0).take (m13) ++ (((numF 0 g.l).drop (m13 + 1)).take (g.len - (m13 + 1))), (entE c).length = 38 := ((H.glOwn (i := 5) rfl (by decide) (all_app (all_cut hNs) (all_cut hNs)))).sz
        have hMl : (((numF 0 g.l).drop 0).take (m13) ++ (((numF 0 g.l).drop (m13 + 1)).take (g.len - (m13 + 1)))).length = m13 + (g.len - (m13 + 1)) := ((H.glOwn (i := 5) rfl (by decide) (all_app (all_cut hNs) (all_cut hNs)))).ln
        repeat refine c_seq ?_
        refine c_region ?_
        refine l_op (o_val (r_mv) ?_)
        refine l_op (o_callR Try.func93 rfl rfl rfl (numbered_ret _ ⟨hd a40, m13 + (g.len - (m13 + 1)), c41, ((numF 0 g.l).drop 0).take (m13) ++ (((numF 0 g.l).drop (m13 + 1)).take (g.len - (m13 + 1)))⟩ (H.glOwn (i := 5) rfl (by decide) (all_app (all_cut hNs) (all_cut hNs))) (show m13 + (g.len - (m13 + 1)) ≤ 65536 by omega)) ?_)
        rintro _ w ⟨a42, c43, rfl, Hc⟩
        replace H : Hp _ w _ ([_, _, _, _, _, _, .own a42 (m13 + (g.len - (m13 + 1))) c43 ((numF 0 (((numF 0 g.l).drop 0).take (m13) ++ (((numF 0 g.l).drop (m13 + 1)).take (g.len - (m13 + 1))))).flatMap entE) 95 38]) := H.call Hc
        clear Hc
        refine l_op (o_val (r_as) ?_)
        first | refine l_end ?_ | refine l_nil ?_
        repeat refine c_seq ?_
        refine c_region ?_
        refine l_op (o_val (r_mv) ?_)
        refine l_op (o_callR Try.func94 rfl rfl rfl (aHead_ret _ ⟨hd a42, m13 + (g.len - (m13 + 1)), c43, numF 0 (((numF 0 g.l).drop 0).take (m13) ++ (((numF 0 g.l).drop (m13 + 1)).take (g.len - (m13 + 1))))⟩ (H.glOwn (i := 6) rfl (by decide) (numF_of _ (by omega) hMs)) (numF_bd _ (by omega) hMb) (by (try dsimp only); omega)) ?_)
        rintro _ w ⟨rfl, Hc⟩
        replace H : Hp _ w _ ([_, _, _, _, _, _, _]) := H.call Hc
        clear Hc
        refine l_op (o_val (r_mv) ?_)
        refine l_op (o_val (r_ext rfl rfl) ?_)
        refine l_op (o_val (r_ext rfl rfl) ?_)
        refine l_op (o_alloc H zc31 (fun b44 w H hb44 => ?_))
        replace H : Hp _ w _ ([_, _, _, _, _, _, _, .blk b44 ((List.replicate 32 (0 : UInt8)).map V8) 31]) := H
        refine l_op (o_stA (l' := headV (numF 0 (((numF 0 g.l).drop 0).take (m13) ++ (((numF 0 g.l).drop (m13 + 1)).take (g.len - (m13 + 1)))))) H (i := 7) rfl rfl rfl cs31 (show (List.replicate 32 (0 : UInt8)).length = 32 from (List.length_replicate ..)) (show (headV (numF 0 (((numF 0 g.l).drop 0).take (m13) ++ (((numF 0 g.l).drop (m13 + 1)).take (g.len - (m13 + 1)))))).length = 32 from (headV_len _)) (fun w H => ?_))
        replace H : Hp _ w _ ([_, _, _, _, _, _, _, .blk b44 ((headV (numF 0 (((numF 0 g.l).drop 0).take (m13) ++ (((numF 0 g.l).drop (m13 + 1)).take (g.len - (m13 + 1)))))).map V8) 31]) := H
        refine l_op (o_val (r_as) ?_)
        first | refine l_end ?_ | refine l_nil ?_
        repeat refine c_seq ?_
        refine c_region ?_
        refine l_op (o_val (r_mv) ?_)
        refine l_op (o_val (r_bin (a := ((headC (numF 0 (((numF 0 g.l).drop 0).take (m13) ++ (((numF 0 g.l).drop (m13 + 1)).take (g.len - (m13 + 1))))) : Nat) : Int)) (b := 0) rfl rfl (fun _ => b_neq)) ?_)
        first | refine l_end ?_ | refine l_nil ?_
        by_cases hc45 : ((headC (numF 0 (((numF 0 g.l).drop 0).take (m13) ++ (((numF 0 g.l).drop (m13 + 1)).take (g.len - (m13 + 1))))) : Nat) : Int) ≠ 0
        ·
         repeat refine c_seq ?_
         refine c_yes (by exact congrArg Value.bool (decide_eq_true hc45)) ?_
         repeat refine c_seq ?_
         refine c_region ?_
         refine l_op (o_val (r_as) ?_)
         first | refine l_end ?_ | refine l_nil ?_
         refine c_ret ?_
         try dsimp only [Exit.then, Exit.inBlock]
         refine e_ret1 (v := .bool true) Try.results27 rfl ?_
         refine ⟨_, rfl, ?_⟩
         exact ⟨rfl, H.sub (List.nil_sublist _)⟩
        ·
         repeat refine c_seq ?_
         refine c_no (by exact congrArg Value.bool (decide_eq_false hc45)) ?_
         refine c_skip ?_
         have hM0 : headC (numF 0 (((numF 0 g.l).drop 0).take (m13) ++ (((numF 0 g.l).drop (m13 + 1)).take (g.len - (m13 + 1))))) = 0 := by omega
         have hNg : ∀ c ∈ numF 0 g.l, c.good := fun c hc => ⟨List.all_eq_true.1 ((headC_iff _).1 hN0).1 c hc, hNb c hc, ent_of (hNs c hc)⟩
         have hPb : ∀ c ∈ numF 0 (((numF 0 g.l).drop 0).take (m13) ++ (((numF 0 g.l).drop (m13 + 1)).take (g.len - (m13 + 1)))), c.bd := numF_bd _ (by omega) hMb
         have hPs : ∀ c ∈ numF 0 (((numF 0 g.l).drop 0).take (m13) ++ (((numF 0 g.l).drop (m13 + 1)).take (g.len - (m13 + 1)))), (entE c).length = 38 := numF_of _ (by omega) hMs
         have hPg : ∀ c ∈ numF 0 (((numF 0 g.l).drop 0).take (m13) ++ (((numF 0 g.l).drop (m13 + 1)).take (g.len - (m13 + 1)))), c.good := fun c hc => ⟨List.all_eq_true.1 ((headC_iff _).1 hM0).1 c hc, hPb c hc, ent_of (hPs c hc)⟩
         have hvN : headV (numF 0 g.l) = headF (numF 0 g.l) := by rw [headV, if_pos hN0]
         have hvM : headV (numF 0 (((numF 0 g.l).drop 0).take (m13) ++ (((numF 0 g.l).drop (m13 + 1)).take (g.len - (m13 + 1))))) = headF (numF 0 (((numF 0 g.l).drop 0).take (m13) ++ (((numF 0 g.l).drop (m13 + 1)).take (g.len - (m13 + 1))))) := by rw [headV, if_pos hM0]
         repeat refine c_seq ?_
         refine c_region ?_
         refine l_op (o_val (r_mv) ?_)
         refine l_op (o_val (r_mv) ?_)
         refine l_op (o_callR Try.func100 rfl rfl rfl (same_ret _ ⟨hd a5, g.len, c6, numF 0 g.l⟩ ⟨hd a42, m13 + (g.len - (m13 + 1)), c43, numF 0 (((numF 0 g.l).drop 0).take (m13) ++ (((numF 0 g.l).drop (m13 + 1)).take (g.len - (m13 + 1))))⟩ (H.glOwn (i := 2) rfl (by decide) (numF_of _ (by omega) hg.sz)) (H.glOwn (i := 6) rfl (by decide) (numF_of _ (by omega) hMs))) ?_)
         rintro _ w ⟨rfl, Hc⟩
         replace H : Hp _ w _ ([_, _, _, _, _, _, _, _]) := H.call Hc
         clear Hc
         first | refine l_end ?_ | refine l_nil ?_
         by_cases hc46 : numF 0 g.l = numF 0 (((numF 0 g.l).drop 0).take (m13) ++ (((numF 0 g.l).drop (m13 + 1)).take (g.len - (m13 + 1))))
         ·
          repeat refine c_seq ?_
          refine c_yes (by exact congrArg Value.bool (decide_eq_true hc46)) ?_
          repeat refine c_seq ?_
          refine c_region ?_
          refine l_op (o_val (r_ldAA (l := headV (numF 0 g.l)) H (i := 3) rfl rfl rt31 (show (headV (numF 0 g.l)).length = 32 from (headV_len _))) ?_)
          refine l_op (o_val (r_ldAA (l := headV (numF 0 (((numF 0 g.l).drop 0).take (m13) ++ (((numF 0 g.l).drop (m13 + 1)).take (g.len - (m13 + 1)))))) H (i := 7) rfl rfl rt31 (show (headV (numF 0 (((numF 0 g.l).drop 0).take (m13) ++ (((numF 0 g.l).drop (m13 + 1)).take (g.len - (m13 + 1)))))).length = 32 from (headV_len _))) ?_)
          refine l_op (o_val (r_eqa (a := headV (numF 0 g.l)) (b := headV (numF 0 (((numF 0 g.l).drop 0).take (m13) ++ (((numF 0 g.l).drop (m13 + 1)).take (g.len - (m13 + 1)))))) Try.underlying31 Try.underlying5 cs5 rfl rfl (show (headV (numF 0 g.l)).length = 32 from (headV_len _)) (show (headV (numF 0 (((numF 0 g.l).drop 0).take (m13) ++ (((numF 0 g.l).drop (m13 + 1)).take (g.len - (m13 + 1)))))).length = 32 from (headV_len _))) ?_)
          have hk47 : (decide (headV (numF 0 g.l) = headV (numF 0 (((numF 0 g.l).drop 0).take (m13) ++ (((numF 0 g.l).drop (m13 + 1)).take (g.len - (m13 + 1))))))) = true := (decide_eq_true (by rw [← of_decide_eq_true (decide_eq_true hc46)]))
          refine l_op (o_val (r_as) ?_)
          first | refine l_end ?_ | refine l_nil ?_
          refine c_ret ?_
          try dsimp only [Exit.then, Exit.inBlock]
          refine e_ret1 (v := .bool (decide (headV (numF 0 g.l) = headV (numF 0 (((numF 0 g.l).drop 0).take (m13) ++ (((numF 0 g.l).drop (m13 + 1)).take (g.len - (m13 + 1)))))))) Try.results27 rfl ?_
          refine ⟨_, rfl, ?_⟩
          exact ⟨congrArg Value.bool hk47, H.sub (List.nil_sublist _)⟩
         ·
          repeat refine c_seq ?_
          refine c_no (by exact congrArg Value.bool (decide_eq_false hc46)) ?_
          refine c_skip ?_
          repeat refine c_seq ?_
          refine c_region ?_
          refine l_op (o_val (r_ldAA (l := headV (numF 0 g.l)) H (i := 3) rfl rfl rt31 (show (headV (numF 0 g.l)).length = 32 from (headV_len _))) ?_)
          refine l_op (o_val (r_ldAA (l := headV (numF 0 (((numF 0 g.l).drop 0).take (m13) ++ (((numF 0 g.l).drop (m13 + 1)).take (g.len - (m13 + 1)))))) H (i := 7) rfl rfl rt31 (show (headV (numF 0 (((numF 0 g.l).drop 0).take (m13) ++ (((numF 0 g.l).drop (m13 + 1)).take (g.len - (m13 + 1)))))).length = 32 from (headV_len _))) ?_)
          refine l_op (o_val (r_nea (a := headV (numF 0 g.l)) (b := headV (numF 0 (((numF 0 g.l).drop 0).take (m13) ++ (((numF 0 g.l).drop (m13 + 1)).take (g.len - (m13 + 1)))))) Try.underlying31 Try.underlying5 cs5 rfl rfl (show (headV (numF 0 g.l)).length = 32 from (headV_len _)) (show (headV (numF 0 (((numF 0 g.l).drop 0).take (m13) ++ (((numF 0 g.l).drop (m13 + 1)).take (g.len - (m13 + 1)))))).length = 32 from (headV_len _))) ?_)
          refine l_op (o_val (r_mv) ?_)
          by_cases hc48 : headV (numF 0 g.l) = headV (numF 0 (((numF 0 g.l).drop 0).take (m13) ++ (((numF 0 g.l).drop (m13 + 1)).take (g.len - (m13 + 1)))))
          ·
           refine l_yes rfl rfl (by exact congrArg Value.bool (congrArg not (decide_eq_true hc48))) (o_val (r_mv) ?_)
           refine l_yes rfl rfl (by exact congrArg Value.bool (congrArg not (decide_eq_true hc48))) (o_val (r_mv) ?_)
           refine l_yes rfl rfl (by exact congrArg Value.bool (congrArg not (decide_eq_true hc48))) (o_callR Try.func101 rfl rfl rfl (collides_ret _ ⟨hd a5, g.len, c6, numF 0 g.l⟩ ⟨hd a42, m13 + (g.len - (m13 + 1)), c43, numF 0 (((numF 0 g.l).drop 0).take (m13) ++ (((numF 0 g.l).drop (m13 + 1)).take (g.len - (m13 + 1))))⟩ (H.glOwn (i := 2) rfl (by decide) (numF_of _ (by omega) hg.sz)) (H.glOwn (i := 6) rfl (by decide) (numF_of _ (by omega) hMs)) hNg hPg (by (try dsimp only); omega) (by (try dsimp only); omega)) ?_)
           rintro _ w ⟨rfl, Hc⟩
           replace H : Hp _ w _ ([_, _, _, _, _, _, _, _]) := H.call Hc
           clear Hc
           refine l_op (o_val (r_pick (b := false) (congrArg Value.bool (congrArg not (decide_eq_true hc48)))) ?_)
           refine l_op (o_val (r_mv) ?_)
           have hc490 := Bool.eq_false_or_eq_true (collF (textF Z32a (numF 0 g.l)) (textF Z32a (numF 0 (((numF 0 g.l).drop 0).take (m13) ++ (((numF 0 g.l).drop (m13 + 1)).take (g.len - (m13 + 1)))))))
           rcases hc490 with hc49 | hc49
           ·
            refine l_no rfl rfl (by exact congrArg Value.bool hc49) rfl ?_
            refine l_no rfl rfl (by exact congrArg Value.bool hc49) rfl ?_
            refine l_no rfl rfl (by exact congrArg Value.bool hc49) rfl ?_
            refine l_op (o_val (r_pick (b := true) (congrArg Value.bool hc49)) ?_)
            refine l_op (o_val (r_as) ?_)
            first | refine l_end ?_ | refine l_nil ?_
            refine c_ret ?_
            try dsimp only [Exit.then, Exit.inBlock]
            refine e_ret1 (v := .bool true) Try.results27 rfl ?_
            refine ⟨_, rfl, ?_⟩
            exact ⟨rfl, H.sub (List.nil_sublist _)⟩
           ·
            refine l_yes rfl rfl (by exact congrArg Value.bool hc49) (o_val (r_ldAA (l := headV (numF 0 g.l)) H (i := 3) rfl rfl rt31 (show (headV (numF 0 g.l)).length = 32 from (headV_len _))) ?_)
            refine l_yes rfl rfl (by exact congrArg Value.bool hc49) (o_val (r_bld' (pv := []) bd31 rfl rfl) ?_)
            refine l_yes rfl rfl (by exact congrArg Value.bool hc49) (o_val (r_eqa (a := headV (numF 0 g.l)) (b := List.replicate 32 (0 : UInt8)) Try.underlying31 Try.underlying5 cs5 rfl rfl (show (headV (numF 0 g.l)).length = 32 from (headV_len _)) (show (List.replicate 32 (0 : UInt8)).length = 32 from (List.length_replicate ..))) ?_)
            have hk50 : (decide (headV (numF 0 g.l) = List.replicate 32 (0 : UInt8))) = true := (decide_eq_true (Classical.byContradiction fun hz => by
                  have hcc := tamper _ _ hNg hPg (numF_numb 0 _) (numF_numb 0 _) (by rw [← hvN, ← hvM]; exact of_decide_eq_true (decide_eq_true hc48)) (by rw [← hvN]; exact hz) (of_decide_eq_false (decide_eq_false hc46))
                  rw [hcc] at hc49
                  cases hc49))
            refine l_op (o_val (r_pick (b := false) (congrArg Value.bool hc49)) ?_)
            refine l_op (o_val (r_as) ?_)
            first | refine l_end ?_ | refine l_nil ?_
            refine c_ret ?_
            try dsimp only [Exit.then, Exit.inBlock]
            refine e_ret1 (v := .bool (decide (headV (numF 0 g.l) = List.replicate 32 (0 : UInt8)))) Try.results27 rfl ?_
            refine ⟨_, rfl, ?_⟩
            exact ⟨congrArg Value.bool hk50, H.sub (List.nil_sublist _)⟩
          ·
           refine l_no rfl rfl (by exact congrArg Value.bool (congrArg not (decide_eq_false hc48))) rfl ?_
           refine l_no rfl rfl (by exact congrArg Value.bool (congrArg not (decide_eq_false hc48))) rfl ?_
           refine l_no rfl rfl (by exact congrArg Value.bool (congrArg not (decide_eq_false hc48))) rfl ?_
           refine l_op (o_val (r_pick (b := true) (congrArg Value.bool (congrArg not (decide_eq_false hc48)))) ?_)
           refine l_op (o_val (r_mv) ?_)
           refine l_no rfl rfl rfl rfl ?_
           refine l_no rfl rfl rfl rfl ?_
           refine l_no rfl rfl rfl rfl ?_
           refine l_op (o_val (r_pick rfl) ?_)
           refine l_op (o_val (r_as) ?_)
           first | refine l_end ?_ | refine l_nil ?_
           refine c_ret ?_
           try dsimp only [Exit.then, Exit.inBlock]
           refine e_ret1 (v := .bool true) Try.results27 rfl ?_
           refine ⟨_, rfl, ?_⟩
           exact ⟨rfl, H.sub (List.nil_sublist _)⟩
       ·
        repeat refine c_seq ?_
        refine c_no (by exact congrArg Value.bool (decide_eq_false hc35)) ?_
        repeat refine c_seq ?_
        refine c_region ?_
        refine l_op (o_val (r_bin (a := (m19 : Int)) (b := 2) rfl rfl (fun _ => b_eql)) ?_)
        refine l_op (o_val (r_as) ?_)
        first | refine l_end ?_ | refine l_nil ?_
        by_cases hc51 : (m19 : Int) = 2
        ·
         repeat refine c_seq ?_
         refine c_yes (by exact congrArg Value.bool (decide_eq_true hc51)) ?_
         repeat refine c_seq ?_
         refine wp_held (fun w => Hp w0 w [] [.blk b1 ([VI e.seq, VI e.tick, V64 e.serial, .string ⟨(e.tenant).toArray⟩, VI e.do_, VI e.status] ++ (e.of_).map V8) 95, .own (some b3) 1 1 (([e]).flatMap entE) 95 38, .own a5 g.len c6 ((numF 0 g.l).flatMap entE) 95 38, .blk b7 ((headV (numF 0 g.l)).map V8) 31]) mixed ?_
         replace H := H.drew
         have HS := H.sub (.cons_cons _ (.cons_cons _ (.cons_cons _ (.cons_cons _ (List.nil_sublist _)))))
         refine t_take 0 rfl (by kernel_rfl) (by kernel_rfl) (by kernel_rfl) (fun _ _ _ h => h) (fun w HS => r_mv) HS ?_
         refine t_take 1 rfl (by kernel_rfl) (by kernel_rfl) (by kernel_rfl) (fun _ _ _ h => h) (fun w HS => r_mv) HS ?_
         refine t_take 2 rfl (by kernel_rfl) (by kernel_rfl) (by kernel_rfl) (fun _ _ _ h => h) (fun w HS => r_mv) HS ?_
         refine t_take 3 rfl (by kernel_rfl) (by kernel_rfl) (by kernel_rfl) (fun _ _ _ h => h) (fun w HS => r_mv) HS ?_
         refine t_take 4 rfl (by kernel_rfl) (by kernel_rfl) (by kernel_rfl) (fun _ _ _ h => h) (fun w HS => r_mv) HS ?_
         refine t_take 5 rfl (by kernel_rfl) (by kernel_rfl) (by kernel_rfl) (fun _ _ _ h => h) (fun w HS => r_mv) HS ?_
         refine t_take 8 rfl (by kernel_rfl) (by kernel_rfl) (by kernel_rfl) (fun _ _ _ h => h) (fun w HS => r_mv) HS ?_
         refine t_take 9 rfl (by kernel_rfl) (by kernel_rfl) (by kernel_rfl) (fun _ _ _ h => h) (fun w HS => r_mv) HS ?_
         refine t_all [6, 10] (by kernel_rfl) (by simp) (all_cons (w_op 6 rfl ?_) (all_cons (w_op 10 rfl ?_) (all_nil)))
         ·
          have ah53 := H.ownAddr (i := 4) rfl (by omega)
          obtain ⟨ab52, ah53⟩ := ah53
          refine (o_val (r_isN m16 rfl rfl el97 ah53 (by omega) (by (try simp only [Sl.cut]); omega)) ?_)
          refine ⟨H.sub (.cons_cons _ (.cons_cons _ (.cons_cons _ (.cons_cons _ (List.nil_sublist _))))), ?_⟩
          replace HS := H.sub (.cons_cons _ (.cons_cons _ (.cons_cons _ (.cons_cons _ (List.nil_sublist _)))))
          refine t_take 10 rfl (by kernel_rfl) (by kernel_rfl) (by kernel_rfl) (fun _ _ _ h => h) (fun w HS => r_isN m13 rfl rfl el97 ah53 (by omega) (by (try simp only [Sl.cut]); omega)) HS ?_
          refine t_all [7, 11] (by kernel_rfl) (by simp) (all_cons (w_op 7 rfl ?_) (all_cons (w_op 11 rfl ?_) (all_nil)))
          ·
           have he55 : ∃ c, (numF 0 g.l)[m16]? = some c := ⟨_, List.getElem?_eq_getElem (by have := ((H.glOwn (i := 4) rfl (by decide) hNs)).ln; (try dsimp only at this ⊢); omega)⟩
           obtain ⟨e54, he55⟩ := he55
           have hez56 := ((H.glOwn (i := 4) rfl (by decide) hNs)).sz e54 (List.mem_of_getElem? he55)
           refine (o_val (r_ldRow (s := (⟨hd a11, g.len, c12, numF 0 g.l⟩ : Gl Ent)) (k := m16) (H.glOwn (i := 4) rfl (by decide) hNs) ah53 rfl rt95 (by decide) he55) ?_)
           refine ⟨H.sub (.cons_cons _ (.cons_cons _ (.cons_cons _ (.cons_cons _ (List.nil_sublist _))))), ?_⟩
           replace HS := H.sub (.cons_cons _ (.cons_cons _ (.cons_cons _ (.cons_cons _ (List.nil_sublist _)))))
           have he58 : ∃ c, (numF 0 g.l)[m13]? = some c := ⟨_, List.getElem?_eq_getElem (by have := ((H.glOwn (i := 4) rfl (by decide) hNs)).ln; (try dsimp only at this ⊢); omega)⟩
           obtain ⟨e57, he58⟩ := he58
           have hez59 := ((H.glOwn (i := 4) rfl (by decide) hNs)).sz e57 (List.mem_of_getElem? he58)
           refine t_step 11 rfl (by kernel_rfl) (o_val (r_ldRow (s := (⟨hd a11, g.len, c12, numF 0 g.l⟩ : Gl Ent)) (k := m13) (H.glOwn (i := 4) rfl (by decide) hNs) ah53 rfl rt95 (by decide) he58) ?_)
           refine ⟨H.sub (.cons_cons _ (.cons_cons _ (.cons_cons _ (.cons_cons _ (List.nil_sublist _))))), ?_⟩
           replace HS := H.sub (.cons_cons _ (.cons_cons _ (.cons_cons _ (.cons_cons _ (List.nil_sublist _)))))
           refine t_take 12 rfl (by kernel_rfl) (by kernel_rfl) (by kernel_rfl) (fun _ _ _ h => h) (fun w HS => r_isN m13 rfl rfl el97 ah53 (by omega) (by (try simp only [Sl.cut]); omega)) HS ?_
           have hg60 := ((H.glOwn (i := 4) rfl (by decide) hNs)).ln
           refine t_step 13 rfl (by kernel_rfl) (o_stG (enc := entE) (c := e54) (k := m13) H (i := 4) rfl hNs rfl ah53 rfl cs95 (ent_len (show (e54.of_).length = 32 from (ent_of hez56))) (ent_all _) (by dsimp only at hg60; omega) (fun w H => ?_))
           replace H : Hp _ w _ ([_, _, _, _, .own a11 g.len c12 (((numF 0 g.l).set m13 e54).flatMap entE) 95 38]) := H
           refine ⟨H.sub (.cons_cons _ (.cons_cons _ (.cons_cons _ (.cons_cons _ (List.nil_sublist _))))), ?_⟩
           replace HS := H.sub (.cons_cons _ (.cons_cons _ (.cons_cons _ (.cons_cons _ (List.nil_sublist _)))))
           refine t_take 14 rfl (by kernel_rfl) (by kernel_rfl) (by kernel_rfl) (fun _ _ _ h => h) (fun w HS => r_isN m16 rfl rfl el97 ah53 (by omega) (by (try simp only [Sl.cut]); omega)) HS ?_
           have hg61 := ((H.glOwn (i := 4) rfl (by decide) (all_set hNs (ent_len (show (e54.of_).length = 32 from (ent_of hez56)))))).ln
           refine t_step 15 rfl (by kernel_rfl) (o_stG (enc := entE) (c := e57) (k := m16) H (i := 4) rfl (all_set hNs (ent_len (show (e54.of_).length = 32 from (ent_of hez56)))) rfl ah53 rfl cs95 (ent_len (show (e57.of_).length = 32 from (ent_of hez59))) (ent_all _) (by dsimp only at hg61; omega) (fun w H => ?_))
           replace H : Hp _ w _ ([_, _, _, _, .own a11 g.len c12 ((((numF 0 g.l).set m13 e54).set m16 e57).flatMap entE) 95 38]) := H
           refine ⟨H.sub (.cons_cons _ (.cons_cons _ (.cons_cons _ (.cons_cons _ (List.nil_sublist _))))), ?_⟩
           replace HS := H.sub (.cons_cons _ (.cons_cons _ (.cons_cons _ (.cons_cons _ (List.nil_sublist _)))))
           refine t_done (by kernel_rfl) ?_
           clear HS
           have hMb : ∀ c ∈ ((numF 0 g.l).set m13 e54).set m16 e57, c.bd := (all_set (p := Ent.bd) (all_set (p := Ent.bd) hNb (hNb _ (List.mem_of_getElem? he55))) (hNb _ (List.mem_of_getElem? he58)))
           have hMs : ∀ c ∈ ((numF 0 g.l).set m13 e54).set m16 e57, (entE c).length = 38 := ((H.glOwn (i := 4) rfl (by decide) (all_set (all_set hNs (ent_len (show (e54.of_).length = 32 from (ent_of hez56)))) (ent_len (show (e57.of_).length = 32 from (ent_of hez59)))))).sz
           have hMl : (((numF 0 g.l).set m13 e54).set m16 e57).length = g.len := ((H.glOwn (i := 4) rfl (by decide) (all_set (all_set hNs (ent_len (show (e54.of_).length = 32 from (ent_of hez56)))) (ent_len (show (e57.of_).length = 32 from (ent_of hez59)))))).ln
           repeat refine c_seq ?_
           refine c_region ?_
           refine l_op (o_val (r_mv) ?_)
           refine l_op (o_callR Try.func93 rfl rfl rfl (numbered_ret _ ⟨hd a11, g.len, c12, ((numF 0 g.l).set m13 e54).set m16 e57⟩ (H.glOwn (i := 4) rfl (by decide) (all_set (all_set hNs (ent_len (show (e54.of_).length = 32 from (ent_of hez56)))) (ent_len (show (e57.of_).length = 32 from (ent_of hez59))))) (show g.len ≤ 65536 by omega)) ?_)
           rintro _ w ⟨a62, c63, rfl, Hc⟩
           replace H : Hp _ w _ ([_, _, _, _, _, .own a62 g.len c63 ((numF 0 (((numF 0 g.l).set m13 e54).set m16 e57)).flatMap entE) 95 38]) := H.call Hc
           clear Hc
           refine l_op (o_val (r_as) ?_)
           first | refine l_end ?_ | refine l_nil ?_
           repeat refine c_seq ?_
           refine c_region ?_
           refine l_op (o_val (r_mv) ?_)
           refine l_op (o_callR Try.func94 rfl rfl rfl (aHead_ret _ ⟨hd a62, g.len, c63, numF 0 (((numF 0 g.l).set m13 e54).set m16 e57)⟩ (H.glOwn (i := 5) rfl (by decide) (numF_of _ (by omega) hMs)) (numF_bd _ (by omega) hMb) (by (try dsimp only); omega)) ?_)
           rintro _ w ⟨rfl, Hc⟩
           replace H : Hp _ w _ ([_, _, _, _, _, _]) := H.call Hc
           clear Hc
           refine l_op (o_val (r_mv) ?_)
           refine l_op (o_val (r_ext rfl rfl) ?_)
           refine l_op (o_val (r_ext rfl rfl) ?_)
           refine l_op (o_alloc H zc31 (fun b64 w H hb64 => ?_))
           replace H : Hp _ w _ ([_, _, _, _, _, _, .blk b64 ((List.replicate 32 (0 : UInt8)).map V8) 31]) := H
           refine l_op (o_stA (l' := headV (numF 0 (((numF 0 g.l).set m13 e54).set m16 e57))) H (i := 6) rfl rfl rfl cs31 (show (List.replicate 32 (0 : UInt8)).length = 32 from (List.length_replicate ..)) (show (headV (numF 0 (((numF 0 g.l).set m13 e54).set m16 e57))).length = 32 from (headV_len _)) (fun w H => ?_))
           replace H : Hp _ w _ ([_, _, _, _, _, _, .blk b64 ((headV (numF 0 (((numF 0 g.l).set m13 e54).set m16 e57))).map V8) 31]) := H
           refine l_op (o_val (r_as) ?_)
           first | refine l_end ?_ | refine l_nil ?_
           repeat refine c_seq ?_
           refine c_region ?_
           refine l_op (o_val (r_mv) ?_)
           refine l_op (o_val (r_bin (a := ((headC (numF 0 (((numF 0 g.l).set m13 e54).set m16 e57)) : Nat) : Int)) (b := 0) rfl rfl (fun _ => b_neq)) ?_)
           first | refine l_end ?_ | refine l_nil ?_
           by_cases hc65 : ((headC (numF 0 (((numF 0 g.l).set m13 e54).set m16 e57)) : Nat) : Int) ≠ 0
           ·
            repeat refine c_seq ?_
            refine c_yes (by exact congrArg Value.bool (decide_eq_true hc65)) ?_
            repeat refine c_seq ?_
            refine c_region ?_
            refine l_op (o_val (r_as) ?_)
            first | refine l_end ?_ | refine l_nil ?_
            refine c_ret ?_
            try dsimp only [Exit.then, Exit.inBlock]
            refine e_ret1 (v := .bool true) Try.results27 rfl ?_
            refine ⟨_, rfl, ?_⟩
            exact ⟨rfl, H.sub (List.nil_sublist _)⟩
           ·
            repeat refine c_seq ?_
            refine c_no (by exact congrArg Value.bool (decide_eq_false hc65)) ?_
            refine c_skip ?_
            have hM0 : headC (numF 0 (((numF 0 g.l).set m13 e54).set m16 e57)) = 0 := by omega
            have hNg : ∀ c ∈ numF 0 g.l, c.good := fun c hc => ⟨List.all_eq_true.1 ((headC_iff _).1 hN0).1 c hc, hNb c hc, ent_of (hNs c hc)⟩
            have hPb : ∀ c ∈ numF 0 (((numF 0 g.l).set m13 e54).set m16 e57), c.bd := numF_bd _ (by omega) hMb
            have hPs : ∀ c ∈ numF 0 (((numF 0 g.l).set m13 e54).set m16 e57), (entE c).length = 38 := numF_of _ (by omega) hMs
            have hPg : ∀ c ∈ numF 0 (((numF 0 g.l).set m13 e54).set m16 e57), c.good := fun c hc => ⟨List.all_eq_true.1 ((headC_iff _).1 hM0).1 c hc, hPb c hc, ent_of (hPs c hc)⟩
            have hvN : headV (numF 0 g.l) = headF (numF 0 g.l) := by rw [headV, if_pos hN0]
            have hvM : headV (numF 0 (((numF 0 g.l).set m13 e54).set m16 e57)) = headF (numF 0 (((numF 0 g.l).set m13 e54).set m16 e57)) := by rw [headV, if_pos hM0]
            repeat refine c_seq ?_
            refine c_region ?_
            refine l_op (o_val (r_mv) ?_)
            refine l_op (o_val (r_mv) ?_)
            refine l_op (o_callR Try.func100 rfl rfl rfl (same_ret _ ⟨hd a5, g.len, c6, numF 0 g.l⟩ ⟨hd a62, g.len, c63, numF 0 (((numF 0 g.l).set m13 e54).set m16 e57)⟩ (H.glOwn (i := 2) rfl (by decide) (numF_of _ (by omega) hg.sz)) (H.glOwn (i := 5) rfl (by decide) (numF_of _ (by omega) hMs))) ?_)
            rintro _ w ⟨rfl, Hc⟩
            replace H : Hp _ w _ ([_, _, _, _, _, _, _]) := H.call Hc
            clear Hc
            first | refine l_end ?_ | refine l_nil ?_
            by_cases hc66 : numF 0 g.l = numF 0 (((numF 0 g.l).set m13 e54).set m16 e57)
            ·
             repeat refine c_seq ?_
             refine c_yes (by exact congrArg Value.bool (decide_eq_true hc66)) ?_
             repeat refine c_seq ?_
             refine c_region ?_
             refine l_op (o_val (r_ldAA (l := headV (numF 0 g.l)) H (i := 3) rfl rfl rt31 (show (headV (numF 0 g.l)).length = 32 from (headV_len _))) ?_)
             refine l_op (o_val (r_ldAA (l := headV (numF 0 (((numF 0 g.l).set m13 e54).set m16 e57))) H (i := 6) rfl rfl rt31 (show (headV (numF 0 (((numF 0 g.l).set m13 e54).set m16 e57))).length = 32 from (headV_len _))) ?_)
             refine l_op (o_val (r_eqa (a := headV (numF 0 g.l)) (b := headV (numF 0 (((numF 0 g.l).set m13 e54).set m16 e57))) Try.underlying31 Try.underlying5 cs5 rfl rfl (show (headV (numF 0 g.l)).length = 32 from (headV_len _)) (show (headV (numF 0 (((numF 0 g.l).set m13 e54).set m16 e57))).length = 32 from (headV_len _))) ?_)
             have hk67 : (decide (headV (numF 0 g.l) = headV (numF 0 (((numF 0 g.l).set m13 e54).set m16 e57)))) = true := (decide_eq_true (by rw [← of_decide_eq_true (decide_eq_true hc66)]))
             refine l_op (o_val (r_as) ?_)
             first | refine l_end ?_ | refine l_nil ?_
             refine c_ret ?_
             try dsimp only [Exit.then, Exit.inBlock]
             refine e_ret1 (v := .bool (decide (headV (numF 0 g.l) = headV (numF 0 (((numF 0 g.l).set m13 e54).set m16 e57))))) Try.results27 rfl ?_
             refine ⟨_, rfl, ?_⟩
             exact ⟨congrArg Value.bool hk67, H.sub (List.nil_sublist _)⟩
            ·
             repeat refine c_seq ?_
             refine c_no (by exact congrArg Value.bool (decide_eq_false hc66)) ?_
             refine c_skip ?_
             repeat refine c_seq ?_
             refine c_region ?_
             refine l_op (o_val (r_ldAA (l := headV (numF 0 g.l)) H (i := 3) rfl rfl rt31 (show (headV (numF 0 g.l)).length = 32 from (headV_len _))) ?_)
             refine l_op (o_val (r_ldAA (l := headV (numF 0 (((numF 0 g.l).set m13 e54).set m16 e57))) H (i := 6) rfl rfl rt31 (show (headV (numF 0 (((numF 0 g.l).set m13 e54).set m16 e57))).length = 32 from (headV_len _))) ?_)
             refine l_op (o_val (r_nea (a := headV (numF 0 g.l)) (b := headV (numF 0 (((numF 0 g.l).set m13 e54).set m16 e57))) Try.underlying31 Try.underlying5 cs5 rfl rfl (show (headV (numF 0 g.l)).length = 32 from (headV_len _)) (show (headV (numF 0 (((numF 0 g.l).set m13 e54).set m16 e57))).length = 32 from (headV_len _))) ?_)
             refine l_op (o_val (r_mv) ?_)
             by_cases hc68 : headV (numF 0 g.l) = headV (numF 0 (((numF 0 g.l).set m13 e54).set m16 e57))
             ·
              refine l_yes rfl rfl (by exact congrArg Value.bool (congrArg not (decide_eq_true hc68))) (o_val (r_mv) ?_)
              refine l_yes rfl rfl (by exact congrArg Value.bool (congrArg not (decide_eq_true hc68))) (o_val (r_mv) ?_)
              refine l_yes rfl rfl (by exact congrArg Value.bool (congrArg not (decide_eq_true hc68))) (o_callR Try.func101 rfl rfl rfl (collides_ret _ ⟨hd a5, g.len, c6, numF 0 g.l⟩ ⟨hd a62, g.len, c63, numF 0 (((numF 0 g.l).set m13 e54).set m16 e57)⟩ (H.glOwn (i := 2) rfl (by decide) (numF_of _ (by omega) hg.sz)) (H.glOwn (i := 5) rfl (by decide) (numF_of _ (by omega) hMs)) hNg hPg (by (try dsimp only); omega) (by (try dsimp only); omega)) ?_)
              rintro _ w ⟨rfl, Hc⟩
              replace H : Hp _ w _ ([_, _, _, _, _, _, _]) := H.call Hc
              clear Hc
              refine l_op (o_val (r_pick (b := false) (congrArg Value.bool (congrArg not (decide_eq_true hc68)))) ?_)
              refine l_op (o_val (r_mv) ?_)
              have hc690 := Bool.eq_false_or_eq_true (collF (textF Z32a (numF 0 g.l)) (textF Z32a (numF 0 (((numF 0 g.l).set m13 e54).set m16 e57))))
              rcases hc690 with hc69 | hc69
              ·
               refine l_no rfl rfl (by exact congrArg Value.bool hc69) rfl ?_
               refine l_no rfl rfl (by exact congrArg Value.bool hc69) rfl ?_
               refine l_no rfl rfl (by exact congrArg Value.bool hc69) rfl ?_
               refine l_op (o_val (r_pick (b := true) (congrArg Value.bool hc69)) ?_)
               refine l_op (o_val (r_as) ?_)
               first | refine l_end ?_ | refine l_nil ?_
               refine c_ret ?_
               try dsimp only [Exit.then, Exit.inBlock]
               refine e_ret1 (v := .bool true) Try.results27 rfl ?_
               refine ⟨_, rfl, ?_⟩
               exact ⟨rfl, H.sub (List.nil_sublist _)⟩
              ·
               refine l_yes rfl rfl (by exact congrArg Value.bool hc69) (o_val (r_ldAA (l := headV (numF 0 g.l)) H (i := 3) rfl rfl rt31 (show (headV (numF 0 g.l)).length = 32 from (headV_len _))) ?_)
               refine l_yes rfl rfl (by exact congrArg Value.bool hc69) (o_val (r_bld' (pv := []) bd31 rfl rfl) ?_)
               refine l_yes rfl rfl (by exact congrArg Value.bool hc69) (o_val (r_eqa (a := headV (numF 0 g.l)) (b := List.replicate 32 (0 : UInt8)) Try.underlying31 Try.underlying5 cs5 rfl rfl (show (headV (numF 0 g.l)).length = 32 from (headV_len _)) (show (List.replicate 32 (0 : UInt8)).length = 32 from (List.length_replicate ..))) ?_)
               have hk70 : (decide (headV (numF 0 g.l) = List.replicate 32 (0 : UInt8))) = true := (decide_eq_true (Classical.byContradiction fun hz => by
                     have hcc := tamper _ _ hNg hPg (numF_numb 0 _) (numF_numb 0 _) (by rw [← hvN, ← hvM]; exact of_decide_eq_true (decide_eq_true hc68)) (by rw [← hvN]; exact hz) (of_decide_eq_false (decide_eq_false hc66))
                     rw [hcc] at hc69
                     cases hc69))
               refine l_op (o_val (r_pick (b := false) (congrArg Value.bool hc69)) ?_)
               refine l_op (o_val (r_as) ?_)
               first | refine l_end ?_ | refine l_nil ?_
               refine c_ret ?_
               try dsimp only [Exit.then, Exit.inBlock]
               refine e_ret1 (v := .bool (decide (headV (numF 0 g.l) = List.replicate 32 (0 : UInt8)))) Try.results27 rfl ?_
               refine ⟨_, rfl, ?_⟩
               exact ⟨congrArg Value.bool hk70, H.sub (List.nil_sublist _)⟩
             ·
              refine l_no rfl rfl (by exact congrArg Value.bool (congrArg not (decide_eq_false hc68))) rfl ?_
              refine l_no rfl rfl (by exact congrArg Value.bool (congrArg not (decide_eq_false hc68))) rfl ?_
              refine l_no rfl rfl (by exact congrArg Value.bool (congrArg not (decide_eq_false hc68))) rfl ?_
              refine l_op (o_val (r_pick (b := true) (congrArg Value.bool (congrArg not (decide_eq_false hc68)))) ?_)
              refine l_op (o_val (r_mv) ?_)
              refine l_no rfl rfl rfl rfl ?_
              refine l_no rfl rfl rfl rfl ?_
              refine l_no rfl rfl rfl rfl ?_
              refine l_op (o_val (r_pick rfl) ?_)
              refine l_op (o_val (r_as) ?_)
              first | refine l_end ?_ | refine l_nil ?_
              refine c_ret ?_
              try dsimp only [Exit.then, Exit.inBlock]
              refine e_ret1 (v := .bool true) Try.results27 rfl ?_
              refine ⟨_, rfl, ?_⟩
              exact ⟨rfl, H.sub (List.nil_sublist _)⟩
          ·
           have he72 : ∃ c, (numF 0 g.l)[m13]? = some c := ⟨_, List.getElem?_eq_getElem (by have := ((H.glOwn (i := 4) rfl (by decide) hNs)).ln; (try dsimp only at this ⊢); omega)⟩
           obtain ⟨e71, he72⟩ := he72
           have hez73 := ((H.glOwn (i := 4) rfl (by decide) hNs)).sz e71 (List.mem_of_getElem? he72)
           refine (o_val (r_ldRow (s := (⟨hd a11, g.len, c12, numF 0 g.l⟩ : Gl Ent)) (k := m13) (H.glOwn (i := 4) rfl (by decide) hNs) ah53 rfl rt95 (by decide) he72) ?_)
           refine ⟨H.sub (.cons_cons _ (.cons_cons _ (.cons_cons _ (.cons_cons _ (List.nil_sublist _))))), ?_⟩
           replace HS := H.sub (.cons_cons _ (.cons_cons _ (.cons_cons _ (.cons_cons _ (List.nil_sublist _)))))
           have he75 : ∃ c, (numF 0 g.l)[m16]? = some c := ⟨_, List.getElem?_eq_getElem (by have := ((H.glOwn (i := 4) rfl (by decide) hNs)).ln; (try dsimp only at this ⊢); omega)⟩
           obtain ⟨e74, he75⟩ := he75
           have hez76 := ((H.glOwn (i := 4) rfl (by decide) hNs)).sz e74 (List.mem_of_getElem? he75)
           refine t_step 7 rfl (by kernel_rfl) (o_val (r_ldRow (s := (⟨hd a11, g.len, c12, numF 0 g.l⟩ : Gl Ent)) (k := m16) (H.glOwn (i := 4) rfl (by decide) hNs) ah53 rfl rt95 (by decide) he75) ?_)
           refine ⟨H.sub (.cons_cons _ (.cons_cons _ (.cons_cons _ (.cons_cons _ (List.nil_sublist _))))), ?_⟩
           replace HS := H.sub (.cons_cons _ (.cons_cons _ (.cons_cons _ (.cons_cons _ (List.nil_sublist _)))))
           refine t_take 12 rfl (by kernel_rfl) (by kernel_rfl) (by kernel_rfl) (fun _ _ _ h => h) (fun w HS => r_isN m13 rfl rfl el97 ah53 (by omega) (by (try simp only [Sl.cut]); omega)) HS ?_
           have hg77 := ((H.glOwn (i := 4) rfl (by decide) hNs)).ln
           refine t_step 13 rfl (by kernel_rfl) (o_stG (enc := entE) (c := e74) (k := m13) H (i := 4) rfl hNs rfl ah53 rfl cs95 (ent_len (show (e74.of_).length = 32 from (ent_of hez76))) (ent_all _) (by dsimp only at hg77; omega) (fun w H => ?_))
           replace H : Hp _ w _ ([_, _, _, _, .own a11 g.len c12 (((numF 0 g.l).set m13 e74).flatMap entE) 95 38]) := H
           refine ⟨H.sub (.cons_cons _ (.cons_cons _ (.cons_cons _ (.cons_cons _ (List.nil_sublist _))))), ?_⟩
           replace HS := H.sub (.cons_cons _ (.cons_cons _ (.cons_cons _ (.cons_cons _ (List.nil_sublist _)))))
           refine t_take 14 rfl (by kernel_rfl) (by kernel_rfl) (by kernel_rfl) (fun _ _ _ h => h) (fun w HS => r_isN m16 rfl rfl el97 ah53 (by omega) (by (try simp only [Sl.cut]); omega)) HS ?_
           have hg78 := ((H.glOwn (i := 4) rfl (by decide) (all_set hNs (ent_len (show (e74.of_).length = 32 from (ent_of hez76)))))).ln
           refine t_step 15 rfl (by kernel_rfl) (o_stG (enc := entE) (c := e71) (k := m16) H (i := 4) rfl (all_set hNs (ent_len (show (e74.of_).length = 32 from (ent_of hez76)))) rfl ah53 rfl cs95 (ent_len (show (e71.of_).length = 32 from (ent_of hez73))) (ent_all _) (by dsimp only at hg78; omega) (fun w H => ?_))
           replace H : Hp _ w _ ([_, _, _, _, .own a11 g.len c12 ((((numF 0 g.l).set m13 e74).set m16 e71).flatMap entE) 95 38]) := H
           refine ⟨H.sub (.cons_cons _ (.cons_cons _ (.cons_cons _ (.cons_cons _ (List.nil_sublist _))))), ?_⟩
           replace HS := H.sub (.cons_cons _ (.cons_cons _ (.cons_cons _ (.cons_cons _ (List.nil_sublist _)))))
           refine t_done (by kernel_rfl) ?_
           clear HS
           have hMb : ∀ c ∈ ((numF 0 g.l).set m13 e74).set m16 e71, c.bd := (all_set (p := Ent.bd) (all_set (p := Ent.bd) hNb (hNb _ (List.mem_of_getElem? he75))) (hNb _ (List.mem_of_getElem? he72)))
           have hMs : ∀ c ∈ ((numF 0 g.l).set m13 e74).set m16 e71, (entE c).length = 38 := ((H.glOwn (i := 4) rfl (by decide) (all_set (all_set hNs (ent_len (show (e74.of_).length = 32 from (ent_of hez76)))) (ent_len (show (e71.of_).length = 32 from (ent_of hez73)))))).sz
           have hMl : (((numF 0 g.l).set m13 e74).set m16 e71).length = g.len := ((H.glOwn (i := 4) rfl (by decide) (all_set (all_set hNs (ent_len (show (e74.of_).length = 32 from (ent_of hez76)))) (ent_len (show (e71.of_).length = 32 from (ent_of hez73)))))).ln
           repeat refine c_seq ?_
           refine c_region ?_
           refine l_op (o_val (r_mv) ?_)
           refine l_op (o_callR Try.func93 rfl rfl rfl (numbered_ret _ ⟨hd a11, g.len, c12, ((numF 0 g.l).set m13 e74).set m16 e71⟩ (H.glOwn (i := 4) rfl (by decide) (all_set (all_set hNs (ent_len (show (e74.of_).length = 32 from (ent_of hez76)))) (ent_len (show (e71.of_).length = 32 from (ent_of hez73))))) (show g.len ≤ 65536 by omega)) ?_)
           rintro _ w ⟨a79, c80, rfl, Hc⟩
           replace H : Hp _ w _ ([_, _, _, _, _, .own a79 g.len c80 ((numF 0 (((numF 0 g.l).set m13 e74).set m16 e71)).flatMap entE) 95 38]) := H.call Hc
           clear Hc
           refine l_op (o_val (r_as) ?_)
           first | refine l_end ?_ | refine l_nil ?_
           repeat refine c_seq ?_
           refine c_region ?_
           refine l_op (o_val (r_mv) ?_)
           refine l_op (o_callR Try.func94 rfl rfl rfl (aHead_ret _ ⟨hd a79, g.len, c80, numF 0 (((numF 0 g.l).set m13 e74).set m16 e71)⟩ (H.glOwn (i := 5) rfl (by decide) (numF_of _ (by omega) hMs)) (numF_bd _ (by omega) hMb) (by (try dsimp only); omega)) ?_)
           rintro _ w ⟨rfl, Hc⟩
           replace H : Hp _ w _ ([_, _, _, _, _, _]) := H.call Hc
           clear Hc
           refine l_op (o_val (r_mv) ?_)
           refine l_op (o_val (r_ext rfl rfl) ?_)
           refine l_op (o_val (r_ext rfl rfl) ?_)
           refine l_op (o_alloc H zc31 (fun b81 w H hb81 => ?_))
           replace H : Hp _ w _ ([_, _, _, _, _, _, .blk b81 ((List.replicate 32 (0 : UInt8)).map V8) 31]) := H
           refine l_op (o_stA (l' := headV (numF 0 (((numF 0 g.l).set m13 e74).set m16 e71))) H (i := 6) rfl rfl rfl cs31 (show (List.replicate 32 (0 : UInt8)).length = 32 from (List.length_replicate ..)) (show (headV (numF 0 (((numF 0 g.l).set m13 e74).set m16 e71))).length = 32 from (headV_len _)) (fun w H => ?_))
           replace H : Hp _ w _ ([_, _, _, _, _, _, .blk b81 ((headV (numF 0 (((numF 0 g.l).set m13 e74).set m16 e71))).map V8) 31]) := H
           refine l_op (o_val (r_as) ?_)
           first | refine l_end ?_ | refine l_nil ?_
           repeat refine c_seq ?_
           refine c_region ?_
           refine l_op (o_val (r_mv) ?_)
           refine l_op (o_val (r_bin (a := ((headC (numF 0 (((numF 0 g.l).set m13 e74).set m16 e71)) : Nat) : Int)) (b := 0) rfl rfl (fun _ => b_neq)) ?_)
           first | refine l_end ?_ | refine l_nil ?_
           by_cases hc82 : ((headC (numF 0 (((numF 0 g.l).set m13 e74).set m16 e71)) : Nat) : Int) ≠ 0
           ·
            repeat refine c_seq ?_
            refine c_yes (by exact congrArg Value.bool (decide_eq_true hc82)) ?_
            repeat refine c_seq ?_
            refine c_region ?_
            refine l_op (o_val (r_as) ?_)
            first | refine l_end ?_ | refine l_nil ?_
            refine c_ret ?_
            try dsimp only [Exit.then, Exit.inBlock]
            refine e_ret1 (v := .bool true) Try.results27 rfl ?_
            refine ⟨_, rfl, ?_⟩
            exact ⟨rfl, H.sub (List.nil_sublist _)⟩
           ·
            repeat refine c_seq ?_
            refine c_no (by exact congrArg Value.bool (decide_eq_false hc82)) ?_
            refine c_skip ?_
            have hM0 : headC (numF 0 (((numF 0 g.l).set m13 e74).set m16 e71)) = 0 := by omega
            have hNg : ∀ c ∈ numF 0 g.l, c.good := fun c hc => ⟨List.all_eq_true.1 ((headC_iff _).1 hN0).1 c hc, hNb c hc, ent_of (hNs c hc)⟩
            have hPb : ∀ c ∈ numF 0 (((numF 0 g.l).set m13 e74).set m16 e71), c.bd := numF_bd _ (by omega) hMb
            have hPs : ∀ c ∈ numF 0 (((numF 0 g.l).set m13 e74).set m16 e71), (entE c).length = 38 := numF_of _ (by omega) hMs
            have hPg : ∀ c ∈ numF 0 (((numF 0 g.l).set m13 e74).set m16 e71), c.good := fun c hc => ⟨List.all_eq_true.1 ((headC_iff _).1 hM0).1 c hc, hPb c hc, ent_of (hPs c hc)⟩
            have hvN : headV (numF 0 g.l) = headF (numF 0 g.l) := by rw [headV, if_pos hN0]
            have hvM : headV (numF 0 (((numF 0 g.l).set m13 e74).set m16 e71)) = headF (numF 0 (((numF 0 g.l).set m13 e74).set m16 e71)) := by rw [headV, if_pos hM0]
            repeat refine c_seq ?_
            refine c_region ?_
            refine l_op (o_val (r_mv) ?_)
            refine l_op (o_val (r_mv) ?_)
            refine l_op (o_callR Try.func100 rfl rfl rfl (same_ret _ ⟨hd a5, g.len, c6, numF 0 g.l⟩ ⟨hd a79, g.len, c80, numF 0 (((numF 0 g.l).set m13 e74).set m16 e71)⟩ (H.glOwn (i := 2) rfl (by decide) (numF_of _ (by omega) hg.sz)) (H.glOwn (i := 5) rfl (by decide) (numF_of _ (by omega) hMs))) ?_)
            rintro _ w ⟨rfl, Hc⟩
            replace H : Hp _ w _ ([_, _, _, _, _, _, _]) := H.call Hc
            clear Hc
            first | refine l_end ?_ | refine l_nil ?_
            by_cases hc83 : numF 0 g.l = numF 0 (((numF 0 g.l).set m13 e74).set m16 e71)
            ·
             repeat refine c_seq ?_
             refine c_yes (by exact congrArg Value.bool (decide_eq_true hc83)) ?_
             repeat refine c_seq ?_
             refine c_region ?_
             refine l_op (o_val (r_ldAA (l := headV (numF 0 g.l)) H (i := 3) rfl rfl rt31 (show (headV (numF 0 g.l)).length = 32 from (headV_len _))) ?_)
             refine l_op (o_val (r_ldAA (l := headV (numF 0 (((numF 0 g.l).set m13 e74).set m16 e71))) H (i := 6) rfl rfl rt31 (show (headV (numF 0 (((numF 0 g.l).set m13 e74).set m16 e71))).length = 32 from (headV_len _))) ?_)
             refine l_op (o_val (r_eqa (a := headV (numF 0 g.l)) (b := headV (numF 0 (((numF 0 g.l).set m13 e74).set m16 e71))) Try.underlying31 Try.underlying5 cs5 rfl rfl (show (headV (numF 0 g.l)).length = 32 from (headV_len _)) (show (headV (numF 0 (((numF 0 g.l).set m13 e74).set m16 e71))).length = 32 from (headV_len _))) ?_)
             have hk84 : (decide (headV (numF 0 g.l) = headV (numF 0 (((numF 0 g.l).set m13 e74).set m16 e71)))) = true := (decide_eq_true (by rw [← of_decide_eq_true (decide_eq_true hc83)]))
             refine l_op (o_val (r_as) ?_)
             first | refine l_end ?_ | refine l_nil ?_
             refine c_ret ?_
             try dsimp only [Exit.then, Exit.inBlock]
             refine e_ret1 (v := .bool (decide (headV (numF 0 g.l) = headV (numF 0 (((numF 0 g.l).set m13 e74).set m16 e71))))) Try.results27 rfl ?_
             refine ⟨_, rfl, ?_⟩
             exact ⟨congrArg Value.bool hk84, H.sub (List.nil_sublist _)⟩
            ·
             repeat refine c_seq ?_
             refine c_no (by exact congrArg Value.bool (decide_eq_false hc83)) ?_
             refine c_skip ?_
             repeat refine c_seq ?_
             refine c_region ?_
             refine l_op (o_val (r_ldAA (l := headV (numF 0 g.l)) H (i := 3) rfl rfl rt31 (show (headV (numF 0 g.l)).length = 32 from (headV_len _))) ?_)
             refine l_op (o_val (r_ldAA (l := headV (numF 0 (((numF 0 g.l).set m13 e74).set m16 e71))) H (i := 6) rfl rfl rt31 (show (headV (numF 0 (((numF 0 g.l).set m13 e74).set m16 e71))).length = 32 from (headV_len _))) ?_)
             refine l_op (o_val (r_nea (a := headV (numF 0 g.l)) (b := headV (numF 0 (((numF 0 g.l).set m13 e74).set m16 e71))) Try.underlying31 Try.underlying5 cs5 rfl rfl (show (headV (numF 0 g.l)).length = 32 from (headV_len _)) (show (headV (numF 0 (((numF 0 g.l).set m13 e74).set m16 e71))).length = 32 from (headV_len _))) ?_)
             refine l_op (o_val (r_mv) ?_)
             by_cases hc85 : headV (numF 0 g.l) = headV (numF 0 (((numF 0 g.l).set m13 e74).set m16 e71))
             ·
              refine l_yes rfl rfl (by exact congrArg Value.bool (congrArg not (decide_eq_true hc85))) (o_val (r_mv) ?_)
              refine l_yes rfl rfl (by exact congrArg Value.bool (congrArg not (decide_eq_true hc85))) (o_val (r_mv) ?_)
              refine l_yes rfl rfl (by exact congrArg Value.bool (congrArg not (decide_eq_true hc85))) (o_callR Try.func101 rfl rfl rfl (collides_ret _ ⟨hd a5, g.len, c6, numF 0 g.l⟩ ⟨hd a79, g.len, c80, numF 0 (((numF 0 g.l).set m13 e74).set m16 e71)⟩ (H.glOwn (i := 2) rfl (by decide) (numF_of _ (by omega) hg.sz)) (H.glOwn (i := 5) rfl (by decide) (numF_of _ (by omega) hMs)) hNg hPg (by (try dsimp only); omega) (by (try dsimp only); omega)) ?_)
              rintro _ w ⟨rfl, Hc⟩
              replace H : Hp _ w _ ([_, _, _, _, _, _, _]) := H.call Hc
              clear Hc
              refine l_op (o_val (r_pick (b := false) (congrArg Value.bool (congrArg not (decide_eq_true hc85)))) ?_)
              refine l_op (o_val (r_mv) ?_)
              have hc860 := Bool.eq_false_or_eq_true (collF (textF Z32a (numF 0 g.l)) (textF Z32a (numF 0 (((numF 0 g.l).set m13 e74).set m16 e71))))
              rcases hc860 with hc86 | hc86
              ·
               refine l_no rfl rfl (by exact congrArg Value.bool hc86) rfl ?_
               refine l_no rfl rfl (by exact congrArg Value.bool hc86) rfl ?_
               refine l_no rfl rfl (by exact congrArg Value.bool hc86) rfl ?_
               refine l_op (o_val (r_pick (b := true) (congrArg Value.bool hc86)) ?_)
               refine l_op (o_val (r_as) ?_)
               first | refine l_end ?_ | refine l_nil ?_
               refine c_ret ?_
               try dsimp only [Exit.then, Exit.inBlock]
               refine e_ret1 (v := .bool true) Try.results27 rfl ?_
               refine ⟨_, rfl, ?_⟩
               exact ⟨rfl, H.sub (List.nil_sublist _)⟩
              ·
               refine l_yes rfl rfl (by exact congrArg Value.bool hc86) (o_val (r_ldAA (l := headV (numF 0 g.l)) H (i := 3) rfl rfl rt31 (show (headV (numF 0 g.l)).length = 32 from (headV_len _))) ?_)
               refine l_yes rfl rfl (by exact congrArg Value.bool hc86) (o_val (r_bld' (pv := []) bd31 rfl rfl) ?_)
               refine l_yes rfl rfl (by exact congrArg Value.bool hc86) (o_val (r_eqa (a := headV (numF 0 g.l)) (b := List.replicate 32 (0 : UInt8)) Try.underlying31 Try.underlying5 cs5 rfl rfl (show (headV (numF 0 g.l)).length = 32 from (headV_len _)) (show (List.replicate 32 (0 : UInt8)).length = 32 from (List.length_replicate ..))) ?_)
               have hk87 : (decide (headV (numF 0 g.l) = List.replicate 32 (0 : UInt8))) = true := (decide_eq_true (Classical.byContradiction fun hz => by
                     have hcc := tamper _ _ hNg hPg (numF_numb 0 _) (numF_numb 0 _) (by rw [← hvN, ← hvM]; exact of_decide_eq_true (decide_eq_true hc85)) (by rw [← hvN]; exact hz) (of_decide_eq_false (decide_eq_false hc83))
                     rw [hcc] at hc86
                     cases hc86))
               refine l_op (o_val (r_pick (b := false) (congrArg Value.bool hc86)) ?_)
               refine l_op (o_val (r_as) ?_)
               first | refine l_end ?_ | refine l_nil ?_
               refine c_ret ?_
               try dsimp only [Exit.then, Exit.inBlock]
               refine e_ret1 (v := .bool (decide (headV (numF 0 g.l) = List.replicate 32 (0 : UInt8)))) Try.results27 rfl ?_
               refine ⟨_, rfl, ?_⟩
               exact ⟨congrArg Value.bool hk87, H.sub (List.nil_sublist _)⟩
             ·
              refine l_no rfl rfl (by exact congrArg Value.bool (congrArg not (decide_eq_false hc85))) rfl ?_
              refine l_no rfl rfl (by exact congrArg Value.bool (congrArg not (decide_eq_false hc85))) rfl ?_
              refine l_no rfl rfl (by exact congrArg Value.bool (congrArg not (decide_eq_false hc85))) rfl ?_
              refine l_op (o_val (r_pick (b := true) (congrArg Value.bool (congrArg not (decide_eq_false hc85)))) ?_)
              refine l_op (o_val (r_mv) ?_)
              refine l_no rfl rfl rfl rfl ?_
              refine l_no rfl rfl rfl rfl ?_
              refine l_no rfl rfl rfl rfl ?_
              refine l_op (o_val (r_pick rfl) ?_)
              refine l_op (o_val (r_as) ?_)
              first | refine l_end ?_ | refine l_nil ?_
              refine c_ret ?_
              try dsimp only [Exit.then, Exit.inBlock]
              refine e_ret1 (v := .bool true) Try.results27 rfl ?_
              refine ⟨_, rfl, ?_⟩
              exact ⟨rfl, H.sub (List.nil_sublist _)⟩
         ·
          have ah89 := H.ownAddr (i := 4) rfl (by omega)
          obtain ⟨ab88, ah89⟩ := ah89
          refine (o_val (r_isN m13 rfl rfl el97 ah89 (by omega) (by (try simp only [Sl.cut]); omega)) ?_)
          refine ⟨H.sub (.cons_cons _ (.cons_cons _ (.cons_cons _ (.cons_cons _ (List.nil_sublist _))))), ?_⟩
          replace HS := H.sub (.cons_cons _ (.cons_cons _ (.cons_cons _ (.cons_cons _ (List.nil_sublist _)))))
          refine t_take 6 rfl (by kernel_rfl) (by kernel_rfl) (by kernel_rfl) (fun _ _ _ h => h) (fun w HS => r_isN m16 rfl rfl el97 ah89 (by omega) (by (try simp only [Sl.cut]); omega)) HS ?_
          refine t_all [7, 11] (by kernel_rfl) (by simp) (all_cons (w_op 7 rfl ?_) (all_cons (w_op 11 rfl ?_) (all_nil)))
          ·
           have he91 : ∃ c, (numF 0 g.l)[m16]? = some c := ⟨_, List.getElem?_eq_getElem (by have := ((H.glOwn (i := 4) rfl (by decide) hNs)).ln; (try dsimp only at this ⊢); omega)⟩
           obtain ⟨e90, he91⟩ := he91
           have hez92 := ((H.glOwn (i := 4) rfl (by decide) hNs)).sz e90 (List.mem_of_getElem? he91)
           refine (o_val (r_ldRow (s := (⟨hd a11, g.len, c12, numF 0 g.l⟩ : Gl Ent)) (k := m16) (H.glOwn (i := 4) rfl (by decide) hNs) ah89 rfl rt95 (by decide) he91) ?_)
           refine ⟨H.sub (.cons_cons _ (.cons_cons _ (.cons_cons _ (.cons_cons _ (List.nil_sublist _))))), ?_⟩
           replace HS := H.sub (.cons_cons _ (.cons_cons _ (.cons_cons _ (.cons_cons _ (List.nil_sublist _)))))
           have he94 : ∃ c, (numF 0 g.l)[m13]? = some c := ⟨_, List.getElem?_eq_getElem (by have := ((H.glOwn (i := 4) rfl (by decide) hNs)).ln; (try dsimp only at this ⊢); omega)⟩
           obtain ⟨e93, he94⟩ := he94
           have hez95 := ((H.glOwn (i := 4) rfl (by decide) hNs)).sz e93 (List.mem_of_getElem? he94)
           refine t_step 11 rfl (by kernel_rfl) (o_val (r_ldRow (s := (⟨hd a11, g.len, c12, numF 0 g.l⟩ : Gl Ent)) (k := m13) (H.glOwn (i := 4) rfl (by decide) hNs) ah89 rfl rt95 (by decide) he94) ?_)
           refine ⟨H.sub (.cons_cons _ (.cons_cons _ (.cons_cons _ (.cons_cons _ (List.nil_sublist _))))), ?_⟩
           replace HS := H.sub (.cons_cons _ (.cons_cons _ (.cons_cons _ (.cons_cons _ (List.nil_sublist _)))))
           refine t_take 12 rfl (by kernel_rfl) (by kernel_rfl) (by kernel_rfl) (fun _ _ _ h => h) (fun w HS => r_isN m13 rfl rfl el97 ah89 (by omega) (by (try simp only [Sl.cut]); omega)) HS ?_
           have hg96 := ((H.glOwn (i := 4) rfl (by decide) hNs)).ln
           refine t_step 13 rfl (by kernel_rfl) (o_stG (enc := entE) (c := e90) (k := m13) H (i := 4) rfl hNs rfl ah89 rfl cs95 (ent_len (show (e90.of_).length = 32 from (ent_of hez92))) (ent_all _) (by dsimp only at hg96; omega) (fun w H => ?_))
           replace H : Hp _ w _ ([_, _, _, _, .own a11 g.len c12 (((numF 0 g.l).set m13 e90).flatMap entE) 95 38]) := H
           refine ⟨H.sub (.cons_cons _ (.cons_cons _ (.cons_cons _ (.cons_cons _ (List.nil_sublist _))))), ?_⟩
           replace HS := H.sub (.cons_cons _ (.cons_cons _ (.cons_cons _ (.cons_cons _ (List.nil_sublist _)))))
           refine t_take 14 rfl (by kernel_rfl) (by kernel_rfl) (by kernel_rfl) (fun _ _ _ h => h) (fun w HS => r_isN m16 rfl rfl el97 ah89 (by omega) (by (try simp only [Sl.cut]); omega)) HS ?_
           have hg97 := ((H.glOwn (i := 4) rfl (by decide) (all_set hNs (ent_len (show (e90.of_).length = 32 from (ent_of hez92)))))).ln
           refine t_step 15 rfl (by kernel_rfl) (o_stG (enc := entE) (c := e93) (k := m16) H (i := 4) rfl (all_set hNs (ent_len (show (e90.of_).length = 32 from (ent_of hez92)))) rfl ah89 rfl cs95 (ent_len (show (e93.of_).length = 32 from (ent_of hez95))) (ent_all _) (by dsimp only at hg97; omega) (fun w H => ?_))
           replace H : Hp _ w _ ([_, _, _, _, .own a11 g.len c12 ((((numF 0 g.l).set m13 e90).set m16 e93).flatMap entE) 95 38]) := H
           refine ⟨H.sub (.cons_cons _ (.cons_cons _ (.cons_cons _ (.cons_cons _ (List.nil_sublist _))))), ?_⟩
           replace HS := H.sub (.cons_cons _ (.cons_cons _ (.cons_cons _ (.cons_cons _ (List.nil_sublist _)))))
           refine t_done (by kernel_rfl) ?_
           clear HS
           have hMb : ∀ c ∈ ((numF 0 g.l).set m13 e90).set m16 e93, c.bd := (all_set (p := Ent.bd) (all_set (p := Ent.bd) hNb (hNb _ (List.mem_of_getElem? he91))) (hNb _ (List.mem_of_getElem? he94)))
           have hMs : ∀ c ∈ ((numF 0 g.l).set m13 e90).set m16 e93, (entE c).length = 38 := ((H.glOwn (i := 4) rfl (by decide) (all_set (all_set hNs (ent_len (show (e90.of_).length = 32 from (ent_of hez92)))) (ent_len (show (e93.of_).length = 32 from (ent_of hez95)))))).sz
           have hMl : (((numF 0 g.l).set m13 e90).set m16 e93).length = g.len := ((H.glOwn (i := 4) rfl (by decide) (all_set (all_set hNs (ent_len (show (e90.of_).length = 32 from (ent_of hez92)))) (ent_len (show (e93.of_).length = 32 from (ent_of hez95)))))).ln
           repeat refine c_seq ?_
           refine c_region ?_
           refine l_op (o_val (r_mv) ?_)
           refine l_op (o_callR Try.func93 rfl rfl rfl (numbered_ret _ ⟨hd a11, g.len, c12, ((numF 0 g.l).set m13 e90).set m16 e93⟩ (H.glOwn (i := 4) rfl (by decide) (all_set (all_set hNs (ent_len (show (e90.of_).length = 32 from (ent_of hez92)))) (ent_len (show (e93.of_).length = 32 from (ent_of hez95))))) (show g.len ≤ 65536 by omega)) ?_)
           rintro _ w ⟨a98, c99, rfl, Hc⟩
           replace H : Hp _ w _ ([_, _, _, _, _, .own a98 g.len c99 ((numF 0 (((numF 0 g.l).set m13 e90).set m16 e93)).flatMap entE) 95 38]) := H.call Hc
           clear Hc
           refine l_op (o_val (r_as) ?_)
           first | refine l_end ?_ | refine l_nil ?_
           repeat refine c_seq ?_
           refine c_region ?_
           refine l_op (o_val (r_mv) ?_)
           refine l_op (o_callR Try.func94 rfl rfl rfl (aHead_ret _ ⟨hd a98, g.len, c99, numF 0 (((numF 0 g.l).set m13 e90).set m16 e93)⟩ (H.glOwn (i := 5) rfl (by decide) (numF_of _ (by omega) hMs)) (numF_bd _ (by omega) hMb) (by (try dsimp only); omega)) ?_)
           rintro _ w ⟨rfl, Hc⟩
           replace H : Hp _ w _ ([_, _, _, _, _, _]) := H.call Hc
           clear Hc
           refine l_op (o_val (r_mv) ?_)
           refine l_op (o_val (r_ext rfl rfl) ?_)
           refine l_op (o_val (r_ext rfl rfl) ?_)
           refine l_op (o_alloc H zc31 (fun b100 w H hb100 => ?_))
           replace H : Hp _ w _ ([_, _, _, _, _, _, .blk b100 ((List.replicate 32 (0 : UInt8)).map V8) 31]) := H
           refine l_op (o_stA (l' := headV (numF 0 (((numF 0 g.l).set m13 e90).set m16 e93))) H (i := 6) rfl rfl rfl cs31 (show (List.replicate 32 (0 : UInt8)).length = 32 from (List.length_replicate ..)) (show (headV (numF 0 (((numF 0 g.l).set m13 e90).set m16 e93))).length = 32 from (headV_len _)) (fun w H => ?_))
           replace H : Hp _ w _ ([_, _, _, _, _, _, .blk b100 ((headV (numF 0 (((numF 0 g.l).set m13 e90).set m16 e93))).map V8) 31]) := H
           refine l_op (o_val (r_as) ?_)
           first | refine l_end ?_ | refine l_nil ?_
           repeat refine c_seq ?_
           refine c_region ?_
           refine l_op (o_val (r_mv) ?_)
           refine l_op (o_val (r_bin (a := ((headC (numF 0 (((numF 0 g.l).set m13 e90).set m16 e93)) : Nat) : Int)) (b := 0) rfl rfl (fun _ => b_neq)) ?_)
           first | refine l_end ?_ | refine l_nil ?_
           by_cases hc101 : ((headC (numF 0 (((numF 0 g.l).set m13 e90).set m16 e93)) : Nat) : Int) ≠ 0
           ·
            repeat refine c_seq ?_
            refine c_yes (by exact congrArg Value.bool (decide_eq_true hc101)) ?_
            repeat refine c_seq ?_
            refine c_region ?_
            refine l_op (o_val (r_as) ?_)
            first | refine l_end ?_ | refine l_nil ?_
            refine c_ret ?_
            try dsimp only [Exit.then, Exit.inBlock]
            refine e_ret1 (v := .bool true) Try.results27 rfl ?_
            refine ⟨_, rfl, ?_⟩
            exact ⟨rfl, H.sub (List.nil_sublist _)⟩
           ·
            repeat refine c_seq ?_
            refine c_no (by exact congrArg Value.bool (decide_eq_false hc101)) ?_
            refine c_skip ?_
            have hM0 : headC (numF 0 (((numF 0 g.l).set m13 e90).set m16 e93)) = 0 := by omega
            have hNg : ∀ c ∈ numF 0 g.l, c.good := fun c hc => ⟨List.all_eq_true.1 ((headC_iff _).1 hN0).1 c hc, hNb c hc, ent_of (hNs c hc)⟩
            have hPb : ∀ c ∈ numF 0 (((numF 0 g.l).set m13 e90).set m16 e93), c.bd := numF_bd _ (by omega) hMb
            have hPs : ∀ c ∈ numF 0 (((numF 0 g.l).set m13 e90).set m16 e93), (entE c).length = 38 := numF_of _ (by omega) hMs
            have hPg : ∀ c ∈ numF 0 (((numF 0 g.l).set m13 e90).set m16 e93), c.good := fun c hc => ⟨List.all_eq_true.1 ((headC_iff _).1 hM0).1 c hc, hPb c hc, ent_of (hPs c hc)⟩
            have hvN : headV (numF 0 g.l) = headF (numF 0 g.l) := by rw [headV, if_pos hN0]
            have hvM : headV (numF 0 (((numF 0 g.l).set m13 e90).set m16 e93)) = headF (numF 0 (((numF 0 g.l).set m13 e90).set m16 e93)) := by rw [headV, if_pos hM0]
            repeat refine c_seq ?_
            refine c_region ?_
            refine l_op (o_val (r_mv) ?_)
            refine l_op (o_val (r_mv) ?_)
            refine l_op (o_callR Try.func100 rfl rfl rfl (same_ret _ ⟨hd a5, g.len, c6, numF 0 g.l⟩ ⟨hd a98, g.len, c99, numF 0 (((numF 0 g.l).set m13 e90).set m16 e93)⟩ (H.glOwn (i := 2) rfl (by decide) (numF_of _ (by omega) hg.sz)) (H.glOwn (i := 5) rfl (by decide) (numF_of _ (by omega) hMs))) ?_)
            rintro _ w ⟨rfl, Hc⟩
            replace H : Hp _ w _ ([_, _, _, _, _, _, _]) := H.call Hc
            clear Hc
            first | refine l_end ?_ | refine l_nil ?_
            by_cases hc102 : numF 0 g.l = numF 0 (((numF 0 g.l).set m13 e90).set m16 e93)
            ·
             repeat refine c_seq ?_
             refine c_yes (by exact congrArg Value.bool (decide_eq_true hc102)) ?_
             repeat refine c_seq ?_
             refine c_region ?_
             refine l_op (o_val (r_ldAA (l := headV (numF 0 g.l)) H (i := 3) rfl rfl rt31 (show (headV (numF 0 g.l)).length = 32 from (headV_len _))) ?_)
             refine l_op (o_val (r_ldAA (l := headV (numF 0 (((numF 0 g.l).set m13 e90).set m16 e93))) H (i := 6) rfl rfl rt31 (show (headV (numF 0 (((numF 0 g.l).set m13 e90).set m16 e93))).length = 32 from (headV_len _))) ?_)
             refine l_op (o_val (r_eqa (a := headV (numF 0 g.l)) (b := headV (numF 0 (((numF 0 g.l).set m13 e90).set m16 e93))) Try.underlying31 Try.underlying5 cs5 rfl rfl (show (headV (numF 0 g.l)).length = 32 from (headV_len _)) (show (headV (numF 0 (((numF 0 g.l).set m13 e90).set m16 e93))).length = 32 from (headV_len _))) ?_)
             have hk103 : (decide (headV (numF 0 g.l) = headV (numF 0 (((numF 0 g.l).set m13 e90).set m16 e93)))) = true := (decide_eq_true (by rw [← of_decide_eq_true (decide_eq_true hc102)]))
             refine l_op (o_val (r_as) ?_)
             first | refine l_end ?_ | refine l_nil ?_
             refine c_ret ?_
             try dsimp only [Exit.then, Exit.inBlock]
             refine e_ret1 (v := .bool (decide (headV (numF 0 g.l) = headV (numF 0 (((numF 0 g.l).set m13 e90).set m16 e93))))) Try.results27 rfl ?_
             refine ⟨_, rfl, ?_⟩
             exact ⟨congrArg Value.bool hk103, H.sub (List.nil_sublist _)⟩
            ·
             repeat refine c_seq ?_
             refine c_no (by exact congrArg Value.bool (decide_eq_false hc102)) ?_
             refine c_skip ?_
             repeat refine c_seq ?_
             refine c_region ?_
             refine l_op (o_val (r_ldAA (l := headV (numF 0 g.l)) H (i := 3) rfl rfl rt31 (show (headV (numF 0 g.l)).length = 32 from (headV_len _))) ?_)
             refine l_op (o_val (r_ldAA (l := headV (numF 0 (((numF 0 g.l).set m13 e90).set m16 e93))) H (i := 6) rfl rfl rt31 (show (headV (numF 0 (((numF 0 g.l).set m13 e90).set m16 e93))).length = 32 from (headV_len _))) ?_)
             refine l_op (o_val (r_nea (a := headV (numF 0 g.l)) (b := headV (numF 0 (((numF 0 g.l).set m13 e90).set m16 e93))) Try.underlying31 Try.underlying5 cs5 rfl rfl (show (headV (numF 0 g.l)).length = 32 from (headV_len _)) (show (headV (numF 0 (((numF 0 g.l).set m13 e90).set m16 e93))).length = 32 from (headV_len _))) ?_)
             refine l_op (o_val (r_mv) ?_)
             by_cases hc104 : headV (numF 0 g.l) = headV (numF 0 (((numF 0 g.l).set m13 e90).set m16 e93))
             ·
              refine l_yes rfl rfl (by exact congrArg Value.bool (congrArg not (decide_eq_true hc104))) (o_val (r_mv) ?_)
              refine l_yes rfl rfl (by exact congrArg Value.bool (congrArg not (decide_eq_true hc104))) (o_val (r_mv) ?_)
              refine l_yes rfl rfl (by exact congrArg Value.bool (congrArg not (decide_eq_true hc104))) (o_callR Try.func101 rfl rfl rfl (collides_ret _ ⟨hd a5, g.len, c6, numF 0 g.l⟩ ⟨hd a98, g.len, c99, numF 0 (((numF 0 g.l).set m13 e90).set m16 e93)⟩ (H.glOwn (i := 2) rfl (by decide) (numF_of _ (by omega) hg.sz)) (H.glOwn (i := 5) rfl (by decide) (numF_of _ (by omega) hMs)) hNg hPg (by (try dsimp only); omega) (by (try dsimp only); omega)) ?_)
              rintro _ w ⟨rfl, Hc⟩
              replace H : Hp _ w _ ([_, _, _, _, _, _, _]) := H.call Hc
              clear Hc
              refine l_op (o_val (r_pick (b := false) (congrArg Value.bool (congrArg not (decide_eq_true hc104)))) ?_)
              refine l_op (o_val (r_mv) ?_)
              have hc1050 := Bool.eq_false_or_eq_true (collF (textF Z32a (numF 0 g.l)) (textF Z32a (numF 0 (((numF 0 g.l).set m13 e90).set m16 e93))))
              rcases hc1050 with hc105 | hc105
              ·
               refine l_no rfl rfl (by exact congrArg Value.bool hc105) rfl ?_
               refine l_no rfl rfl (by exact congrArg Value.bool hc105) rfl ?_
               refine l_no rfl rfl (by exact congrArg Value.bool hc105) rfl ?_
               refine l_op (o_val (r_pick (b := true) (congrArg Value.bool hc105)) ?_)
               refine l_op (o_val (r_as) ?_)
               first | refine l_end ?_ | refine l_nil ?_
               refine c_ret ?_
               try dsimp only [Exit.then, Exit.inBlock]
               refine e_ret1 (v := .bool true) Try.results27 rfl ?_
               refine ⟨_, rfl, ?_⟩
               exact ⟨rfl, H.sub (List.nil_sublist _)⟩
              ·
               refine l_yes rfl rfl (by exact congrArg Value.bool hc105) (o_val (r_ldAA (l := headV (numF 0 g.l)) H (i := 3) rfl rfl rt31 (show (headV (numF 0 g.l)).length = 32 from (headV_len _))) ?_)
               refine l_yes rfl rfl (by exact congrArg Value.bool hc105) (o_val (r_bld' (pv := []) bd31 rfl rfl) ?_)
               refine l_yes rfl rfl (by exact congrArg Value.bool hc105) (o_val (r_eqa (a := headV (numF 0 g.l)) (b := List.replicate 32 (0 : UInt8)) Try.underlying31 Try.underlying5 cs5 rfl rfl (show (headV (numF 0 g.l)).length = 32 from (headV_len _)) (show (List.replicate 32 (0 : UInt8)).length = 32 from (List.length_replicate ..))) ?_)
               have hk106 : (decide (headV (numF 0 g.l) = List.replicate 32 (0 : UInt8))) = true := (decide_eq_true (Classical.byContradiction fun hz => by
                     have hcc := tamper _ _ hNg hPg (numF_numb 0 _) (numF_numb 0 _) (by rw [← hvN, ← hvM]; exact of_decide_eq_true (decide_eq_true hc104)) (by rw [← hvN]; exact hz) (of_decide_eq_false (decide_eq_false hc102))
                     rw [hcc] at hc105
                     cases hc105))
               refine l_op (o_val (r_pick (b := false) (congrArg Value.bool hc105)) ?_)
               refine l_op (o_val (r_as) ?_)
               first | refine l_end ?_ | refine l_nil ?_
               refine c_ret ?_
               try dsimp only [Exit.then, Exit.inBlock]
               refine e_ret1 (v := .bool (decide (headV (numF 0 g.l) = List.replicate 32 (0 : UInt8)))) Try.results27 rfl ?_
               refine ⟨_, rfl, ?_⟩
               exact ⟨congrArg Value.bool hk106, H.sub (List.nil_sublist _)⟩
             ·
              refine l_no rfl rfl (by exact congrArg Value.bool (congrArg not (decide_eq_false hc104))) rfl ?_
              refine l_no rfl rfl (by exact congrArg Value.bool (congrArg not (decide_eq_false hc104))) rfl ?_
              refine l_no rfl rfl (by exact congrArg Value.bool (congrArg not (decide_eq_false hc104))) rfl ?_
              refine l_op (o_val (r_pick (b := true) (congrArg Value.bool (congrArg not (decide_eq_false hc104)))) ?_)
              refine l_op (o_val (r_mv) ?_)
              refine l_no rfl rfl rfl rfl ?_
              refine l_no rfl rfl rfl rfl ?_
              refine l_no rfl rfl rfl rfl ?_
              refine l_op (o_val (r_pick rfl) ?_)
              refine l_op (o_val (r_as) ?_)
              first | refine l_end ?_ | refine l_nil ?_
              refine c_ret ?_
              try dsimp only [Exit.then, Exit.inBlock]
              refine e_ret1 (v := .bool true) Try.results27 rfl ?_
              refine ⟨_, rfl, ?_⟩
              exact ⟨rfl, H.sub (List.nil_sublist _)⟩
          ·
           have he108 : ∃ c, (numF 0 g.l)[m13]? = some c := ⟨_, List.getElem?_eq_getElem (by have := ((H.glOwn (i := 4) rfl (by decide) hNs)).ln; (try dsimp only at this ⊢); omega)⟩
           obtain ⟨e107, he108⟩ := he108
           have hez109 := ((H.glOwn (i := 4) rfl (by decide) hNs)).sz e107 (List.mem_of_getElem? he108)
           refine (o_val (r_ldRow (s := (⟨hd a11, g.len, c12, numF 0 g.l⟩ : Gl Ent)) (k := m13) (H.glOwn (i := 4) rfl (by decide) hNs) ah89 rfl rt95 (by decide) he108) ?_)
           refine ⟨H.sub (.cons_cons _ (.cons_cons _ (.cons_cons _ (.cons_cons _ (List.nil_sublist _))))), ?_⟩
           replace HS := H.sub (.cons_cons _ (.cons_cons _ (.cons_cons _ (.cons_cons _ (List.nil_sublist _)))))
           have he111 : ∃ c, (numF 0 g.l)[m16]? = some c := ⟨_, List.getElem?_eq_getElem (by have := ((H.glOwn (i := 4) rfl (by decide) hNs)).ln; (try dsimp only at this ⊢); omega)⟩
           obtain ⟨e110, he111⟩ := he111
           have hez112 := ((H.glOwn (i := 4) rfl (by decide) hNs)).sz e110 (List.mem_of_getElem? he111)
           refine t_step 7 rfl (by kernel_rfl) (o_val (r_ldRow (s := (⟨hd a11, g.len, c12, numF 0 g.l⟩ : Gl Ent)) (k := m16) (H.glOwn (i := 4) rfl (by decide) hNs) ah89 rfl rt95 (by decide) he111) ?_)
           refine ⟨H.sub (.cons_cons _ (.cons_cons _ (.cons_cons _ (.cons_cons _ (List.nil_sublist _))))), ?_⟩
           replace HS := H.sub (.cons_cons _ (.cons_cons _ (.cons_cons _ (.cons_cons _ (List.nil_sublist _)))))
           refine t_take 12 rfl (by kernel_rfl) (by kernel_rfl) (by kernel_rfl) (fun _ _ _ h => h) (fun w HS => r_isN m13 rfl rfl el97 ah89 (by omega) (by (try simp only [Sl.cut]); omega)) HS ?_
           have hg113 := ((H.glOwn (i := 4) rfl (by decide) hNs)).ln
           refine t_step 13 rfl (by kernel_rfl) (o_stG (enc := entE) (c := e110) (k := m13) H (i := 4) rfl hNs rfl ah89 rfl cs95 (ent_len (show (e110.of_).length = 32 from (ent_of hez112))) (ent_all _) (by dsimp only at hg113; omega) (fun w H => ?_))
           replace H : Hp _ w _ ([_, _, _, _, .own a11 g.len c12 (((numF 0 g.l).set m13 e110).flatMap entE) 95 38]) := H
           refine ⟨H.sub (.cons_cons _ (.cons_cons _ (.cons_cons _ (.cons_cons _ (List.nil_sublist _))))), ?_⟩
           replace HS := H.sub (.cons_cons _ (.cons_cons _ (.cons_cons _ (.cons_cons _ (List.nil_sublist _)))))
           refine t_take 14 rfl (by kernel_rfl) (by kernel_rfl) (by kernel_rfl) (fun _ _ _ h => h) (fun w HS => r_isN m16 rfl rfl el97 ah89 (by omega) (by (try simp only [Sl.cut]); omega)) HS ?_
           have hg114 := ((H.glOwn (i := 4) rfl (by decide) (all_set hNs (ent_len (show (e110.of_).length = 32 from (ent_of hez112)))))).ln
           refine t_step 15 rfl (by kernel_rfl) (o_stG (enc := entE) (c := e107) (k := m16) H (i := 4) rfl (all_set hNs (ent_len (show (e110.of_).length = 32 from (ent_of hez112)))) rfl ah89 rfl cs95 (ent_len (show (e107.of_).length = 32 from (ent_of hez109))) (ent_all _) (by dsimp only at hg114; omega) (fun w H => ?_))
           replace H : Hp _ w _ ([_, _, _, _, .own a11 g.len c12 ((((numF 0 g.l).set m13 e110).set m16 e107).flatMap entE) 95 38]) := H
           refine ⟨H.sub (.cons_cons _ (.cons_cons _ (.cons_cons _ (.cons_cons _ (List.nil_sublist _))))), ?_⟩
           replace HS := H.sub (.cons_cons _ (.cons_cons _ (.cons_cons _ (.cons_cons _ (List.nil_sublist _)))))
           refine t_done (by kernel_rfl) ?_
           clear HS
           have hMb : ∀ c ∈ ((numF 0 g.l).set m13 e110).set m16 e107, c.bd := (all_set (p := Ent.bd) (all_set (p := Ent.bd) hNb (hNb _ (List.mem_of_getElem? he111))) (hNb _ (List.mem_of_getElem? he108)))
           have hMs : ∀ c ∈ ((numF 0 g.l).set m13 e110).set m16 e107, (entE c).length = 38 := ((H.glOwn (i := 4) rfl (by decide) (all_set (all_set hNs (ent_len (show (e110.of_).length = 32 from (ent_of hez112)))) (ent_len (show (e107.of_).length = 32 from (ent_of hez109)))))).sz
           have hMl : (((numF 0 g.l).set m13 e110).set m16 e107).length = g.len := ((H.glOwn (i := 4) rfl (by decide) (all_set (all_set hNs (ent_len (show (e110.of_).length = 32 from (ent_of hez112)))) (ent_len (show (e107.of_).length = 32 from (ent_of hez109)))))).ln
           repeat refine c_seq ?_
           refine c_region ?_
           refine l_op (o_val (r_mv) ?_)
           refine l_op (o_callR Try.func93 rfl rfl rfl (numbered_ret _ ⟨hd a11, g.len, c12, ((numF 0 g.l).set m13 e110).set m16 e107⟩ (H.glOwn (i := 4) rfl (by decide) (all_set (all_set hNs (ent_len (show (e110.of_).length = 32 from (ent_of hez112)))) (ent_len (show (e107.of_).length = 32 from (ent_of hez109))))) (show g.len ≤ 65536 by omega)) ?_)
           rintro _ w ⟨a115, c116, rfl, Hc⟩
           replace H : Hp _ w _ ([_, _, _, _, _, .own a115 g.len c116 ((numF 0 (((numF 0 g.l).set m13 e110).set m16 e107)).flatMap entE) 95 38]) := H.call Hc
           clear Hc
           refine l_op (o_val (r_as) ?_)
           first | refine l_end ?_ | refine l_nil ?_
           repeat refine c_seq ?_
           refine c_region ?_
           refine l_op (o_val (r_mv) ?_)
           refine l_op (o_callR Try.func94 rfl rfl rfl (aHead_ret _ ⟨hd a115, g.len, c116, numF 0 (((numF 0 g.l).set m13 e110).set m16 e107)⟩ (H.glOwn (i := 5) rfl (by decide) (numF_of _ (by omega) hMs)) (numF_bd _ (by omega) hMb) (by (try dsimp only); omega)) ?_)
           rintro _ w ⟨rfl, Hc⟩
           replace H : Hp _ w _ ([_, _, _, _, _, _]) := H.call Hc
           clear Hc
           refine l_op (o_val (r_mv) ?_)
           refine l_op (o_val (r_ext rfl rfl) ?_)
           refine l_op (o_val (r_ext rfl rfl) ?_)
           refine l_op (o_alloc H zc31 (fun b117 w H hb117 => ?_))
           replace H : Hp _ w _ ([_, _, _, _, _, _, .blk b117 ((List.replicate 32 (0 : UInt8)).map V8) 31]) := H
           refine l_op (o_stA (l' := headV (numF 0 (((numF 0 g.l).set m13 e110).set m16 e107))) H (i := 6) rfl rfl rfl cs31 (show (List.replicate 32 (0 : UInt8)).length = 32 from (List.length_replicate ..)) (show (headV (numF 0 (((numF 0 g.l).set m13 e110).set m16 e107))).length = 32 from (headV_len _)) (fun w H => ?_))
           replace H : Hp _ w _ ([_, _, _, _, _, _, .blk b117 ((headV (numF 0 (((numF 0 g.l).set m13 e110).set m16 e107))).map V8) 31]) := H
           refine l_op (o_val (r_as) ?_)
           first | refine l_end ?_ | refine l_nil ?_
           repeat refine c_seq ?_
           refine c_region ?_
           refine l_op (o_val (r_mv) ?_)
           refine l_op (o_val (r_bin (a := ((headC (numF 0 (((numF 0 g.l).set m13 e110).set m16 e107)) : Nat) : Int)) (b := 0) rfl rfl (fun _ => b_neq)) ?_)
           first | refine l_end ?_ | refine l_nil ?_
           by_cases hc118 : ((headC (numF 0 (((numF 0 g.l).set m13 e110).set m16 e107)) : Nat) : Int) ≠ 0
           ·
            repeat refine c_seq ?_
            refine c_yes (by exact congrArg Value.bool (decide_eq_true hc118)) ?_
            repeat refine c_seq ?_
            refine c_region ?_
            refine l_op (o_val (r_as) ?_)
            first | refine l_end ?_ | refine l_nil ?_
            refine c_ret ?_
            try dsimp only [Exit.then, Exit.inBlock]
            refine e_ret1 (v := .bool true) Try.results27 rfl ?_
            refine ⟨_, rfl, ?_⟩
            exact ⟨rfl, H.sub (List.nil_sublist _)⟩
           ·
            repeat refine c_seq ?_
            refine c_no (by exact congrArg Value.bool (decide_eq_false hc118)) ?_
            refine c_skip ?_
            have hM0 : headC (numF 0 (((numF 0 g.l).set m13 e110).set m16 e107)) = 0 := by omega
            have hNg : ∀ c ∈ numF 0 g.l, c.good := fun c hc => ⟨List.all_eq_true.1 ((headC_iff _).1 hN0).1 c hc, hNb c hc, ent_of (hNs c hc)⟩
            have hPb : ∀ c ∈ numF 0 (((numF 0 g.l).set m13 e110).set m16 e107), c.bd := numF_bd _ (by omega) hMb
            have hPs : ∀ c ∈ numF 0 (((numF 0 g.l).set m13 e110).set m16 e107), (entE c).length = 38 := numF_of _ (by omega) hMs
            have hPg : ∀ c ∈ numF 0 (((numF 0 g.l).set m13 e110).set m16 e107), c.good := fun c hc => ⟨List.all_eq_true.1 ((headC_iff _).1 hM0).1 c hc, hPb c hc, ent_of (hPs c hc)⟩
            have hvN : headV (numF 0 g.l) = headF (numF 0 g.l) := by rw [headV, if_pos hN0]
            have hvM : headV (numF 0 (((numF 0 g.l).set m13 e110).set m16 e107)) = headF (numF 0 (((numF 0 g.l).set m13 e110).set m16 e107)) := by rw [headV, if_pos hM0]
            repeat refine c_seq ?_
            refine c_region ?_
            refine l_op (o_val (r_mv) ?_)
            refine l_op (o_val (r_mv) ?_)
            refine l_op (o_callR Try.func100 rfl rfl rfl (same_ret _ ⟨hd a5, g.len, c6, numF 0 g.l⟩ ⟨hd a115, g.len, c116, numF 0 (((numF 0 g.l).set m13 e110).set m16 e107)⟩ (H.glOwn (i := 2) rfl (by decide) (numF_of _ (by omega) hg.sz)) (H.glOwn (i := 5) rfl (by decide) (numF_of _ (by omega) hMs))) ?_)
            rintro _ w ⟨rfl, Hc⟩
            replace H : Hp _ w _ ([_, _, _, _, _, _, _]) := H.call Hc
            clear Hc
            first | refine l_end ?_ | refine l_nil ?_
            by_cases hc119 : numF 0 g.l = numF 0 (((numF 0 g.l).set m13 e110).set m16 e107)
            ·
             repeat refine c_seq ?_
             refine c_yes (by exact congrArg Value.bool (decide_eq_true hc119)) ?_
             repeat refine c_seq ?_
             refine c_region ?_
             refine l_op (o_val (r_ldAA (l := headV (numF 0 g.l)) H (i := 3) rfl rfl rt31 (show (headV (numF 0 g.l)).length = 32 from (headV_len _))) ?_)
             refine l_op (o_val (r_ldAA (l := headV (numF 0 (((numF 0 g.l).set m13 e110).set m16 e107))) H (i := 6) rfl rfl rt31 (show (headV (numF 0 (((numF 0 g.l).set m13 e110).set m16 e107))).length = 32 from (headV_len _))) ?_)
             refine l_op (o_val (r_eqa (a := headV (numF 0 g.l)) (b := headV (numF 0 (((numF 0 g.l).set m13 e110).set m16 e107))) Try.underlying31 Try.underlying5 cs5 rfl rfl (show (headV (numF 0 g.l)).length = 32 from (headV_len _)) (show (headV (numF 0 (((numF 0 g.l).set m13 e110).set m16 e107))).length = 32 from (headV_len _))) ?_)
             have hk120 : (decide (headV (numF 0 g.l) = headV (numF 0 (((numF 0 g.l).set m13 e110).set m16 e107)))) = true := (decide_eq_true (by rw [← of_decide_eq_true (decide_eq_true hc119)]))
             refine l_op (o_val (r_as) ?_)
             first | refine l_end ?_ | refine l_nil ?_
             refine c_ret ?_
             try dsimp only [Exit.then, Exit.inBlock]
             refine e_ret1 (v := .bool (decide (headV (numF 0 g.l) = headV (numF 0 (((numF 0 g.l).set m13 e110).set m16 e107))))) Try.results27 rfl ?_
             refine ⟨_, rfl, ?_⟩
             exact ⟨congrArg Value.bool hk120, H.sub (List.nil_sublist _)⟩
            ·
             repeat refine c_seq ?_
             refine c_no (by exact congrArg Value.bool (decide_eq_false hc119)) ?_
             refine c_skip ?_
             repeat refine c_seq ?_
             refine c_region ?_
             refine l_op (o_val (r_ldAA (l := headV (numF 0 g.l)) H (i := 3) rfl rfl rt31 (show (headV (numF 0 g.l)).length = 32 from (headV_len _))) ?_)
             refine l_op (o_val (r_ldAA (l := headV (numF 0 (((numF 0 g.l).set m13 e110).set m16 e107))) H (i := 6) rfl rfl rt31 (show (headV (numF 0 (((numF 0 g.l).set m13 e110).set m16 e107))).length = 32 from (headV_len _))) ?_)
             refine l_op (o_val (r_nea (a := headV (numF 0 g.l)) (b := headV (numF 0 (((numF 0 g.l).set m13 e110).set m16 e107))) Try.underlying31 Try.underlying5 cs5 rfl rfl (show (headV (numF 0 g.l)).length = 32 from (headV_len _)) (show (headV (numF 0 (((numF 0 g.l).set m13 e110).set m16 e107))).length = 32 from (headV_len _))) ?_)
             refine l_op (o_val (r_mv) ?_)
             by_cases hc121 : headV (numF 0 g.l) = headV (numF 0 (((numF 0 g.l).set m13 e110).set m16 e107))
             ·
              refine l_yes rfl rfl (by exact congrArg Value.bool (congrArg not (decide_eq_true hc121))) (o_val (r_mv) ?_)
              refine l_yes rfl rfl (by exact congrArg Value.bool (congrArg not (decide_eq_true hc121))) (o_val (r_mv) ?_)
              refine l_yes rfl rfl (by exact congrArg Value.bool (congrArg not (decide_eq_true hc121))) (o_callR Try.func101 rfl rfl rfl (collides_ret _ ⟨hd a5, g.len, c6, numF 0 g.l⟩ ⟨hd a115, g.len, c116, numF 0 (((numF 0 g.l).set m13 e110).set m16 e107)⟩ (H.glOwn (i := 2) rfl (by decide) (numF_of _ (by omega) hg.sz)) (H.glOwn (i := 5) rfl (by decide) (numF_of _ (by omega) hMs)) hNg hPg (by (try dsimp only); omega) (by (try dsimp only); omega)) ?_)
              rintro _ w ⟨rfl, Hc⟩
              replace H : Hp _ w _ ([_, _, _, _, _, _, _]) := H.call Hc
              clear Hc
              refine l_op (o_val (r_pick (b := false) (congrArg Value.bool (congrArg not (decide_eq_true hc121)))) ?_)
              refine l_op (o_val (r_mv) ?_)
              have hc1220 := Bool.eq_false_or_eq_true (collF (textF Z32a (numF 0 g.l)) (textF Z32a (numF 0 (((numF 0 g.l).set m13 e110).set m16 e107))))
              rcases hc1220 with hc122 | hc122
              ·
               refine l_no rfl rfl (by exact congrArg Value.bool hc122) rfl ?_
               refine l_no rfl rfl (by exact congrArg Value.bool hc122) rfl ?_
               refine l_no rfl rfl (by exact congrArg Value.bool hc122) rfl ?_
               refine l_op (o_val (r_pick (b := true) (congrArg Value.bool hc122)) ?_)
               refine l_op (o_val (r_as) ?_)
               first | refine l_end ?_ | refine l_nil ?_
               refine c_ret ?_
               try dsimp only [Exit.then, Exit.inBlock]
               refine e_ret1 (v := .bool true) Try.results27 rfl ?_
               refine ⟨_, rfl, ?_⟩
               exact ⟨rfl, H.sub (List.nil_sublist _)⟩
              ·
               refine l_yes rfl rfl (by exact congrArg Value.bool hc122) (o_val (r_ldAA (l := headV (numF 0 g.l)) H (i := 3) rfl rfl rt31 (show (headV (numF 0 g.l)).length = 32 from (headV_len _))) ?_)
               refine l_yes rfl rfl (by exact congrArg Value.bool hc122) (o_val (r_bld' (pv := []) bd31 rfl rfl) ?_)
               refine l_yes rfl rfl (by exact congrArg Value.bool hc122) (o_val (r_eqa (a := headV (numF 0 g.l)) (b := List.replicate 32 (0 : UInt8)) Try.underlying31 Try.underlying5 cs5 rfl rfl (show (headV (numF 0 g.l)).length = 32 from (headV_len _)) (show (List.replicate 32 (0 : UInt8)).length = 32 from (List.length_replicate ..))) ?_)
               have hk123 : (decide (headV (numF 0 g.l) = List.replicate 32 (0 : UInt8))) = true := (decide_eq_true (Classical.byContradiction fun hz => by
                     have hcc := tamper _ _ hNg hPg (numF_numb 0 _) (numF_numb 0 _) (by rw [← hvN, ← hvM]; exact of_decide_eq_true (decide_eq_true hc121)) (by rw [← hvN]; exact hz) (of_decide_eq_false (decide_eq_false hc119))
                     rw [hcc] at hc122
                     cases hc122))
               refine l_op (o_val (r_pick (b := false) (congrArg Value.bool hc122)) ?_)
               refine l_op (o_val (r_as) ?_)
               first | refine l_end ?_ | refine l_nil ?_
               refine c_ret ?_
               try dsimp only [Exit.then, Exit.inBlock]
               refine e_ret1 (v := .bool (decide (headV (numF 0 g.l) = List.replicate 32 (0 : UInt8)))) Try.results27 rfl ?_
               refine ⟨_, rfl, ?_⟩
               exact ⟨congrArg Value.bool hk123, H.sub (List.nil_sublist _)⟩
             ·
              refine l_no rfl rfl (by exact congrArg Value.bool (congrArg not (decide_eq_false hc121))) rfl ?_
              refine l_no rfl rfl (by exact congrArg Value.bool (congrArg not (decide_eq_false hc121))) rfl ?_
              refine l_no rfl rfl (by exact congrArg Value.bool (congrArg not (decide_eq_false hc121))) rfl ?_
              refine l_op (o_val (r_pick (b := true) (congrArg Value.bool (congrArg not (decide_eq_false hc121)))) ?_)
              refine l_op (o_val (r_mv) ?_)
              refine l_no rfl rfl rfl rfl ?_
              refine l_no rfl rfl rfl rfl ?_
              refine l_no rfl rfl rfl rfl ?_
              refine l_op (o_val (r_pick rfl) ?_)
              refine l_op (o_val (r_as) ?_)
              first | refine l_end ?_ | refine l_nil ?_
              refine c_ret ?_
              try dsimp only [Exit.then, Exit.inBlock]
              refine e_ret1 (v := .bool true) Try.results27 rfl ?_
              refine ⟨_, rfl, ?_⟩
              exact ⟨rfl, H.sub (List.nil_sublist _)⟩
        ·
         repeat refine c_seq ?_
         refine c_no (by exact congrArg Value.bool (decide_eq_false hc51)) ?_
         repeat refine c_seq ?_
         refine c_region ?_
         refine l_op (o_val (r_mv) ?_)
         refine l_op (o_val (r_mv) ?_)
         have hol124 := (H.ownLen (i := 4) rfl).2.1
         refine l_op (o_val (r_slG (s := ⟨hd a11, g.len, c12, numF 0 g.l⟩) 0 m13 c12 (lv := none) (hv := some (VI (m13 : Int))) (mv := none) rfl el97 rfl rfl rfl (fun w => by exact sbh m13 (by omega) (by (try simp only []); omega) w)) ?_)
         refine l_op (o_val (r_as) ?_)
         first | refine l_end ?_ | refine l_nil ?_
         have hMb : ∀ c ∈ ((numF 0 g.l).drop 0).take (m13), c.bd := (all_cut (p := Ent.bd) hNb)
         have hMs : ∀ c ∈ ((numF 0 g.l).drop 0).take (m13), (entE c).length = 38 := (((H.glOwn (i := 4) rfl (by decide) hNs).cut (l := 0) (h := m13) (m := c12) (by omega) (by (try simp only []); omega) (by omega) (by (try simp only []); omega))).sz
         have hMl : (((numF 0 g.l).drop 0).take (m13)).length = m13 := (((H.glOwn (i := 4) rfl (by decide) hNs).cut (l := 0) (h := m13) (m := c12) (by omega) (by (try simp only []); omega) (by omega) (by (try simp only []); omega))).ln
         repeat refine c_seq ?_
         refine c_region ?_
         refine l_op (o_val (r_mv) ?_)
         refine l_op (o_callR Try.func93 rfl rfl rfl (numbered_ret _ (Gl.cut ⟨hd a11, g.len, c12, numF 0 g.l⟩ 38 0 m13 c12) ((H.glOwn (i := 4) rfl (by decide) hNs).cut (l := 0) (h := m13) (m := c12) (by omega) (by (try simp only []); omega) (by omega) (by (try simp only []); omega)) (show m13 ≤ 65536 by omega)) ?_)
         rintro _ w ⟨a125, c126, rfl, Hc⟩
         replace H : Hp _ w _ ([_, _, _, _, _, .own a125 m13 c126 ((numF 0 (((numF 0 g.l).drop 0).take (m13))).flatMap entE) 95 38]) := H.call Hc
         clear Hc
         refine l_op (o_val (r_as) ?_)
         first | refine l_end ?_ | refine l_nil ?_
         repeat refine c_seq ?_
         refine c_region ?_
         refine l_op (o_val (r_mv) ?_)
         refine l_op (o_callR Try.func94 rfl rfl rfl (aHead_ret _ ⟨hd a125, m13, c126, numF 0 (((numF 0 g.l).drop 0).take (m13))⟩ (H.glOwn (i := 5) rfl (by decide) (numF_of _ (by omega) hMs)) (numF_bd _ (by omega) hMb) (by (try dsimp only); omega)) ?_)
         rintro _ w ⟨rfl, Hc⟩
         replace H : Hp _ w _ ([_, _, _, _, _, _]) := H.call Hc
         clear Hc
         refine l_op (o_val (r_mv) ?_)
         refine l_op (o_val (r_ext rfl rfl) ?_)
         refine l_op (o_val (r_ext rfl rfl) ?_)
         refine l_op (o_alloc H zc31 (fun b127 w H hb127 => ?_))
         replace H : Hp _ w _ ([_, _, _, _, _, _, .blk b127 ((List.replicate 32 (0 : UInt8)).map V8) 31]) := H
         refine l_op (o_stA (l' := headV (numF 0 (((numF 0 g.l).drop 0).take (m13)))) H (i := 6) rfl rfl rfl cs31 (show (List.replicate 32 (0 : UInt8)).length = 32 from (List.length_replicate ..)) (show (headV (numF 0 (((numF 0 g.l).drop 0).take (m13)))).length = 32 from (headV_len _)) (fun w H => ?_))
         replace H : Hp _ w _ ([_, _, _, _, _, _, .blk b127 ((headV (numF 0 (((numF 0 g.l).drop 0).take (m13)))).map V8) 31]) := H
         refine l_op (o_val (r_as) ?_)
         first | refine l_end ?_ | refine l_nil ?_
         repeat refine c_seq ?_
         refine c_region ?_
         refine l_op (o_val (r_mv) ?_)
         refine l_op (o_val (r_bin (a := ((headC (numF 0 (((numF 0 g.l).drop 0).take (m13))) : Nat) : Int)) (b := 0) rfl rfl (fun _ => b_neq)) ?_)
         first | refine l_end ?_ | refine l_nil ?_
         by_cases hc128 : ((headC (numF 0 (((numF 0 g.l).drop 0).take (m13))) : Nat) : Int) ≠ 0
         ·
          repeat refine c_seq ?_
          refine c_yes (by exact congrArg Value.bool (decide_eq_true hc128)) ?_
          repeat refine c_seq ?_
          refine c_region ?_
          refine l_op (o_val (r_as) ?_)
          first | refine l_end ?_ | refine l_nil ?_
          refine c_ret ?_
          try dsimp only [Exit.then, Exit.inBlock]
          refine e_ret1 (v := .bool true) Try.results27 rfl ?_
          refine ⟨_, rfl, ?_⟩
          exact ⟨rfl, H.sub (List.nil_sublist _)⟩
         ·
          repeat refine c_seq ?_
          refine c_no (by exact congrArg Value.bool (decide_eq_false hc128)) ?_
          refine c_skip ?_
          have hM0 : headC (numF 0 (((numF 0 g.l).drop 0).take (m13))) = 0 := by omega
          have hNg : ∀ c ∈ numF 0 g.l, c.good := fun c hc => ⟨List.all_eq_true.1 ((headC_iff _).1 hN0).1 c hc, hNb c hc, ent_of (hNs c hc)⟩
          have hPb : ∀ c ∈ numF 0 (((numF 0 g.l).drop 0).take (m13)), c.bd := numF_bd _ (by omega) hMb
          have hPs : ∀ c ∈ numF 0 (((numF 0 g.l).drop 0).take (m13)), (entE c).length = 38 := numF_of _ (by omega) hMs
          have hPg : ∀ c ∈ numF 0 (((numF 0 g.l).drop 0).take (m13)), c.good := fun c hc => ⟨List.all_eq_true.1 ((headC_iff _).1 hM0).1 c hc, hPb c hc, ent_of (hPs c hc)⟩
          have hvN : headV (numF 0 g.l) = headF (numF 0 g.l) := by rw [headV, if_pos hN0]
          have hvM : headV (numF 0 (((numF 0 g.l).drop 0).take (m13))) = headF (numF 0 (((numF 0 g.l).drop 0).take (m13))) := by rw [headV, if_pos hM0]
          repeat refine c_seq ?_
          refine c_region ?_
          refine l_op (o_val (r_mv) ?_)
          refine l_op (o_val (r_mv) ?_)
          refine l_op (o_callR Try.func100 rfl rfl rfl (same_ret _ ⟨hd a5, g.len, c6, numF 0 g.l⟩ ⟨hd a125, m13, c126, numF 0 (((numF 0 g.l).drop 0).take (m13))⟩ (H.glOwn (i := 2) rfl (by decide) (numF_of _ (by omega) hg.sz)) (H.glOwn (i := 5) rfl (by decide) (numF_of _ (by omega) hMs))) ?_)
          rintro _ w ⟨rfl, Hc⟩
          replace H : Hp _ w _ ([_, _, _, _, _, _, _]) := H.call Hc
          clear Hc
          first | refine l_end ?_ | refine l_nil ?_
          by_cases hc129 : numF 0 g.l = numF 0 (((numF 0 g.l).drop 0).take (m13))
          ·
           repeat refine c_seq ?_
           refine c_yes (by exact congrArg Value.bool (decide_eq_true hc129)) ?_
           repeat refine c_seq ?_
           refine c_region ?_
           refine l_op (o_val (r_ldAA (l := headV (numF 0 g.l)) H (i := 3) rfl rfl rt31 (show (headV (numF 0 g.l)).length = 32 from (headV_len _))) ?_)
           refine l_op (o_val (r_ldAA (l := headV (numF 0 (((numF 0 g.l).drop 0).take (m13)))) H (i := 6) rfl rfl rt31 (show (headV (numF 0 (((numF 0 g.l).drop 0).take (m13)))).length = 32 from (headV_len _))) ?_)
           refine l_op (o_val (r_eqa (a := headV (numF 0 g.l)) (b := headV (numF 0 (((numF 0 g.l).drop 0).take (m13)))) Try.underlying31 Try.underlying5 cs5 rfl rfl (show (headV (numF 0 g.l)).length = 32 from (headV_len _)) (show (headV (numF 0 (((numF 0 g.l).drop 0).take (m13)))).length = 32 from (headV_len _))) ?_)
           have hk130 : (decide (headV (numF 0 g.l) = headV (numF 0 (((numF 0 g.l).drop 0).take (m13))))) = true := (decide_eq_true (by rw [← of_decide_eq_true (decide_eq_true hc129)]))
           refine l_op (o_val (r_as) ?_)
           first | refine l_end ?_ | refine l_nil ?_
           refine c_ret ?_
           try dsimp only [Exit.then, Exit.inBlock]
           refine e_ret1 (v := .bool (decide (headV (numF 0 g.l) = headV (numF 0 (((numF 0 g.l).drop 0).take (m13)))))) Try.results27 rfl ?_
           refine ⟨_, rfl, ?_⟩
           exact ⟨congrArg Value.bool hk130, H.sub (List.nil_sublist _)⟩
          ·
           repeat refine c_seq ?_
           refine c_no (by exact congrArg Value.bool (decide_eq_false hc129)) ?_
           refine c_skip ?_
           repeat refine c_seq ?_
           refine c_region ?_
           refine l_op (o_val (r_ldAA (l := headV (numF 0 g.l)) H (i := 3) rfl rfl rt31 (show (headV (numF 0 g.l)).length = 32 from (headV_len _))) ?_)
           refine l_op (o_val (r_ldAA (l := headV (numF 0 (((numF 0 g.l).drop 0).take (m13)))) H (i := 6) rfl rfl rt31 (show (headV (numF 0 (((numF 0 g.l).drop 0).take (m13)))).length = 32 from (headV_len _))) ?_)
           refine l_op (o_val (r_nea (a := headV (numF 0 g.l)) (b := headV (numF 0 (((numF 0 g.l).drop 0).take (m13)))) Try.underlying31 Try.underlying5 cs5 rfl rfl (show (headV (numF 0 g.l)).length = 32 from (headV_len _)) (show (headV (numF 0 (((numF 0 g.l).drop 0).take (m13)))).length = 32 from (headV_len _))) ?_)
           refine l_op (o_val (r_mv) ?_)
           by_cases hc131 : headV (numF 0 g.l) = headV (numF 0 (((numF 0 g.l).drop 0).take (m13)))
           ·
            refine l_yes rfl rfl (by exact congrArg Value.bool (congrArg not (decide_eq_true hc131))) (o_val (r_mv) ?_)
            refine l_yes rfl rfl (by exact congrArg Value.bool (congrArg not (decide_eq_true hc131))) (o_val (r_mv) ?_)
            refine l_yes rfl rfl (by exact congrArg Value.bool (congrArg not (decide_eq_true hc131))) (o_callR Try.func101 rfl rfl rfl (collides_ret _ ⟨hd a5, g.len, c6, numF 0 g.l⟩ ⟨hd a125, m13, c126, numF 0 (((numF 0 g.l).drop 0).take (m13))⟩ (H.glOwn (i := 2) rfl (by decide) (numF_of _ (by omega) hg.sz)) (H.glOwn (i := 5) rfl (by decide) (numF_of _ (by omega) hMs)) hNg hPg (by (try dsimp only); omega) (by (try dsimp only); omega)) ?_)
            rintro _ w ⟨rfl, Hc⟩
            replace H : Hp _ w _ ([_, _, _, _, _, _, _]) := H.call Hc
            clear Hc
            refine l_op (o_val (r_pick (b := false) (congrArg Value.bool (congrArg not (decide_eq_true hc131)))) ?_)
            refine l_op (o_val (r_mv) ?_)
            have hc1320 := Bool.eq_false_or_eq_true (collF (textF Z32a (numF 0 g.l)) (textF Z32a (numF 0 (((numF 0 g.l).drop 0).take (m13)))))
            rcases hc1320 with hc132 | hc132
            ·
             refine l_no rfl rfl (by exact congrArg Value.bool hc132) rfl ?_
             refine l_no rfl rfl (by exact congrArg Value.bool hc132) rfl ?_
             refine l_no rfl rfl (by exact congrArg Value.bool hc132) rfl ?_
             refine l_op (o_val (r_pick (b := true) (congrArg Value.bool hc132)) ?_)
             refine l_op (o_val (r_as) ?_)
             first | refine l_end ?_ | refine l_nil ?_
             refine c_ret ?_
             try dsimp only [Exit.then, Exit.inBlock]
             refine e_ret1 (v := .bool true) Try.results27 rfl ?_
             refine ⟨_, rfl, ?_⟩
             exact ⟨rfl, H.sub (List.nil_sublist _)⟩
            ·
             refine l_yes rfl rfl (by exact congrArg Value.bool hc132) (o_val (r_ldAA (l := headV (numF 0 g.l)) H (i := 3) rfl rfl rt31 (show (headV (numF 0 g.l)).length = 32 from (headV_len _))) ?_)
             refine l_yes rfl rfl (by exact congrArg Value.bool hc132) (o_val (r_bld' (pv := []) bd31 rfl rfl) ?_)
             refine l_yes rfl rfl (by exact congrArg Value.bool hc132) (o_val (r_eqa (a := headV (numF 0 g.l)) (b := List.replicate 32 (0 : UInt8)) Try.underlying31 Try.underlying5 cs5 rfl rfl (show (headV (numF 0 g.l)).length = 32 from (headV_len _)) (show (List.replicate 32 (0 : UInt8)).length = 32 from (List.length_replicate ..))) ?_)
             have hk133 : (decide (headV (numF 0 g.l) = List.replicate 32 (0 : UInt8))) = true := (decide_eq_true (Classical.byContradiction fun hz => by
                   have hcc := tamper _ _ hNg hPg (numF_numb 0 _) (numF_numb 0 _) (by rw [← hvN, ← hvM]; exact of_decide_eq_true (decide_eq_true hc131)) (by rw [← hvN]; exact hz) (of_decide_eq_false (decide_eq_false hc129))
                   rw [hcc] at hc132
                   cases hc132))
             refine l_op (o_val (r_pick (b := false) (congrArg Value.bool hc132)) ?_)
             refine l_op (o_val (r_as) ?_)
             first | refine l_end ?_ | refine l_nil ?_
             refine c_ret ?_
             try dsimp only [Exit.then, Exit.inBlock]
             refine e_ret1 (v := .bool (decide (headV (numF 0 g.l) = List.replicate 32 (0 : UInt8)))) Try.results27 rfl ?_
             refine ⟨_, rfl, ?_⟩
             exact ⟨congrArg Value.bool hk133, H.sub (List.nil_sublist _)⟩
           ·
            refine l_no rfl rfl (by exact congrArg Value.bool (congrArg not (decide_eq_false hc131))) rfl ?_
            refine l_no rfl rfl (by exact congrArg Value.bool (congrArg not (decide_eq_false hc131))) rfl ?_
            refine l_no rfl rfl (by exact congrArg Value.bool (congrArg not (decide_eq_false hc131))) rfl ?_
            refine l_op (o_val (r_pick (b := true) (congrArg Value.bool (congrArg not (decide_eq_false hc131)))) ?_)
            refine l_op (o_val (r_mv) ?_)
            refine l_no rfl rfl rfl rfl ?_
            refine l_no rfl rfl rfl rfl ?_
            refine l_no rfl rfl rfl rfl ?_
            refine l_op (o_val (r_pick rfl) ?_)
            refine l_op (o_val (r_as) ?_)
            first | refine l_end ?_ | refine l_nil ?_
            refine c_ret ?_
            try dsimp only [Exit.then, Exit.inBlock]
            refine e_ret1 (v := .bool true) Try.results27 rfl ?_
            refine ⟨_, rfl, ?_⟩
            exact ⟨rfl, H.sub (List.nil_sublist _)⟩
   ·
    repeat refine c_seq ?_
    refine c_yes (by exact congrArg Value.bool (congrArg not hc4)) ?_
    repeat refine c_seq ?_
    refine c_region ?_
    refine l_op (o_val (r_as) ?_)
    first | refine l_end ?_ | refine l_nil ?_
    refine c_ret ?_
    try dsimp only [Exit.then, Exit.inBlock]
    refine e_ret1 (v := .bool true) Try.results27 rfl ?_
    refine ⟨_, rfl, ?_⟩
    exact ⟨rfl, H.sub (List.nil_sublist _)⟩
  ·
   refine l_no rfl rfl (by exact congrArg Value.bool (congrArg not hc2)) rfl ?_
   refine l_no rfl rfl (by exact congrArg Value.bool (congrArg not hc2)) rfl ?_
   refine l_no rfl rfl (by exact congrArg Value.bool (congrArg not hc2)) rfl ?_
   refine l_no rfl rfl (by exact congrArg Value.bool (congrArg not hc2)) rfl ?_
   refine l_op (o_val (r_pick (b := true) (congrArg Value.bool (congrArg not hc2))) ?_)
   first | refine l_end ?_ | refine l_nil ?_
   repeat refine c_seq ?_
   refine c_yes rfl ?_
   repeat refine c_seq ?_
   refine c_region ?_
   refine l_op (o_val (r_as) ?_)
   first | refine l_end ?_ | refine l_nil ?_
   refine c_ret ?_
   try dsimp only [Exit.then, Exit.inBlock]
   refine e_ret1 (v := .bool true) Try.results27 rfl ?_
   refine ⟨_, rfl, ?_⟩
   exact ⟨rfl, H.sub (List.nil_sublist _)⟩
end Go.Proofs.Ytjmbbhnpfmblpaa
