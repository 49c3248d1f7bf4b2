/- Lemmas for the statement StateUsed, part 3: rules of operations, walks through functions, plain laws. -/
import Derived.Test.YthigalfaanccnaaGreatStateUsedG2
import Derived.DeepKeys3
import Derived.Lib.AppendZeros
import Derived.RangeFuncLeaves
import Derived.RangeFuncSeq
namespace Go.Proofs.YthigalfaanccnaaGreat
open Go
set_option maxRecDepth 100000
def mMay (m : Mf) : Bool := decide (0 ≤ m.time ∧ m.label.length ≤ 64 ∧ ∀ j, j < m.label.length → 32 ≤ (m.label.getD j 0).toNat ∧ (m.label.getD j 0).toNat ≤ 126)
theorem mMay_iff (m : Mf) : mMay m = true ↔ 0 ≤ m.time ∧ m.label.length ≤ 64 ∧ ∀ j, j < m.label.length → 32 ≤ (m.label.getD j 0).toNat ∧ (m.label.getD j 0).toNat ≤ 126 := by simp [mMay]
theorem mMay_no {m : Mf} (h : ¬ (0 ≤ m.time ∧ m.label.length ≤ 64 ∧ ∀ j, j < m.label.length → 32 ≤ (m.label.getD j 0).toNat ∧ (m.label.getD j 0).toNat ≤ 126)) : mMay m = false := Bool.eq_false_iff.2 fun h1 => h ((mMay_iff m).1 h1)
/-- a manifest's bytes. -/
def mB (m : Mf) : List UInt8 := [83, 49] ++ m.root.1 ++ be m.time.toNat 8 ++ [UInt8.ofNat m.label.length] ++ m.label
theorem cnt64 (n : Nat) (h : n ≤ 127) : cnt n = [UInt8.ofNat n] := by rw [cnt, if_neg (by omega)]
theorem smay_ret (w0 : World) (m : Mf) (hb : m.time ≤ 9223372036854775807) (hl : m.label.length ≤ 1099511627776) :
    Ret Tryz.prog 26 [.agg (mfE m).toArray] w0 fun v w' => v = .bool (mMay m) ∧ Hp w0 w' [] [] := by
  refine ret_mk Tryz.func26 rfl Tryz.ntmps26 (by simp) ?_
  have H := Hp.refl w0 []
  repeat refine c_seq ?_
  refine c_region ?_; refine l_op (o_box (v := .agg (mfE m).toArray) H rfl (fun b1 w H hb1 => ?_)); replace H : Hp _ w _ ([.blk b1 (mfE m) 31]) := H
  refine l_op (o_val r_as ?_); first | refine l_end ?_ | refine l_nil ?_
  repeat refine c_seq ?_
  refine c_region ?_; refine l_op (o_val (r_fa rfl fo31_1) ?_); refine l_op (o_val (r_l1 (v := VI m.time) H (i := 0) rfl rfl ct2 (mfE_c1 _)) ?_); refine l_op (o_val (r_bin (a := m.time) (b := 0) rfl rfl (fun _ => b_lss)) ?_); refine l_op (o_val r_mv ?_)
  by_cases hc2 : m.time < 0
  ·
   refine l_no rfl rfl (by exact congrArg Value.bool (decide_eq_true hc2)) rfl ?_; refine l_no rfl rfl (by exact congrArg Value.bool (decide_eq_true hc2)) rfl ?_; refine l_no rfl rfl (by exact congrArg Value.bool (decide_eq_true hc2)) rfl ?_; refine l_no rfl rfl (by exact congrArg Value.bool (decide_eq_true hc2)) rfl ?_; refine l_op (o_val (r_pick (b := true) (congrArg Value.bool (decide_eq_true hc2))) ?_); first | refine l_end ?_ | refine l_nil ?_
   repeat refine c_seq ?_
   refine c_yes rfl ?_; repeat refine c_seq ?_
   refine c_region ?_; refine l_op (o_val r_as ?_); first | refine l_end ?_ | refine l_nil ?_
   refine c_ret ?_; try dsimp only [Exit.then, Exit.inBlock]
   refine e_ret1 (v := .bool false) Tryz.results26 rfl ?_
   refine ⟨_, rfl, ?_⟩
   refine ⟨?_, H.sub (List.nil_sublist _)⟩
   rw [mMay_no fun h2 => by
     omega]
  ·
   refine l_yes rfl rfl (by exact congrArg Value.bool (decide_eq_false hc2)) (o_val (r_fa rfl fo31_2) ?_); refine l_yes rfl rfl (by exact congrArg Value.bool (decide_eq_false hc2)) (o_val (r_l1 (v := .string ⟨(m.label).toArray⟩) H (i := 0) rfl rfl ct9 (mfE_c2 _)) ?_); refine l_yes rfl rfl (by exact congrArg Value.bool (decide_eq_false hc2)) (o_val (r_lenstr (s := ⟨(m.label).toArray⟩) Tryz.underlying9 rfl) ?_); refine l_yes rfl rfl (by exact congrArg Value.bool (decide_eq_false hc2)) (o_val (r_bin (a := ((m.label).length : Int)) (b := 64) rfl rfl (fun _ => b_gtr)) ?_); refine l_op (o_val (r_pick (b := false) (congrArg Value.bool (decide_eq_false hc2))) ?_); first | refine l_end ?_ | refine l_nil ?_
   by_cases hc3 : 64 < ((m.label).length : Int)
   ·
    repeat refine c_seq ?_
    refine c_yes (by exact congrArg Value.bool (decide_eq_true hc3)) ?_; repeat refine c_seq ?_
    refine c_region ?_; refine l_op (o_val r_as ?_); first | refine l_end ?_ | refine l_nil ?_
    refine c_ret ?_; try dsimp only [Exit.then, Exit.inBlock]
    refine e_ret1 (v := .bool false) Tryz.results26 rfl ?_
    refine ⟨_, rfl, ?_⟩
    refine ⟨?_, H.sub (List.nil_sublist _)⟩
    rw [mMay_no fun h2 => by
      omega]
   ·
    repeat refine c_seq ?_
    refine c_no (by exact congrArg Value.bool (decide_eq_false hc3)) ?_; refine c_skip ?_; repeat refine c_seq ?_
    refine c_region ?_; refine l_op (o_val (r_fa rfl fo31_2) ?_); refine l_op (o_val (r_l1 (v := .string ⟨(m.label).toArray⟩) H (i := 0) rfl rfl ct9 (mfE_c2 _)) ?_); refine l_op (o_val (r_lenstr (s := ⟨(m.label).toArray⟩) Tryz.underlying9 rfl) ?_); refine l_op (o_val r_mv ?_); first | refine l_end ?_ | refine l_nil ?_
    repeat refine c_seq ?_
    refine c_block ?_; repeat refine c_seq ?_
    refine c_loop (fun (i : Nat) => [(1, .pointer (some ⟨b1, 0, none⟩)), (15, VI ((m.label).length : Int)), (16, VI (i : Int))])
      (fun (i : Nat) w => (i ≤ m.label.length ∧ ∀ j, j < i → 32 ≤ (m.label.getD j 0).toNat ∧ (m.label.getD j 0).toNat ≤ 126) ∧ Hp w0 w [] ([.blk b1 (mfE m) 31]))
      (fun (i : Nat) => m.label.length - i) 0 ⟨rfl, rfl, rfl, trivial⟩ ⟨⟨Nat.zero_le _, fun j hj => absurd hj (by omega)⟩, H⟩ ?_
    clear H
    rintro i τ w ⟨⟨hi, hall⟩, H⟩
    repeat refine c_seq ?_
    refine c_region ?_; refine l_op (o_val (r_bin (a := (i : Int)) (b := ((m.label).length : Int)) rfl rfl (fun _ => b_lss)) ?_); first | refine l_end ?_ | refine l_nil ?_
    by_cases hc4 : (i : Int) < ((m.label).length : Int)
    ·
     repeat refine c_seq ?_
     refine c_yes (by exact congrArg Value.bool (decide_eq_true hc4)) ?_; refine c_skip ?_; repeat refine c_seq ?_
     refine c_block ?_; repeat refine c_seq ?_
     refine c_region ?_; refine l_op (o_val r_mv ?_); refine l_op (o_val r_as ?_); first | refine l_end ?_ | refine l_nil ?_
     repeat refine c_seq ?_
     refine c_region ?_; refine l_op (o_val (r_fa rfl fo31_2) ?_); refine l_op (o_val (r_l1 (v := .string ⟨(m.label).toArray⟩) H (i := 0) rfl rfl ct9 (mfE_c2 _)) ?_); refine l_op (o_val r_mv ?_); refine l_op (o_val (r_idxS (l := m.label) i Tryz.underlying9 rfl rfl (by omega) (by omega)) ?_); refine l_op (o_val (r_bin (a := (((m.label).getD i 0).toNat : Int)) (b := 32) rfl rfl (fun _ => b_lss)) ?_); refine l_op (o_val r_mv ?_)
     by_cases hc5 : (((m.label).getD i 0).toNat : Int) < 32
     ·
      refine l_no rfl rfl (by exact congrArg Value.bool (decide_eq_true hc5)) rfl ?_; refine l_no rfl rfl (by exact congrArg Value.bool (decide_eq_true hc5)) rfl ?_; refine l_no rfl rfl (by exact congrArg Value.bool (decide_eq_true hc5)) rfl ?_; refine l_no rfl rfl (by exact congrArg Value.bool (decide_eq_true hc5)) rfl ?_; refine l_no rfl rfl (by exact congrArg Value.bool (decide_eq_true hc5)) rfl ?_; refine l_op (o_val (r_pick (b := true) (congrArg Value.bool (decide_eq_true hc5))) ?_); first | refine l_end ?_ | refine l_nil ?_
      repeat refine c_seq ?_
      refine c_yes rfl ?_; repeat refine c_seq ?_
      refine c_region ?_; refine l_op (o_val r_as ?_); first | refine l_end ?_ | refine l_nil ?_
      refine c_ret ?_; try dsimp only [Exit.then, Exit.inBlock]
      refine e_ret1 (v := .bool false) Tryz.results26 rfl ?_
      refine ⟨_, rfl, ?_⟩
      refine ⟨?_, H.sub (List.nil_sublist _)⟩
      rw [mMay_no fun h2 => by
        have h3 := h2.2.2 i (by omega)
        omega]
     ·
      refine l_yes rfl rfl (by exact congrArg Value.bool (decide_eq_false hc5)) (o_val (r_fa rfl fo31_2) ?_); refine l_yes rfl rfl (by exact congrArg Value.bool (decide_eq_false hc5)) (o_val (r_l1 (v := .string ⟨(m.label).toArray⟩) H (i := 0) rfl rfl ct9 (mfE_c2 _)) ?_); refine l_yes rfl rfl (by exact congrArg Value.bool (decide_eq_false hc5)) (o_val r_mv ?_); refine l_yes rfl rfl (by exact congrArg Value.bool (decide_eq_false hc5)) (o_val (r_idxS (l := m.label) i Tryz.underlying9 rfl rfl (by omega) (by omega)) ?_); refine l_yes rfl rfl (by exact congrArg Value.bool (decide_eq_false hc5)) (o_val (r_bin (a := (((m.label).getD i 0).toNat : Int)) (b := 126) rfl rfl (fun _ => b_gtr)) ?_); refine l_op (o_val (r_pick (b := false) (congrArg Value.bool (decide_eq_false hc5))) ?_); first | refine l_end ?_ | refine l_nil ?_
      by_cases hc6 : 126 < (((m.label).getD i 0).toNat : Int)
      ·
       repeat refine c_seq ?_
       refine c_yes (by exact congrArg Value.bool (decide_eq_true hc6)) ?_; repeat refine c_seq ?_
       refine c_region ?_; refine l_op (o_val r_as ?_); first | refine l_end ?_ | refine l_nil ?_
       refine c_ret ?_; try dsimp only [Exit.then, Exit.inBlock]
       refine e_ret1 (v := .bool false) Tryz.results26 rfl ?_
       refine ⟨_, rfl, ?_⟩
       refine ⟨?_, H.sub (List.nil_sublist _)⟩
       rw [mMay_no fun h2 => by
         have h3 := h2.2.2 i (by omega)
         omega]
      ·
       repeat refine c_seq ?_
       refine c_no (by exact congrArg Value.bool (decide_eq_false hc6)) ?_; refine c_skip ?_; repeat refine c_seq ?_
       refine c_region ?_; refine l_op (o_val (r_bin (a := (i : Int)) (b := 1) rfl rfl (fun _ => b_add (by omega) (by omega))) ?_); refine l_op (o_val r_mv ?_); first | refine l_end ?_ | refine l_nil ?_
       refine round_end (i + 1) ?_ ?_ ?_
       · exact ⟨rfl, rfl, show VI ((i : Int) + 1) = VI ((i + 1 : Nat) : Int) from congrArg VI (by omega), trivial⟩
       · refine ⟨?_, ?_⟩
         · try dsimp only
           exact ⟨by omega, fun j hj => by
             by_cases hji : j < i
             · exact hall j hji
             · have e : j = i := by omega
               rw [e]; omega⟩
         · exact H
       · show m.label.length - (i + 1 : Nat) < m.label.length - i; omega
    ·
     repeat refine c_seq ?_
     refine c_no (by exact congrArg Value.bool (decide_eq_false hc4)) ?_; refine c_exit ?_; repeat refine c_seq ?_
     refine c_region ?_; refine l_op (o_val r_as ?_); first | refine l_end ?_ | refine l_nil ?_
     refine c_ret ?_; try dsimp only [Exit.then, Exit.inBlock]
     refine e_ret1 (v := .bool true) Tryz.results26 rfl ?_
     refine ⟨_, rfl, ?_⟩
     refine ⟨?_, H.sub (List.nil_sublist _)⟩
     rw [(mMay_iff m).2 ⟨by omega, by omega, fun j hj => hall j (by omega)⟩]
theorem smay16_ret (w0 : World) (m : Mf) (_hb : m.time ≤ 9223372036854775807) (hl : m.label.length ≤ 1099511627776) :
    Ret Tryz.prog 29 [.agg (mfE m).toArray] w0 fun v w' => v = .bool (mMay m) ∧ Hp w0 w' [] [] := by
  refine ret_mk Tryz.func29 rfl Tryz.ntmps29 (by simp) ?_
  have H := Hp.refl w0 []
  repeat refine c_seq ?_
  refine c_region ?_; refine l_op (o_box (v := .agg (mfE m).toArray) H rfl (fun b1 w H hb1 => ?_)); replace H : Hp _ w _ ([.blk b1 (mfE m) 31]) := H
  refine l_op (o_val r_as ?_); first | refine l_end ?_ | refine l_nil ?_
  repeat refine c_seq ?_
  refine c_region ?_; refine l_op (o_val r_as ?_); first | refine l_end ?_ | refine l_nil ?_
  repeat refine c_seq ?_
  refine c_block ?_; repeat refine c_seq ?_
  refine c_loop (fun (i : Nat) => [(1, .pointer (some ⟨b1, 0, none⟩)), (3, VI (i : Int))])
    (fun (i : Nat) w => (i ≤ m.label.length ∧ ∀ j, j < i → 32 ≤ (m.label.getD j 0).toNat ∧ (m.label.getD j 0).toNat ≤ 126) ∧ Hp w0 w [] ([.blk b1 (mfE m) 31]))
    (fun (i : Nat) => m.label.length - i) 0 ⟨rfl, rfl, trivial⟩ ⟨⟨Nat.zero_le _, fun j hj => absurd hj (by omega)⟩, H⟩ ?_
  clear H
  rintro i τ w ⟨⟨hi, hall⟩, H⟩
  repeat refine c_seq ?_
  refine c_region ?_; refine l_op (o_val r_mv ?_); refine l_op (o_val (r_fa rfl fo31_2) ?_); refine l_op (o_val (r_l1 (v := .string ⟨(m.label).toArray⟩) H (i := 0) rfl rfl ct9 (mfE_c2 _)) ?_); refine l_op (o_val (r_lenstr (s := ⟨(m.label).toArray⟩) Tryz.underlying9 rfl) ?_); refine l_op (o_val (r_bin (a := (i : Int)) (b := ((m.label).length : Int)) rfl rfl (fun _ => b_lss)) ?_); first | refine l_end ?_ | refine l_nil ?_
  by_cases hc2 : (i : Int) < ((m.label).length : Int)
  ·
   repeat refine c_seq ?_
   refine c_yes (by exact congrArg Value.bool (decide_eq_true hc2)) ?_; refine c_skip ?_; repeat refine c_seq ?_
   refine c_block ?_; repeat refine c_seq ?_
   refine c_region ?_; refine l_op (o_val (r_fa rfl fo31_2) ?_); refine l_op (o_val (r_l1 (v := .string ⟨(m.label).toArray⟩) H (i := 0) rfl rfl ct9 (mfE_c2 _)) ?_); refine l_op (o_val r_mv ?_); refine l_op (o_val (r_idxS (l := m.label) i Tryz.underlying9 rfl rfl (by omega) (by omega)) ?_); refine l_op (o_val (r_bin (a := (((m.label).getD i 0).toNat : Int)) (b := 32) rfl rfl (fun _ => b_lss)) ?_); refine l_op (o_val r_mv ?_)
   by_cases hc3 : (((m.label).getD i 0).toNat : Int) < 32
   ·
    refine l_no rfl rfl (by exact congrArg Value.bool (decide_eq_true hc3)) rfl ?_; refine l_no rfl rfl (by exact congrArg Value.bool (decide_eq_true hc3)) rfl ?_; refine l_no rfl rfl (by exact congrArg Value.bool (decide_eq_true hc3)) rfl ?_; refine l_no rfl rfl (by exact congrArg Value.bool (decide_eq_true hc3)) rfl ?_; refine l_no rfl rfl (by exact congrArg Value.bool (decide_eq_true hc3)) rfl ?_; refine l_op (o_val (r_pick (b := true) (congrArg Value.bool (decide_eq_true hc3))) ?_); first | refine l_end ?_ | refine l_nil ?_
    repeat refine c_seq ?_
    refine c_yes rfl ?_; repeat refine c_seq ?_
    refine c_region ?_; refine l_op (o_val r_as ?_); first | refine l_end ?_ | refine l_nil ?_
    refine c_ret ?_; try dsimp only [Exit.then, Exit.inBlock]
    refine e_ret1 (v := .bool false) Tryz.results29 rfl ?_
    refine ⟨_, rfl, ?_⟩
    refine ⟨?_, H.sub (List.nil_sublist _)⟩
    rw [mMay_no fun h2 => by
      have h3 := h2.2.2 i (by omega)
      omega]
   ·
    refine l_yes rfl rfl (by exact congrArg Value.bool (decide_eq_false hc3)) (o_val (r_fa rfl fo31_2) ?_); refine l_yes rfl rfl (by exact congrArg Value.bool (decide_eq_false hc3)) (o_val (r_l1 (v := .string ⟨(m.label).toArray⟩) H (i := 0) rfl rfl ct9 (mfE_c2 _)) ?_); refine l_yes rfl rfl (by exact congrArg Value.bool (decide_eq_false hc3)) (o_val r_mv ?_); refine l_yes rfl rfl (by exact congrArg Value.bool (decide_eq_false hc3)) (o_val (r_idxS (l := m.label) i Tryz.underlying9 rfl rfl (by omega) (by omega)) ?_); refine l_yes rfl rfl (by exact congrArg Value.bool (decide_eq_false hc3)) (o_val (r_bin (a := (((m.label).getD i 0).toNat : Int)) (b := 126) rfl rfl (fun _ => b_gtr)) ?_); refine l_op (o_val (r_pick (b := false) (congrArg Value.bool (decide_eq_false hc3))) ?_); first | refine l_end ?_ | refine l_nil ?_
    by_cases hc4 : 126 < (((m.label).getD i 0).toNat : Int)
    ·
     repeat refine c_seq ?_
     refine c_yes (by exact congrArg Value.bool (decide_eq_true hc4)) ?_; repeat refine c_seq ?_
     refine c_region ?_; refine l_op (o_val r_as ?_); first | refine l_end ?_ | refine l_nil ?_
     refine c_ret ?_; try dsimp only [Exit.then, Exit.inBlock]
     refine e_ret1 (v := .bool false) Tryz.results29 rfl ?_
     refine ⟨_, rfl, ?_⟩
     refine ⟨?_, H.sub (List.nil_sublist _)⟩
     rw [mMay_no fun h2 => by
       have h3 := h2.2.2 i (by omega)
       omega]
    ·
     repeat refine c_seq ?_
     refine c_no (by exact congrArg Value.bool (decide_eq_false hc4)) ?_; refine c_skip ?_; repeat refine c_seq ?_
     refine c_region ?_; refine l_op (o_val r_mv ?_); refine l_op (o_val (r_bin (a := (i : Int)) (b := 1) rfl rfl (fun _ => b_add (by omega) (by omega))) ?_); refine l_op (o_val r_as ?_); first | refine l_end ?_ | refine l_nil ?_
     refine round_end (i + 1) ?_ ?_ ?_
     · exact ⟨rfl, show VI ((i : Int) + 1) = VI ((i + 1 : Nat) : Int) from congrArg VI (by omega), trivial⟩
     · refine ⟨?_, ?_⟩
       · try dsimp only
         exact ⟨by omega, fun j hj => by
           by_cases hji : j < i
           · exact hall j hji
           · have e : j = i := by omega
             rw [e]; omega⟩
       · exact H
     · show m.label.length - (i + 1 : Nat) < m.label.length - i; omega
  ·
   repeat refine c_seq ?_
   refine c_no (by exact congrArg Value.bool (decide_eq_false hc2)) ?_; refine c_exit ?_; repeat refine c_seq ?_
   refine c_region ?_; refine l_op (o_val (r_fa rfl fo31_1) ?_); refine l_op (o_val (r_l1 (v := VI m.time) H (i := 0) rfl rfl ct2 (mfE_c1 _)) ?_); refine l_op (o_val (r_bin (a := m.time) (b := 0) rfl rfl (fun _ => b_geq)) ?_); refine l_op (o_val r_mv ?_)
   by_cases hc5 : 0 ≤ m.time
   ·
    refine l_yes rfl rfl (by exact congrArg Value.bool (decide_eq_true hc5)) (o_val (r_fa rfl fo31_2) ?_); refine l_yes rfl rfl (by exact congrArg Value.bool (decide_eq_true hc5)) (o_val (r_l1 (v := .string ⟨(m.label).toArray⟩) H (i := 0) rfl rfl ct9 (mfE_c2 _)) ?_); refine l_yes rfl rfl (by exact congrArg Value.bool (decide_eq_true hc5)) (o_val (r_lenstr (s := ⟨(m.label).toArray⟩) Tryz.underlying9 rfl) ?_); refine l_yes rfl rfl (by exact congrArg Value.bool (decide_eq_true hc5)) (o_val (r_bin (a := ((m.label).length : Int)) (b := 64) rfl rfl (fun _ => b_leq)) ?_); refine l_op (o_val (r_pick (b := true) (congrArg Value.bool (decide_eq_true hc5))) ?_); refine l_op (o_val r_as ?_); first | refine l_end ?_ | refine l_nil ?_
    refine c_ret ?_; try dsimp only [Exit.then, Exit.inBlock]
    refine e_ret1 (v := .bool (decide (((m.label).length : Int) ≤ 64))) Tryz.results29 rfl ?_
    refine ⟨_, rfl, ?_⟩
    refine ⟨?_, H.sub (List.nil_sublist _)⟩
    congr 1
    rw [mMay]
    exact decide_eq_decide.2 ⟨fun h => ⟨by omega, by omega, fun j hj => hall j (by omega)⟩, fun h => by omega⟩
   ·
    refine l_no rfl rfl (by exact congrArg Value.bool (decide_eq_false hc5)) rfl ?_; refine l_no rfl rfl (by exact congrArg Value.bool (decide_eq_false hc5)) rfl ?_; refine l_no rfl rfl (by exact congrArg Value.bool (decide_eq_false hc5)) rfl ?_; refine l_no rfl rfl (by exact congrArg Value.bool (decide_eq_false hc5)) rfl ?_; refine l_op (o_val (r_pick (b := false) (congrArg Value.bool (decide_eq_false hc5))) ?_); refine l_op (o_val r_as ?_); first | refine l_end ?_ | refine l_nil ?_
    refine c_ret ?_; try dsimp only [Exit.then, Exit.inBlock]
    refine e_ret1 (v := .bool false) Tryz.results29 rfl ?_
    refine ⟨_, rfl, ?_⟩
    refine ⟨?_, H.sub (List.nil_sublist _)⟩
    rw [mMay_no fun h2 => by
      omega]
theorem sbytes_ok (w0 : World) (m : Mf) (hb : m.time ≤ 9223372036854775807) (hl : m.label.length ≤ 1099511627776) (hm : mMay m = true) :
    Ret Tryz.prog 11 [.agg (mfE m).toArray] w0 fun v w' => ∃ a n k, v = .tuple #[.slice (hd a) n k, VI 0] ∧ (mB m).length = n ∧ Hp w0 w' [] [.own a n k ((mB m).map V8) 5 1] := by
  refine ret_mk Tryz.func11 rfl Tryz.ntmps11 (by simp) ?_
  have H := Hp.refl w0 []
  have hm2 := (mMay_iff m).1 hm
  have hm3 := hm2.1
  have hm4 := hm2.2.1
  repeat refine c_seq ?_
  refine c_region ?_; refine l_op (o_box (v := .agg (mfE m).toArray) H rfl (fun b1 w H hb1 => ?_)); replace H : Hp _ w _ ([.blk b1 (mfE m) 31]) := H
  refine l_op (o_val r_as ?_); refine l_op (o_val r_as ?_); first | refine l_end ?_ | refine l_nil ?_
  repeat refine c_seq ?_
  refine c_region ?_; refine l_op (o_val (r_ldA (C := mfE m) H (i := 0) rfl rfl rt31 (mfE_len _)) ?_); refine l_op (o_callR Tryz.func26 rfl rfl rfl (smay_ret _ m (by first | omega | assumption) (by first | omega | assumption)) ?_); rintro _ w ⟨rfl, Hc⟩
  replace H : Hp _ w _ ([_]) := H.call Hc
  clear Hc
  have hk2 : (mMay m) = true := hm
  refine l_op (o_val (r_not rfl) ?_); first | refine l_end ?_ | refine l_nil ?_
  repeat refine c_seq ?_
  refine c_no (by exact congrArg Value.bool (congrArg not hk2)) ?_; refine c_skip ?_; repeat refine c_seq ?_
  refine c_region ?_; refine l_op (o_bslB ([(83 : UInt8), (49 : UInt8)]) H sl50 zc5 rfl rfl (by decide) (fun b3 w H hb3 => ?_)); replace H : Hp _ w _ ([_, .own (some b3) 2 2 (([(83 : UInt8), (49 : UInt8)]).map V8) 5 1]) := H
  replace H := H.toBlkB (i := 1) rfl
  refine l_op (o_lit H (i := 1) rfl Tryz.underlying50 Tryz.underlying5 rfl (fun w H => ?_)); replace H : Hp _ w _ ([_, .obj b3 (litO (([(83 : UInt8), (49 : UInt8)]).map V8) 5)]) := H
  refine l_op (o_val (r_fa rfl fo31_0) ?_); refine l_op (o_val (r_slAo (o := 0) (h := 32) (m := 32) (lv := none) (hv := none) (mv := none) rfl ar23 rfl rfl rfl (fun w => sbn w)) ?_); refine l_op (o_appX (s := (⟨some ⟨b3, 0, none⟩, 2, 2, [(83 : UInt8), (49 : UInt8)]⟩ : Sl)) (u := (⟨some ⟨b1, 0, none⟩, 32, 32, m.root.1⟩ : Sl)) (l' := [(83 : UInt8), (49 : UInt8)] ++ m.root.1) (len' := 34) rfl rfl H (ok_lit H (i := 1) rfl rfl rfl (by decide) (by decide)) (H.slMid (i := 0) rfl (mfE_c0 _) (by decide)) (by (try dsimp only); omega) sl50 Tryz.underlying50 rfl rfl (by omega) (fun a4 c5 w H => ?_)); replace H : Hp _ w _ ([_, _, .own a4 34 c5 (([(83 : UInt8), (49 : UInt8)] ++ m.root.1).map V8) 5 1]) := H
  refine l_op (o_val r_as ?_); first | refine l_end ?_ | refine l_nil ?_
  repeat refine c_seq ?_
  refine c_region ?_; refine l_op (o_val r_mv ?_); refine l_op (o_val (r_fa rfl fo31_1) ?_); refine l_op (o_val (r_l1 (v := VI m.time) H (i := 0) rfl rfl ct2 (mfE_c1 _)) ?_); refine l_op (o_val (r_conv (v := ((UInt64.ofNat (m.time).toNat).toNat : Int)) Tryz.underlying2 Tryz.underlying36 rfl (w_u64_N (m.time).toNat (by omega))) ?_); refine l_op (o_callR Tryz.func27 rfl rfl rfl (put_ret _ ⟨hd a4, 34, c5, [(83 : UInt8), (49 : UInt8)] ++ m.root.1⟩ (H.slOwn (i := 2) rfl) (UInt64.ofNat (m.time).toNat) 8 (by omega) (by omega) (.inl rfl) (by (try dsimp only); omega)) ?_); rintro _ w ⟨a6, c7, rfl, Hc⟩
  replace H : Hp _ w _ ([_, _, _, .own a6 (34 + 8) c7 (([(83 : UInt8), (49 : UInt8)] ++ m.root.1 ++ be (UInt64.ofNat (m.time).toNat).toNat 8).map V8) 5 1]) := H.call Hc
  clear Hc
  refine l_op (o_val r_mv ?_); refine l_op (o_val (r_ext rfl rfl) ?_); refine l_op (o_val (r_ext rfl rfl) ?_); refine l_op (o_val r_as ?_); first | refine l_end ?_ | refine l_nil ?_
  repeat refine c_seq ?_
  refine c_region ?_; refine l_op (o_val r_mv ?_); refine l_op (o_val (r_fa rfl fo31_2) ?_); refine l_op (o_val (r_l1 (v := .string ⟨(m.label).toArray⟩) H (i := 0) rfl rfl ct9 (mfE_c2 _)) ?_); refine l_op (o_s2B (l := m.label) H Tryz.underlying9 Tryz.underlying50 Tryz.underlying5 rfl (by omega) (fun b8 c9 ob10 w H hb8 hr11 => ?_)); replace H : Hp _ w _ ([_, _, _, _, .obj b8 ob10]) := H
  refine l_op (o_callR Tryz.func28 rfl rfl rfl (text_ret _ ⟨hd a6, 34 + 8, c7, [(83 : UInt8), (49 : UInt8)] ++ m.root.1 ++ be (UInt64.ofNat (m.time).toNat).toNat 8⟩ (⟨some ⟨b8, 0, none⟩, (m.label).length, c9, m.label⟩ : Sl) (H.slOwn (i := 3) rfl) (hr11 _ (H.has (.obj b8 ob10) (by simp))) (by (try simp only []); omega) (by (try simp only []); omega)) ?_); rintro _ w ⟨a12, n13, c14, rfl, hn15, Hc⟩
  replace H : Hp _ w _ ([_, _, _, _, _, .own a12 n13 c14 (([(83 : UInt8), (49 : UInt8)] ++ m.root.1 ++ be (UInt64.ofNat (m.time).toNat).toNat 8 ++ cnt ((m.label).length) ++ m.label).map V8) 5 1]) := H.call Hc
  clear Hc
  try dsimp only at hn15
  refine l_op (o_val (r_ext rfl rfl) ?_); refine l_op (o_val (r_ext rfl rfl) ?_); refine l_op (o_val r_as ?_); refine l_op (o_val r_as ?_); first | refine l_end ?_ | refine l_nil ?_
  refine c_ret ?_; try dsimp only [Exit.then, Exit.inBlock]
  refine e_retN (vs := [.slice (hd a12) n13 c14, VI 0]) _ Tryz.results11 rfl (resT (v := .slice (hd a12) n13 c14) rfl (resT (v := VI 0) rfl (resZ))) ?_
  refine ⟨_, rfl, ?_⟩
  have hq : (UInt64.ofNat m.time.toNat).toNat = m.time.toNat := ofNat_nat _ (by omega)
  have e1 : [(83 : UInt8), (49 : UInt8)] ++ m.root.1 ++ be (UInt64.ofNat (m.time).toNat).toNat 8 ++ cnt ((m.label).length) ++ m.label = mB m := by
    first | (simp [mB, hq, cnt64 _ (show m.label.length ≤ 127 by omega)]; done) | (simp [mB, hq]; done)
  rw [e1] at H
  have hh := (H.ownLen (i := 5) rfl).1
  exact ⟨_, _, _, rfl, by simpa using hh, H.sub (.cons _ (.cons _ (.cons _ (.cons _ (.cons _ (.cons_cons _ (List.nil_sublist _)))))))⟩
theorem sbytes_no (w0 : World) (m : Mf) (hb : m.time ≤ 9223372036854775807) (hl : m.label.length ≤ 1099511627776) (hm : mMay m = false) :
    Ret Tryz.prog 11 [.agg (mfE m).toArray] w0 fun v w' => v = .tuple #[.slice none 0 0, VI 1] ∧ Hp w0 w' [] [] := by
  refine ret_mk Tryz.func11 rfl Tryz.ntmps11 (by simp) ?_
  have H := Hp.refl w0 []
  repeat refine c_seq ?_
  refine c_region ?_; refine l_op (o_box (v := .agg (mfE m).toArray) H rfl (fun b1 w H hb1 => ?_)); replace H : Hp _ w _ ([.blk b1 (mfE m) 31]) := H
  refine l_op (o_val r_as ?_); refine l_op (o_val r_as ?_); first | refine l_end ?_ | refine l_nil ?_
  repeat refine c_seq ?_
  refine c_region ?_; refine l_op (o_val (r_ldA (C := mfE m) H (i := 0) rfl rfl rt31 (mfE_len _)) ?_); refine l_op (o_callR Tryz.func26 rfl rfl rfl (smay_ret _ m (by first | omega | assumption) (by first | omega | assumption)) ?_); rintro _ w ⟨rfl, Hc⟩
  replace H : Hp _ w _ ([_]) := H.call Hc
  clear Hc
  have hk2 : (mMay m) = false := hm
  refine l_op (o_val (r_not rfl) ?_); first | refine l_end ?_ | refine l_nil ?_
  repeat refine c_seq ?_
  refine c_yes (by exact congrArg Value.bool (congrArg not hk2)) ?_; repeat refine c_seq ?_
  refine c_region ?_; refine l_op (o_val r_as ?_); refine l_op (o_val r_as ?_); first | refine l_end ?_ | refine l_nil ?_
  refine c_ret ?_; try dsimp only [Exit.then, Exit.inBlock]
  refine e_retN (vs := [.slice none 0 0, VI 1]) _ Tryz.results11 rfl (resT (v := .slice none 0 0) rfl (resT (v := VI 1) rfl (resZ))) ?_
  refine ⟨_, rfl, ?_⟩
  exact ⟨rfl, H.sub (List.nil_sublist _)⟩
theorem sbytes16_ok (w0 : World) (m : Mf) (hb : m.time ≤ 9223372036854775807) (hl : m.label.length ≤ 1099511627776) (hm : mMay m = true) :
    Ret Tryz.prog 12 [.agg (mfE m).toArray] w0 fun v w' => ∃ a n k, v = .tuple #[.slice (hd a) n k, VI 0] ∧ (mB m).length = n ∧ Hp w0 w' [] [.own a n k ((mB m).map V8) 5 1] := by
  refine ret_mk Tryz.func12 rfl Tryz.ntmps12 (by simp) ?_
  have H := Hp.refl w0 []
  have hm2 := (mMay_iff m).1 hm
  have hm3 := hm2.1
  have hm4 := hm2.2.1
  repeat refine c_seq ?_
  refine c_region ?_; refine l_op (o_box (v := .agg (mfE m).toArray) H rfl (fun b1 w H hb1 => ?_)); replace H : Hp _ w _ ([.blk b1 (mfE m) 31]) := H
  refine l_op (o_val r_as ?_); refine l_op (o_val r_as ?_); first | refine l_end ?_ | refine l_nil ?_
  repeat refine c_seq ?_
  refine c_region ?_; refine l_op (o_val (r_ldA (C := mfE m) H (i := 0) rfl rfl rt31 (mfE_len _)) ?_); refine l_op (o_callR Tryz.func29 rfl rfl rfl (smay16_ret _ m (by first | omega | assumption) (by first | omega | assumption)) ?_); rintro _ w ⟨rfl, Hc⟩
  replace H : Hp _ w _ ([_]) := H.call Hc
  clear Hc
  have hk2 : (mMay m) = true := hm
  refine l_op (o_val (r_not rfl) ?_); first | refine l_end ?_ | refine l_nil ?_
  repeat refine c_seq ?_
  refine c_no (by exact congrArg Value.bool (congrArg not hk2)) ?_; refine c_skip ?_; repeat refine c_seq ?_
  refine c_region ?_; refine l_op (o_bslB ([(83 : UInt8), (49 : UInt8)]) H sl50 zc5 rfl rfl (by decide) (fun b3 w H hb3 => ?_)); replace H : Hp _ w _ ([_, .own (some b3) 2 2 (([(83 : UInt8), (49 : UInt8)]).map V8) 5 1]) := H
  replace H := H.toBlkB (i := 1) rfl
  refine l_op (o_lit H (i := 1) rfl Tryz.underlying50 Tryz.underlying5 rfl (fun w H => ?_)); replace H : Hp _ w _ ([_, .obj b3 (litO (([(83 : UInt8), (49 : UInt8)]).map V8) 5)]) := H
  refine l_op (o_val (r_fa rfl fo31_0) ?_); refine l_op (o_val (r_slAo (o := 0) (h := 32) (m := 32) (lv := none) (hv := none) (mv := none) rfl ar23 rfl rfl rfl (fun w => sbn w)) ?_); refine l_op (o_appX (s := (⟨some ⟨b3, 0, none⟩, 2, 2, [(83 : UInt8), (49 : UInt8)]⟩ : Sl)) (u := (⟨some ⟨b1, 0, none⟩, 32, 32, m.root.1⟩ : Sl)) (l' := [(83 : UInt8), (49 : UInt8)] ++ m.root.1) (len' := 34) rfl rfl H (ok_lit H (i := 1) rfl rfl rfl (by decide) (by decide)) (H.slMid (i := 0) rfl (mfE_c0 _) (by decide)) (by (try dsimp only); omega) sl50 Tryz.underlying50 rfl rfl (by omega) (fun a4 c5 w H => ?_)); replace H : Hp _ w _ ([_, _, .own a4 34 c5 (([(83 : UInt8), (49 : UInt8)] ++ m.root.1).map V8) 5 1]) := H
  refine l_op (o_val r_as ?_); first | refine l_end ?_ | refine l_nil ?_
  repeat refine c_seq ?_
  refine c_region ?_; refine l_op (o_val r_mv ?_); refine l_op (o_val (r_fa rfl fo31_1) ?_); refine l_op (o_val (r_l1 (v := VI m.time) H (i := 0) rfl rfl ct2 (mfE_c1 _)) ?_); refine l_op (o_val (r_conv (v := ((UInt64.ofNat (m.time).toNat).toNat : Int)) Tryz.underlying2 Tryz.underlying36 rfl (w_u64_N (m.time).toNat (by omega))) ?_); refine l_op (o_callR Tryz.func30 rfl rfl rfl (eight_ret _ (UInt64.ofNat (m.time).toNat)) ?_); rintro _ w ⟨a6, c7, rfl, Hc⟩
  replace H : Hp _ w _ ([_, _, _, .own a6 8 c7 ((be (UInt64.ofNat (m.time).toNat).toNat 8).map V8) 5 1]) := H.call Hc
  clear Hc
  refine l_op (o_appB (s := ⟨hd a6, 8, c7, be (UInt64.ofNat (m.time).toNat).toNat 8⟩) (l' := [(83 : UInt8), (49 : UInt8)] ++ m.root.1 ++ (be (UInt64.ofNat (m.time).toNat).toNat 8)) (len' := 42) rfl rfl H (i := 2) rfl sl50 Tryz.underlying50 rfl rfl (H.slOwn (i := 3) rfl) (by omega) (fun a8 c9 w H => ?_)); replace H : Hp _ w _ ([_, _, .own a8 42 c9 (([(83 : UInt8), (49 : UInt8)] ++ m.root.1 ++ (be (UInt64.ofNat (m.time).toNat).toNat 8)).map V8) 5 1, _]) := H
  refine l_op (o_val r_as ?_); first | refine l_end ?_ | refine l_nil ?_
  repeat refine c_seq ?_
  refine c_region ?_; refine l_op (o_val r_mv ?_); refine l_op (o_val (r_fa rfl fo31_2) ?_); refine l_op (o_val (r_l1 (v := .string ⟨(m.label).toArray⟩) H (i := 0) rfl rfl ct9 (mfE_c2 _)) ?_); refine l_op (o_val (r_lenstr (s := ⟨(m.label).toArray⟩) Tryz.underlying9 rfl) ?_); refine l_op (o_val (r_conv (a := ((m.label).length : Int)) (v := ((UInt8.ofNat ((m.label).length)).toNat : Int)) Tryz.underlying3 Tryz.underlying5 rfl (w_u8_N ((m.label).length) (by omega))) ?_); refine l_op (o_bslB ([UInt8.ofNat ((m.label).length)]) H sl50 zc5 rfl rfl (by decide) (fun b10 w H hb10 => ?_)); replace H : Hp _ w _ ([_, _, _, _, .own (some b10) 1 1 (([UInt8.ofNat ((m.label).length)]).map V8) 5 1]) := H
  refine l_op (o_appB (s := ⟨hd (some b10), 1, 1, [UInt8.ofNat ((m.label).length)]⟩) (l' := [(83 : UInt8), (49 : UInt8)] ++ m.root.1 ++ (be (UInt64.ofNat (m.time).toNat).toNat 8) ++ ([UInt8.ofNat ((m.label).length)])) (len' := 43) rfl rfl H (i := 2) rfl sl50 Tryz.underlying50 rfl rfl (H.slOwn (i := 4) rfl) (by omega) (fun a11 c12 w H => ?_)); replace H : Hp _ w _ ([_, _, .own a11 43 c12 (([(83 : UInt8), (49 : UInt8)] ++ m.root.1 ++ (be (UInt64.ofNat (m.time).toNat).toNat 8) ++ ([UInt8.ofNat ((m.label).length)])).map V8) 5 1, _, _]) := H
  refine l_op (o_val r_as ?_); first | refine l_end ?_ | refine l_nil ?_
  repeat refine c_seq ?_
  refine c_region ?_; refine l_op (o_val r_mv ?_); refine l_op (o_val (r_fa rfl fo31_2) ?_); refine l_op (o_val (r_l1 (v := .string ⟨(m.label).toArray⟩) H (i := 0) rfl rfl ct9 (mfE_c2 _)) ?_); refine l_op (o_appS (l' := [(83 : UInt8), (49 : UInt8)] ++ m.root.1 ++ (be (UInt64.ofNat (m.time).toNat).toNat 8) ++ ([UInt8.ofNat ((m.label).length)]) ++ m.label) (len' := 43 + ((m.label).length)) rfl rfl H (i := 2) rfl sl50 Tryz.underlying9 rfl rfl (by omega) (fun a13 c14 w H => ?_)); replace H : Hp _ w _ ([_, _, .own a13 (43 + ((m.label).length)) c14 (([(83 : UInt8), (49 : UInt8)] ++ m.root.1 ++ (be (UInt64.ofNat (m.time).toNat).toNat 8) ++ ([UInt8.ofNat ((m.label).length)]) ++ m.label).map V8) 5 1, _, _]) := H
  refine l_op (o_val r_as ?_); refine l_op (o_val r_as ?_); first | refine l_end ?_ | refine l_nil ?_
  refine c_ret ?_; try dsimp only [Exit.then, Exit.inBlock]
  refine e_retN (vs := [.slice (hd a13) (43 + ((m.label).length)) c14, VI 0]) _ Tryz.results12 rfl (resT (v := .slice (hd a13) (43 + ((m.label).length)) c14) rfl (resT (v := VI 0) rfl (resZ))) ?_
  refine ⟨_, rfl, ?_⟩
  have hq : (UInt64.ofNat m.time.toNat).toNat = m.time.toNat := ofNat_nat _ (by omega)
  have e1 : [(83 : UInt8), (49 : UInt8)] ++ m.root.1 ++ (be (UInt64.ofNat (m.time).toNat).toNat 8) ++ ([UInt8.ofNat ((m.label).length)]) ++ m.label = mB m := by
    first | (simp [mB, hq]; done) | (simp [mB, hq]; done)
  rw [e1] at H
  have hh := (H.ownLen (i := 2) rfl).1
  exact ⟨_, _, _, rfl, by simpa using hh, H.sub (.cons _ (.cons _ (.cons_cons _ (List.nil_sublist _))))⟩
theorem sbytes16_no (w0 : World) (m : Mf) (hb : m.time ≤ 9223372036854775807) (hl : m.label.length ≤ 1099511627776) (hm : mMay m = false) :
    Ret Tryz.prog 12 [.agg (mfE m).toArray] w0 fun v w' => v = .tuple #[.slice none 0 0, VI 1] ∧ Hp w0 w' [] [] := by
  refine ret_mk Tryz.func12 rfl Tryz.ntmps12 (by simp) ?_
  have H := Hp.refl w0 []
  repeat refine c_seq ?_
  refine c_region ?_; refine l_op (o_box (v := .agg (mfE m).toArray) H rfl (fun b1 w H hb1 => ?_)); replace H : Hp _ w _ ([.blk b1 (mfE m) 31]) := H
  refine l_op (o_val r_as ?_); refine l_op (o_val r_as ?_); first | refine l_end ?_ | refine l_nil ?_
  repeat refine c_seq ?_
  refine c_region ?_; refine l_op (o_val (r_ldA (C := mfE m) H (i := 0) rfl rfl rt31 (mfE_len _)) ?_); refine l_op (o_callR Tryz.func29 rfl rfl rfl (smay16_ret _ m (by first | omega | assumption) (by first | omega | assumption)) ?_); rintro _ w ⟨rfl, Hc⟩
  replace H : Hp _ w _ ([_]) := H.call Hc
  clear Hc
  have hk2 : (mMay m) = false := hm
  refine l_op (o_val (r_not rfl) ?_); first | refine l_end ?_ | refine l_nil ?_
  repeat refine c_seq ?_
  refine c_yes (by exact congrArg Value.bool (congrArg not hk2)) ?_; repeat refine c_seq ?_
  refine c_region ?_; refine l_op (o_val r_as ?_); refine l_op (o_val r_as ?_); first | refine l_end ?_ | refine l_nil ?_
  refine c_ret ?_; try dsimp only [Exit.then, Exit.inBlock]
  refine e_retN (vs := [.slice none 0 0, VI 1]) _ Tryz.results12 rfl (resT (v := .slice none 0 0) rfl (resT (v := VI 1) rfl (resZ))) ?_
  refine ⟨_, rfl, ?_⟩
  exact ⟨rfl, H.sub (List.nil_sublist _)⟩
end Go.Proofs.YthigalfaanccnaaGreat
namespace Go.Proofs.YthigalfaanccnaaGreat
open Go
set_option maxRecDepth 100000
/-- numbers as int64 adds them. -/
def wadd (a b : Int) : Int := IntKind.i64.wrap (a + b)
theorem b_addW {P : Program} {t : TypeId} {w : World} {a b : Int} : (binOp .add t (VI a) (VI b)).run P w = .ok (VI (wadd a b)) w := by
  simp [binOp, Op.intArith, wadd]
def sumL (l : List Nat) : Int := l.foldl (fun (n : Int) (x : Nat) => wadd n (x : Int)) 0
theorem sumL_snoc (l : List Nat) (x : Nat) : wadd (sumL l) (x : Int) = sumL (l ++ [x]) := by simp [sumL]
def mlen (m : Mf) : Nat := if mMay m = true then (mB m).length else 0
/-- what i blobs and j manifests have of bytes. -/
def useN (t : Tn) (i j : Nat) : Int := sumL (((t.blobs.l.take i).map fun b => b.data.len) ++ ((t.snaps.l.take j).map fun x => mlen x.mf))
theorem take_map {α β : Type} {f : α → β} {l : List α} {i : Nat} {c : α} (h : l[i]? = some c) : (l.take (i + 1)).map f = (l.take i).map f ++ [f c] := by
  rw [List.take_add_one, h]; simp
theorem useN_b {t : Tn} {i : Nat} {c : Bl} (h : t.blobs.l[i]? = some c) : wadd (useN t i 0) (c.data.len : Int) = useN t (i + 1) 0 := by
  rw [useN, useN, take_map h, List.take_zero, List.map_nil, List.append_nil, List.append_nil, sumL_snoc]
theorem useN_s {t : Tn} {b j n : Nat} {c : Sn} (h : t.snaps.l[j]? = some c) (hm : mMay c.mf = true) (hn : (mB c.mf).length = n) : wadd (useN t b j) (n : Int) = useN t b (j + 1) := by
  have e : n = mlen c.mf := by rw [mlen, if_pos hm, hn]
  rw [useN, useN, take_map h, e, sumL_snoc, List.append_assoc]
theorem useN_z {t : Tn} {b j : Nat} {c : Sn} (h : t.snaps.l[j]? = some c) (hm : mMay c.mf = false) : wadd (useN t b j) 0 = useN t b (j + 1) := by
  have e : 0 = mlen c.mf := by rw [mlen, if_neg (by rw [hm]; decide)]
  have := sumL_snoc (((t.blobs.l.take b).map fun b => b.data.len) ++ ((t.snaps.l.take j).map fun x => mlen x.mf)) 0
  rw [useN, useN, take_map h, ← e, ← List.append_assoc]
  exact this
theorem used_ret (w0 : World) (t : Tn) (hB : t.blobs.ok blE 33 w0) (hS : t.snaps.ok snE 36 w0) (hsn : ∀ c ∈ t.snaps.l, c.mf.time ≤ 9223372036854775807 ∧ c.mf.label.length ≤ 1099511627776) :
    Ret Tryz.prog 5 [.agg (tnE t).toArray] w0 fun v w' => v = VI (useN t t.blobs.len t.snaps.len) ∧ Hp w0 w' [] [] := by
  refine ret_mk Tryz.func5 rfl Tryz.ntmps5 (by simp) ?_
  have H := Hp.refl w0 []
  have hq1 := hB.le
  have hq2 := hB.mx
  have hq3 := hS.le
  have hq4 := hS.mx
  have hmL : maxLen = 9223372036854775807 := rfl
  repeat refine c_seq ?_
  refine c_region ?_; refine l_op (o_box (v := .agg (tnE t).toArray) H rfl (fun b1 w H hb1 => ?_)); replace H : Hp _ w _ ([.blk b1 (tnE t) 28]) := H
  refine l_op (o_val r_as ?_); first | refine l_end ?_ | refine l_nil ?_
  repeat refine c_seq ?_
  refine c_region ?_; refine l_op (o_val r_as ?_); first | refine l_end ?_ | refine l_nil ?_
  repeat refine c_seq ?_
  refine c_region ?_; refine l_op (o_val (r_fa rfl fo28_4) ?_); refine l_op (o_val (r_l1 (v := t.blobs.v) H (i := 0) rfl rfl ct24 (tnE_c4 _)) ?_); refine l_op (o_val (r_lens el24 rfl) ?_); refine l_op (o_val r_mv ?_); first | refine l_end ?_ | refine l_nil ?_
  repeat refine c_seq ?_
  refine c_block ?_; repeat refine c_seq ?_
  refine c_loop (fun (i : Nat) => [(1, .pointer (some ⟨b1, 0, none⟩)), (3, VI (useN t i 0)), (11, t.blobs.v), (12, VI (t.blobs.len : Int)), (13, VI (i : Int))])
    (fun (i : Nat) w => (i ≤ t.blobs.len) ∧ Hp w0 w [] ([.blk b1 (tnE t) 28]))
    (fun (i : Nat) => t.blobs.len - i) 0 ⟨rfl, rfl, rfl, rfl, rfl, trivial⟩ ⟨Nat.zero_le _, H⟩ ?_
  clear H
  rintro i τ w ⟨hi, H⟩
  repeat refine c_seq ?_
  refine c_region ?_; refine l_op (o_val (r_bin (a := (i : Int)) (b := (t.blobs.len : Int)) rfl rfl (fun _ => b_lss)) ?_); first | refine l_end ?_ | refine l_nil ?_
  by_cases hc2 : (i : Int) < (t.blobs.len : Int)
  ·
   repeat refine c_seq ?_
   refine c_yes (by exact congrArg Value.bool (decide_eq_true hc2)) ?_; refine c_skip ?_; repeat refine c_seq ?_
   refine c_block ?_; repeat refine c_seq ?_
   refine c_region ?_; have ah5 := ((hB.up H)).addr (by decide) (by first | omega | (dsimp only; omega))
   obtain ⟨ab3, ao4, ah5⟩ := ah5
   refine l_op (o_val (r_isN i rfl rfl el24 ah5 (by omega) (by (try simp only [Sl.cut]); omega)) ?_); have he7 : ∃ c, t.blobs.l[i]? = some c := ⟨_, List.getElem?_eq_getElem (by have := ((hB.up H)).ln; (try dsimp only at this ⊢); omega)⟩
   obtain ⟨e6, he7⟩ := he7
   have hez8 := ((hB.up H)).sz e6 (List.mem_of_getElem? he7)
   refine l_op (o_val (r_ldRow (s := t.blobs) (k := i) (hB.up H) ah5 rfl rt54 (by decide) he7) ?_); refine l_op (o_alloc H zc54 (fun b9 w H hb9 => ?_)); replace H : Hp _ w _ ([_, .blk b9 (blE (⟨(⟨List.replicate 32 (0 : UInt8), (show (List.replicate 32 (0 : UInt8)).length = 32 from (List.length_replicate ..))⟩ : Id32), ⟨none, 0, 0, []⟩⟩ : Bl)) 54]) := H
   refine l_op (o_stW (C' := blE e6) H (i := 1) rfl rfl rfl cs54 (blE_all _) (blE_len _) (blE_len _) (fun w H => ?_)); replace H : Hp _ w _ ([_, .blk b9 (blE e6) 54]) := H
   first | refine l_end ?_ | refine l_nil ?_
   repeat refine c_seq ?_
   refine c_region ?_; refine l_op (o_val r_mv ?_); refine l_op (o_val (r_fa rfl fo54_1) ?_); refine l_op (o_val (r_l1 (v := e6.data.v) H (i := 1) rfl rfl ct50 (blE_c1 _)) ?_); refine l_op (o_val (r_lens el50 rfl) ?_); refine l_op (o_val (r_bin (a := useN t i 0) (b := (e6.data.len : Int)) rfl rfl (fun _ => b_addW)) ?_); refine l_op (o_val r_as ?_); first | refine l_end ?_ | refine l_nil ?_
   repeat refine c_seq ?_
   refine c_region ?_; refine l_op (o_val (r_bin (a := (i : Int)) (b := 1) rfl rfl (fun _ => b_add (by omega) (by omega))) ?_); refine l_op (o_val r_mv ?_); first | refine l_end ?_ | refine l_nil ?_
   refine round_end (i + 1) ?_ ?_ ?_
   · exact ⟨rfl, (show (VI (wadd (useN t i 0) (e6.data.len : Int)) : Value) = VI (useN t (i + 1 : Nat) 0) from congrArg VI (useN_b he7)), rfl, rfl, show VI ((i : Int) + 1) = VI ((i + 1 : Nat) : Int) from congrArg VI (by omega), trivial⟩
   · refine ⟨?_, ?_⟩
     · try dsimp only
       exact by omega
     · exact H.sub (.cons_cons _ (List.nil_sublist _))
   · show t.blobs.len - (i + 1 : Nat) < t.blobs.len - i; omega
  ·
   repeat refine c_seq ?_
   refine c_no (by exact congrArg Value.bool (decide_eq_false hc2)) ?_; refine c_exit ?_; have hi2 : i = t.blobs.len := by omega
   subst hi2
   repeat refine c_seq ?_
   refine c_region ?_; refine l_op (o_val (r_fa rfl fo28_5) ?_); refine l_op (o_val (r_l1 (v := t.snaps.v) H (i := 0) rfl rfl ct25 (tnE_c5 _)) ?_); refine l_op (o_val (r_lens el25 rfl) ?_); refine l_op (o_val r_mv ?_); first | refine l_end ?_ | refine l_nil ?_
   repeat refine c_seq ?_
   refine c_block ?_; repeat refine c_seq ?_
   refine c_loop (fun (j : Nat) => [(3, VI (useN t t.blobs.len j)), (24, t.snaps.v), (25, VI (t.snaps.len : Int)), (26, VI (j : Int))])
     (fun (j : Nat) w => (j ≤ t.snaps.len) ∧ Hp w0 w [] ([.blk b1 (tnE t) 28]))
     (fun (j : Nat) => t.snaps.len - j) 0 ⟨rfl, rfl, rfl, rfl, trivial⟩ ⟨Nat.zero_le _, H⟩ ?_
   clear H
   rintro j τ w ⟨hj, H⟩
   repeat refine c_seq ?_
   refine c_region ?_; refine l_op (o_val (r_bin (a := (j : Int)) (b := (t.snaps.len : Int)) rfl rfl (fun _ => b_lss)) ?_); first | refine l_end ?_ | refine l_nil ?_
   by_cases hc10 : (j : Int) < (t.snaps.len : Int)
   ·
    repeat refine c_seq ?_
    refine c_yes (by exact congrArg Value.bool (decide_eq_true hc10)) ?_; refine c_skip ?_; repeat refine c_seq ?_
    refine c_block ?_; repeat refine c_seq ?_
    refine c_region ?_; have ah13 := ((hS.up H)).addr (by decide) (by first | omega | (dsimp only; omega))
    obtain ⟨ab11, ao12, ah13⟩ := ah13
    refine l_op (o_val (r_isN j rfl rfl el25 ah13 (by omega) (by (try simp only [Sl.cut]); omega)) ?_); have he15 : ∃ c, t.snaps.l[j]? = some c := ⟨_, List.getElem?_eq_getElem (by have := ((hS.up H)).ln; (try dsimp only at this ⊢); omega)⟩
    obtain ⟨e14, he15⟩ := he15
    have hez16 := ((hS.up H)).sz e14 (List.mem_of_getElem? he15)
    have hsn_e14 := hsn e14 (List.mem_of_getElem? he15)
    have hsa_e14 := hsn_e14.1
    have hsb_e14 := hsn_e14.2
    refine l_op (o_val (r_ldRow (s := t.snaps) (k := j) (hS.up H) ah13 rfl rt33 (by decide) he15) ?_); refine l_op (o_alloc H zc33 (fun b17 w H hb17 => ?_)); replace H : Hp _ w _ ([_, .blk b17 (snE (⟨0, (⟨(⟨List.replicate 32 (0 : UInt8), (show (List.replicate 32 (0 : UInt8)).length = 32 from (List.length_replicate ..))⟩ : Id32), 0, ([] : List UInt8)⟩ : Mf), 0⟩ : Sn)) 33]) := H
    refine l_op (o_stW (C' := snE e14) H (i := 1) rfl rfl rfl cs33 (snE_all _) (snE_len _) (snE_len _) (fun w H => ?_)); replace H : Hp _ w _ ([_, .blk b17 (snE e14) 33]) := H
    first | refine l_end ?_ | refine l_nil ?_
    repeat refine c_seq ?_
    refine c_region ?_; refine l_op (o_val (r_fa rfl fo33_1) ?_); refine l_op (o_val (r_lk H (i := 1) rfl rfl rt31 (snE_c1 _)) ?_); have hc180 := Bool.eq_false_or_eq_true (mMay e14.mf)
    rcases hc180 with hc18 | hc18
    ·
     refine l_op (o_callR Tryz.func11 rfl rfl rfl (sbytes_ok _ e14.mf (by first | omega | assumption) (by first | omega | assumption) hc18) ?_); rintro _ w ⟨a19, n20, c21, rfl, hmn22, Hc⟩
     replace H : Hp _ w _ ([_, _, .own a19 n20 c21 ((mB e14.mf).map V8) 5 1]) := H.call Hc
     clear Hc
     refine l_op (o_val r_mv ?_); refine l_op (o_val (r_ext rfl rfl) ?_); refine l_op (o_val (r_ext rfl rfl) ?_); refine l_op (o_val r_as ?_); refine l_op (o_val r_as ?_); first | refine l_end ?_ | refine l_nil ?_
     repeat refine c_seq ?_
     refine c_region ?_; refine l_op (o_val r_mv ?_); refine l_op (o_val r_mv ?_); refine l_op (o_val (r_lens el50 rfl) ?_); refine l_op (o_val (r_bin (a := useN t t.blobs.len j) (b := (n20 : Int)) rfl rfl (fun _ => b_addW)) ?_); refine l_op (o_val r_as ?_); first | refine l_end ?_ | refine l_nil ?_
     repeat refine c_seq ?_
     refine c_region ?_; refine l_op (o_val (r_bin (a := (j : Int)) (b := 1) rfl rfl (fun _ => b_add (by omega) (by omega))) ?_); refine l_op (o_val r_mv ?_); first | refine l_end ?_ | refine l_nil ?_
     refine round_end (j + 1) ?_ ?_ ?_
     · exact ⟨(show (VI (wadd (useN t t.blobs.len j) (n20 : Int)) : Value) = VI (useN t t.blobs.len (j + 1 : Nat)) from congrArg VI (useN_s he15 hc18 hmn22)), rfl, rfl, show VI ((j : Int) + 1) = VI ((j + 1 : Nat) : Int) from congrArg VI (by omega), trivial⟩
     · refine ⟨?_, ?_⟩
       · try dsimp only
         exact by omega
       · exact H.sub (.cons_cons _ (List.nil_sublist _))
     · show t.snaps.len - (j + 1 : Nat) < t.snaps.len - j; omega
    ·
     refine l_op (o_callR Tryz.func11 rfl rfl rfl (sbytes_no _ e14.mf (by first | omega | assumption) (by first | omega | assumption) hc18) ?_); rintro _ w ⟨rfl, Hc⟩
     replace H : Hp _ w _ ([_, _]) := H.call Hc
     clear Hc
     refine l_op (o_val r_mv ?_); refine l_op (o_val (r_ext rfl rfl) ?_); refine l_op (o_val (r_ext rfl rfl) ?_); refine l_op (o_val r_as ?_); refine l_op (o_val r_as ?_); first | refine l_end ?_ | refine l_nil ?_
     repeat refine c_seq ?_
     refine c_region ?_; refine l_op (o_val r_mv ?_); refine l_op (o_val r_mv ?_); refine l_op (o_val (r_lens el50 rfl) ?_); refine l_op (o_val (r_bin (a := useN t t.blobs.len j) (b := 0) rfl rfl (fun _ => b_addW)) ?_); refine l_op (o_val r_as ?_); first | refine l_end ?_ | refine l_nil ?_
     repeat refine c_seq ?_
     refine c_region ?_; refine l_op (o_val (r_bin (a := (j : Int)) (b := 1) rfl rfl (fun _ => b_add (by omega) (by omega))) ?_); refine l_op (o_val r_mv ?_); first | refine l_end ?_ | refine l_nil ?_
     refine round_end (j + 1) ?_ ?_ ?_
     · exact ⟨(show (VI (wadd (useN t t.blobs.len j) 0) : Value) = VI (useN t t.blobs.len (j + 1 : Nat)) from congrArg VI (useN_z he15 hc18)), rfl, rfl, show VI ((j : Int) + 1) = VI ((j + 1 : Nat) : Int) from congrArg VI (by omega), trivial⟩
     · refine ⟨?_, ?_⟩
       · try dsimp only
         exact by omega
       · exact H.sub (.cons_cons _ (List.nil_sublist _))
     · show t.snaps.len - (j + 1 : Nat) < t.snaps.len - j; omega
   ·
    repeat refine c_seq ?_
    refine c_no (by exact congrArg Value.bool (decide_eq_false hc10)) ?_; refine c_exit ?_; repeat refine c_seq ?_
    refine c_region ?_; refine l_op (o_val r_mv ?_); refine l_op (o_val r_as ?_); first | refine l_end ?_ | refine l_nil ?_
    refine c_ret ?_; try dsimp only [Exit.then, Exit.inBlock]
    refine e_ret1 (v := VI (useN t t.blobs.len j)) Tryz.results5 rfl ?_
    refine ⟨_, rfl, ?_⟩
    have hj2 : j = t.snaps.len := by omega
    subst hj2
    exact ⟨rfl, H.sub (List.nil_sublist _)⟩
theorem used27_ret (w0 : World) (t : Tn) (hB : t.blobs.ok blE 33 w0) (hS : t.snaps.ok snE 36 w0) (hsn : ∀ c ∈ t.snaps.l, c.mf.time ≤ 9223372036854775807 ∧ c.mf.label.length ≤ 1099511627776) :
    Ret Tryz.prog 6 [.agg (tnE t).toArray] w0 fun v w' => v = VI (useN t t.blobs.len t.snaps.len) ∧ Hp w0 w' [] [] := by
  refine ret_mk Tryz.func6 rfl Tryz.ntmps6 (by simp) ?_
  have H := Hp.refl w0 []
  have hq1 := hB.le
  have hq2 := hB.mx
  have hq3 := hS.le
  have hq4 := hS.mx
  have hmL : maxLen = 9223372036854775807 := rfl
  repeat refine c_seq ?_
  refine c_region ?_; refine l_op (o_box (v := .agg (tnE t).toArray) H rfl (fun b1 w H hb1 => ?_)); replace H : Hp _ w _ ([.blk b1 (tnE t) 28]) := H
  refine l_op (o_val r_as ?_); first | refine l_end ?_ | refine l_nil ?_
  repeat refine c_seq ?_
  refine c_region ?_; refine l_op (o_val r_as ?_); first | refine l_end ?_ | refine l_nil ?_
  repeat refine c_seq ?_
  refine c_region ?_; refine l_op (o_val r_as ?_); first | refine l_end ?_ | refine l_nil ?_
  repeat refine c_seq ?_
  refine c_block ?_; repeat refine c_seq ?_
  refine c_loop (fun (i : Nat) => [(1, .pointer (some ⟨b1, 0, none⟩)), (3, VI (useN t i 0)), (4, VI (i : Int))])
    (fun (i : Nat) w => (i ≤ t.blobs.len) ∧ Hp w0 w [] ([.blk b1 (tnE t) 28]))
    (fun (i : Nat) => t.blobs.len - i) 0 ⟨rfl, rfl, rfl, trivial⟩ ⟨Nat.zero_le _, H⟩ ?_
  clear H
  rintro i τ w ⟨hi, H⟩
  repeat refine c_seq ?_
  refine c_region ?_; refine l_op (o_val r_mv ?_); refine l_op (o_val (r_fa rfl fo28_4) ?_); refine l_op (o_val (r_l1 (v := t.blobs.v) H (i := 0) rfl rfl ct24 (tnE_c4 _)) ?_); refine l_op (o_val (r_lens el24 rfl) ?_); refine l_op (o_val (r_bin (a := (i : Int)) (b := (t.blobs.len : Int)) rfl rfl (fun _ => b_lss)) ?_); first | refine l_end ?_ | refine l_nil ?_
  by_cases hc2 : (i : Int) < (t.blobs.len : Int)
  ·
   repeat refine c_seq ?_
   refine c_yes (by exact congrArg Value.bool (decide_eq_true hc2)) ?_; refine c_skip ?_; repeat refine c_seq ?_
   refine c_block ?_; repeat refine c_seq ?_
   refine c_region ?_; refine l_op (o_val r_mv ?_); refine l_op (o_val (r_fa rfl fo28_4) ?_); refine l_op (o_val (r_l1 (v := t.blobs.v) H (i := 0) rfl rfl ct24 (tnE_c4 _)) ?_); refine l_op (o_val r_mv ?_); have ah5 := ((hB.up H)).addr (by decide) (by first | omega | (dsimp only; omega))
   obtain ⟨ab3, ao4, ah5⟩ := ah5
   refine l_op (o_val (r_isN i rfl rfl el24 ah5 (by omega) (by (try simp only [Sl.cut]); omega)) ?_); refine l_op (o_val (r_fa rfl fo54_1) ?_); have he7 : ∃ c, t.blobs.l[i]? = some c := ⟨_, List.getElem?_eq_getElem (by have := ((hB.up H)).ln; (try dsimp only at this ⊢); omega)⟩
   obtain ⟨e6, he7⟩ := he7
   have hez8 := ((hB.up H)).sz e6 (List.mem_of_getElem? he7)
   refine l_op (o_val (r_g1 (v := e6.data.v) (s := t.blobs) (j := i) (hB.up H) ah5 rfl ct50 he7 (by decide) (blE_c1 _)) ?_); refine l_op (o_val (r_lens el50 rfl) ?_); refine l_op (o_val (r_bin (a := useN t i 0) (b := (e6.data.len : Int)) rfl rfl (fun _ => b_addW)) ?_); refine l_op (o_val r_as ?_); first | refine l_end ?_ | refine l_nil ?_
   repeat refine c_seq ?_
   refine c_region ?_; refine l_op (o_val r_mv ?_); refine l_op (o_val (r_bin (a := (i : Int)) (b := 1) rfl rfl (fun _ => b_add (by omega) (by omega))) ?_); refine l_op (o_val r_as ?_); first | refine l_end ?_ | refine l_nil ?_
   refine round_end (i + 1) ?_ ?_ ?_
   · exact ⟨rfl, (show (VI (wadd (useN t i 0) (e6.data.len : Int)) : Value) = VI (useN t (i + 1 : Nat) 0) from congrArg VI (useN_b he7)), show VI ((i : Int) + 1) = VI ((i + 1 : Nat) : Int) from congrArg VI (by omega), trivial⟩
   · refine ⟨?_, ?_⟩
     · try dsimp only
       exact by omega
     · exact H
   · show t.blobs.len - (i + 1 : Nat) < t.blobs.len - i; omega
  ·
   repeat refine c_seq ?_
   refine c_no (by exact congrArg Value.bool (decide_eq_false hc2)) ?_; refine c_exit ?_; have hi2 : i = t.blobs.len := by omega
   subst hi2
   repeat refine c_seq ?_
   refine c_region ?_; refine l_op (o_val r_as ?_); first | refine l_end ?_ | refine l_nil ?_
   repeat refine c_seq ?_
   refine c_block ?_; repeat refine c_seq ?_
   refine c_loop (fun (j : Nat) => [(1, .pointer (some ⟨b1, 0, none⟩)), (3, VI (useN t t.blobs.len j)), (5, VI (j : Int))])
     (fun (j : Nat) w => (j ≤ t.snaps.len) ∧ Hp w0 w [] ([.blk b1 (tnE t) 28]))
     (fun (j : Nat) => t.snaps.len - j) 0 ⟨rfl, rfl, rfl, trivial⟩ ⟨Nat.zero_le _, H⟩ ?_
   clear H
   rintro j τ w ⟨hj, H⟩
   repeat refine c_seq ?_
   refine c_region ?_; refine l_op (o_val r_mv ?_); refine l_op (o_val (r_fa rfl fo28_5) ?_); refine l_op (o_val (r_l1 (v := t.snaps.v) H (i := 0) rfl rfl ct25 (tnE_c5 _)) ?_); refine l_op (o_val (r_lens el25 rfl) ?_); refine l_op (o_val (r_bin (a := (j : Int)) (b := (t.snaps.len : Int)) rfl rfl (fun _ => b_lss)) ?_); first | refine l_end ?_ | refine l_nil ?_
   by_cases hc9 : (j : Int) < (t.snaps.len : Int)
   ·
    repeat refine c_seq ?_
    refine c_yes (by exact congrArg Value.bool (decide_eq_true hc9)) ?_; refine c_skip ?_; repeat refine c_seq ?_
    refine c_block ?_; repeat refine c_seq ?_
    refine c_region ?_; refine l_op (o_val (r_fa rfl fo28_5) ?_); refine l_op (o_val (r_l1 (v := t.snaps.v) H (i := 0) rfl rfl ct25 (tnE_c5 _)) ?_); refine l_op (o_val r_mv ?_); have ah12 := ((hS.up H)).addr (by decide) (by first | omega | (dsimp only; omega))
    obtain ⟨ab10, ao11, ah12⟩ := ah12
    refine l_op (o_val (r_isN j rfl rfl el25 ah12 (by omega) (by (try simp only [Sl.cut]); omega)) ?_); refine l_op (o_val (r_fa rfl fo33_1) ?_); have he14 : ∃ c, t.snaps.l[j]? = some c := ⟨_, List.getElem?_eq_getElem (by have := ((hS.up H)).ln; (try dsimp only at this ⊢); omega)⟩
    obtain ⟨e13, he14⟩ := he14
    have hez15 := ((hS.up H)).sz e13 (List.mem_of_getElem? he14)
    have hsn_e13 := hsn e13 (List.mem_of_getElem? he14)
    have hsa_e13 := hsn_e13.1
    have hsb_e13 := hsn_e13.2
    refine l_op (o_val (r_gk (s := t.snaps) (j := j) (hS.up H) ah12 rfl rt31 (by decide) he14 (snE_c1 _)) ?_); have hc160 := Bool.eq_false_or_eq_true (mMay e13.mf)
    rcases hc160 with hc16 | hc16
    ·
     refine l_op (o_callR Tryz.func12 rfl rfl rfl (sbytes16_ok _ e13.mf (by first | omega | assumption) (by first | omega | assumption) hc16) ?_); rintro _ w ⟨a17, n18, c19, rfl, hmn20, Hc⟩
     replace H : Hp _ w _ ([_, .own a17 n18 c19 ((mB e13.mf).map V8) 5 1]) := H.call Hc
     clear Hc
     refine l_op (o_val r_mv ?_); refine l_op (o_val (r_ext rfl rfl) ?_); refine l_op (o_val (r_ext rfl rfl) ?_); refine l_op (o_val r_as ?_); refine l_op (o_val r_as ?_); first | refine l_end ?_ | refine l_nil ?_
     repeat refine c_seq ?_
     refine c_region ?_; refine l_op (o_val r_mv ?_); refine l_op (o_val r_mv ?_); refine l_op (o_val (r_lens el50 rfl) ?_); refine l_op (o_val (r_bin (a := useN t t.blobs.len j) (b := (n18 : Int)) rfl rfl (fun _ => b_addW)) ?_); refine l_op (o_val r_as ?_); first | refine l_end ?_ | refine l_nil ?_
     repeat refine c_seq ?_
     refine c_region ?_; refine l_op (o_val r_mv ?_); refine l_op (o_val (r_bin (a := (j : Int)) (b := 1) rfl rfl (fun _ => b_add (by omega) (by omega))) ?_); refine l_op (o_val r_as ?_); first | refine l_end ?_ | refine l_nil ?_
     refine round_end (j + 1) ?_ ?_ ?_
     · exact ⟨rfl, (show (VI (wadd (useN t t.blobs.len j) (n18 : Int)) : Value) = VI (useN t t.blobs.len (j + 1 : Nat)) from congrArg VI (useN_s he14 hc16 hmn20)), show VI ((j : Int) + 1) = VI ((j + 1 : Nat) : Int) from congrArg VI (by omega), trivial⟩
     · refine ⟨?_, ?_⟩
       · try dsimp only
         exact by omega
       · exact H.sub (.cons_cons _ (List.nil_sublist _))
     · show t.snaps.len - (j + 1 : Nat) < t.snaps.len - j; omega
    ·
     refine l_op (o_callR Tryz.func12 rfl rfl rfl (sbytes16_no _ e13.mf (by first | omega | assumption) (by first | omega | assumption) hc16) ?_); rintro _ w ⟨rfl, Hc⟩
     replace H : Hp _ w _ ([_]) := H.call Hc
     clear Hc
     refine l_op (o_val r_mv ?_); refine l_op (o_val (r_ext rfl rfl) ?_); refine l_op (o_val (r_ext rfl rfl) ?_); refine l_op (o_val r_as ?_); refine l_op (o_val r_as ?_); first | refine l_end ?_ | refine l_nil ?_
     repeat refine c_seq ?_
     refine c_region ?_; refine l_op (o_val r_mv ?_); refine l_op (o_val r_mv ?_); refine l_op (o_val (r_lens el50 rfl) ?_); refine l_op (o_val (r_bin (a := useN t t.blobs.len j) (b := 0) rfl rfl (fun _ => b_addW)) ?_); refine l_op (o_val r_as ?_); first | refine l_end ?_ | refine l_nil ?_
     repeat refine c_seq ?_
     refine c_region ?_; refine l_op (o_val r_mv ?_); refine l_op (o_val (r_bin (a := (j : Int)) (b := 1) rfl rfl (fun _ => b_add (by omega) (by omega))) ?_); refine l_op (o_val r_as ?_); first | refine l_end ?_ | refine l_nil ?_
     refine round_end (j + 1) ?_ ?_ ?_
     · exact ⟨rfl, (show (VI (wadd (useN t t.blobs.len j) 0) : Value) = VI (useN t t.blobs.len (j + 1 : Nat)) from congrArg VI (useN_z he14 hc16)), show VI ((j : Int) + 1) = VI ((j + 1 : Nat) : Int) from congrArg VI (by omega), trivial⟩
     · refine ⟨?_, ?_⟩
       · try dsimp only
         exact by omega
       · exact H
     · show t.snaps.len - (j + 1 : Nat) < t.snaps.len - j; omega
   ·
    repeat refine c_seq ?_
    refine c_no (by exact congrArg Value.bool (decide_eq_false hc9)) ?_; refine c_exit ?_; repeat refine c_seq ?_
    refine c_region ?_; refine l_op (o_val r_mv ?_); refine l_op (o_val r_as ?_); first | refine l_end ?_ | refine l_nil ?_
    refine c_ret ?_; try dsimp only [Exit.then, Exit.inBlock]
    refine e_ret1 (v := VI (useN t t.blobs.len j)) Tryz.results6 rfl ?_
    refine ⟨_, rfl, ?_⟩
    have hj2 : j = t.snaps.len := by omega
    subst hj2
    exact ⟨rfl, H.sub (List.nil_sublist _)⟩
end Go.Proofs.YthigalfaanccnaaGreat
namespace Go.Proofs.YthigalfaanccnaaGreat
open Go
theorem Hp.shrinkV {w0 w : World} {S : List Nat} {L : List Ch} (H : Hp w0 w S L) {i n c m sz : Nat} {a : Option Nat} {xs : List Value} {T : TypeId} (hi : L[i]? = some (.own a n c xs T sz)) (hm : m ≤ n) : Hp w0 w S (L.set i (.own a m c (xs.take (m * sz)) T sz)) := by
  have h := H.has _ (List.mem_of_getElem? hi)
  refine H.turn hi (c' := .own a m c (xs.take (m * sz)) T sz) ?_ (fun b hb => .inl ?_) rfl rfl rfl (Nat.le_refl _) (fun _ _ _ => rfl)
  · cases a with
    | none =>
      obtain ⟨h1, h2, h3⟩ := h
      exact ⟨by omega, h2, by rw [h3]; simp⟩
    | some b =>
      obtain ⟨q1, q2, q3, rest, hw, q5⟩ := h
      refine ⟨?_, by omega, q3, xs.drop (m * sz) ++ rest, ?_, ?_⟩
      · rw [List.length_take, q1]; exact Nat.min_eq_left (Nat.mul_le_mul_right sz hm)
      · rw [← List.append_assoc, List.take_append_drop]; exact hw
      · rw [← List.append_assoc, List.take_append_drop]; exact q5
  · cases a with
    | none => cases hb
    | some b' => exact hb
section
variable {P : Program} {Q : Exit → Act → World → Prop} {n : Nat} {σ : Nat → Value} {w w0 : World} {K : Act → World → Prop}
  {ty : TypeId} {pos : String} {aft : Array Edge} {g : Option (Nat × Bool)} {d : Nat} {t : TypeId} {x y : Operand} {S : List Nat} {L : List Ch}
end
section
variable {P : Program} {Q : Exit → Act → World → Prop} {n : Nat} {σ : Nat → Value} {w w0 : World} {K : Act → World → Prop}
  {ty : TypeId} {pos : String} {aft : Array Edge} {g : Option (Nat × Bool)} {d : Nat} {t : TypeId} {S : List Nat} {L : List Ch}
end
end Go.Proofs.YthigalfaanccnaaGreat
namespace Go.Proofs.YthigalfaanccnaaGreat
open Go
section
variable {P : Program} {Q : Exit → Act → World → Prop} {n : Nat} {σ : Nat → Value} {w w0 : World} {K : Act → World → Prop}
  {ty : TypeId} {pos : String} {aft : Array Edge} {g : Option (Nat × Bool)} {d : Nat} {t tx : TypeId} {x y : Operand} {S : List Nat} {L : List Ch}
theorem zeroCells_one (v : Value) (m : Nat) : (Builtin.zeroCells #[v] m).toList = List.replicate m v := by
  refine List.eq_replicate_iff.2 ⟨by simp [Builtin.zeroCells], fun b hb => ?_⟩
  simp only [Builtin.zeroCells, Array.toList_map, List.mem_map] at hb
  obtain ⟨i, _, rfl⟩ := hb
  have e : i % (#[v] : Array Value).size = 0 := Nat.mod_one i
  rw [e]; rfl
theorem o_appZ {e : TypeId} {k kn : IntKind} {m : Nat} (h0 : 0 < m) (H : Hp w0 w S L) (hT : SlTy P t e 1 1) (hz : zeroCells P e = some [.int .u8 0]) (hn : P.underlying tx = some (.int kn)) (hx : ev n σ x = .slice none 0 0) (hy : ev n σ y = .int k (m : Int)) (hm : m ≤ 1099511627776)
    (h : ∀ b c w', m ≤ c → c ≤ maxLen → Hp w0 w' S (L ++ [.own (some b) m c ((List.replicate m (0 : UInt8)).map V8) e 1]) → K (mk n (up σ d (.slice (hd (some b)) m c))) w') :
    Oper.wp P ⟨some d, .call ⟨.builtin .append, #[x, y], #[t, tx]⟩, ty, pos, aft, g⟩ (mk n σ) w K Q := by
  obtain ⟨inf, zv, hinf, hzv, hsize, hby, hzs⟩ := hT.row
  have hzc : zv.cells.toList = [.int .u8 0] := by simpa [Go.Proofs.YthigalfaanccnaaGreat.zeroCells, hinf, hzv] using hz
  have hzc' : zv.cells = #[.int .u8 0] := by apply Array.ext'; simpa using hzc
  have hr := Go.Lib.run_append_nil_zeros (P := P) w t tx ty e inf zv k kn hT.und hn hinf hzv m h0 (by omega) (by omega) (by rw [hby]; omega)
  have hge := grownCap_ge w m 0 e
  have hgm := grownCap_le_maxLen w m 0 e (by simp [maxLen]; omega)
  generalize hcc : grownCap w m 0 e = cc at *
  refine o_val (run_builtin (s := Builtin.append_ #[t, tx] ty #[.slice none 0 0, .int k m]) (vs := #[.slice none 0 0, .int k m]) (by simp [hx, hy]) (fun _ => rfl) hr) (h w.heap.size cc _ hge hgm ?_)
  rw [hzc']
  refine H.drew.new _ (.own (some w.heap.size) m cc ((List.replicate m (0 : UInt8)).map V8) e 1) rfl ⟨by simp, hge, hgm, List.replicate (cc - m) (V8 0), ?_, by simp; omega⟩; have := heap_alloc_new' w.drew (.cells (Builtin.zeroCells #[.int .u8 0] m ++ Builtin.zeroCells #[.int .u8 0] (cc - m)) e)
  simp only [World.size_drew] at this
  rw [this]
  congr 2
  apply Array.ext'
  simp [zeroCells_one, V8]
/-- values of one cell that stand anywhere, behind such of one's own. -/
theorem o_appR {i : Nat} {a : Option Nat} {a2 : Option Addr} {len cap len2 cap2 bytes : Nat} {xs ys zs : List Value} {len' : Nat} {e e' : TypeId} (el : xs ++ ys = zs) (en : len + len2 = len') (H : Hp w0 w S L) (hi : L[i]? = some (.own a len cap xs e 1)) (hr : RdS w a2 ys) (hl : ys.length = len2) (hT : SlTy P t e 1 bytes) (hu : P.underlying tx = some (.slice e'))
    (hx : ev n σ x = .slice (hd a) len cap) (hy : ev n σ y = .slice a2 len2 cap2) (h1 : ys.all (·.oneCell') = true) (hm : len' ≤ 1099511627776) (hb : bytes ≤ 128)
    (h : ∀ a' cap' w', Hp w0 w' S (L.set i (.own a' len' cap' zs e 1)) → K (mk n (up σ d (.slice (hd a') len' cap'))) w') :
    Oper.wp P ⟨some d, .call ⟨.builtin .append, #[x, y], #[t, tx]⟩, ty, pos, aft, g⟩ (mk n σ) w K Q := by
  subst el en
  refine o_app (m := len2) (news := ys) H hi hT hx hy (RdS.src hu hr (by omega) (by decide) (by simpa using h1)) (by decide) (by omega) ?_ fun a' cap' w' H' => h a' cap' w' H'
  exact Nat.le_trans (Nat.mul_le_mul hm hb) (by decide)
theorem r_mkfn {f : FuncId} {xs : Array Operand} {vs : List Value} (hx : evs n σ xs.toList = vs) : (execOp (ev n σ) ⟨some d, .makeFunc (.func f) #[] xs, ty, pos, aft, g⟩).run P w = .ok (.value (.func (.func f) #[] vs.toArray)) w := by
  have h : xs.map (ev n σ) = vs.toArray := by apply Array.ext'; rw [← hx, evs_eq]; simp
  simp [execOp, h, Instr.makeFunc]
theorem r_mx {k : IntKind} {a b c : Int} {ats : Array TypeId} (hx : ev n σ x = .int k a) (hy : ev n σ y = .int k b) (hc : (if a < b then b else a) = c) :
    (execOp (ev n σ) ⟨some d, .call ⟨.builtin .max, #[x, y], ats⟩, ty, pos, aft, g⟩).run P w = .ok (.value (.int k c)) w := by
  rw [← hc]; exact r_max hx hy
end
end Go.Proofs.YthigalfaanccnaaGreat
namespace Go.Proofs.YthigalfaanccnaaGreat
open Go
set_option maxRecDepth 100000
structure Rk where
  key : Id32
  data : Sl
def rkE (x : Rk) : List Value := (x.key.1).map V8 ++ (([x.data.v] : List Value))
theorem rkE_len (x : Rk) : (rkE x).length = 33 := by
  show ((x.key.1).map V8 ++ (([x.data.v] : List Value))).length = 33
  exact (by simp only [List.length_append, List.length_map, List.length_cons, List.length_nil, (show (x.key.1).length = 32 from x.key.2)])
theorem rkE_all (x : Rk) : (rkE x).all (·.oneCell') = true := by
  show ((x.key.1).map V8 ++ (([x.data.v] : List Value))).all (·.oneCell') = true
  simp only [List.all_append, List.all_cons, List.all_nil, List.all_map]; simp [Value.oneCell', Function.comp_def, Sl.v]
theorem rkE_c0 (x : Rk) : Cut3 (rkE x) (([] : List Value)) ((x.key.1).map V8) (([x.data.v] : List Value)) 0 32 :=
  ⟨by simp only [rkE, List.nil_append], (by rfl), (by simp only [List.length_map, (show (x.key.1).length = 32 from x.key.2)])⟩
theorem rkE_p0 (x : Rk) (v : Id32) : Put3 (rkE x) (rkE ⟨v, x.data⟩) ((x.key.1).map V8) ((v.1).map V8) 0 32 :=
  .of (rkE_c0 x) (by simp only [rkE, List.nil_append]) (by simp only [List.length_map, (show (v.1).length = 32 from v.2)])
theorem rkE_c1 (x : Rk) : Cut3 (rkE x) ((x.key.1).map V8) (([x.data.v] : List Value)) (([] : List Value)) 32 1 :=
  ⟨by simp only [rkE, List.append_nil], (by simp only [List.length_map, (show (x.key.1).length = 32 from x.key.2)]), (by rfl)⟩
theorem rkE_p1 (x : Rk) (v : Sl) : Put3 (rkE x) (rkE ⟨x.key, v⟩) (([x.data.v] : List Value)) (([v.v] : List Value)) 32 1 :=
  .of (rkE_c1 x) (by simp only [rkE, List.append_nil]) (by rfl)
def len8 : List UInt8 := [0, 1, 2, 2, 3, 3, 3, 3, 4, 4, 4, 4, 4, 4, 4, 4, 5, 5, 5, 5, 5, 5, 5, 5, 5, 5, 5, 5, 5, 5, 5, 5, 6, 6, 6, 6, 6, 6, 6, 6, 6, 6, 6, 6, 6, 6, 6, 6, 6, 6, 6, 6, 6, 6, 6, 6, 6, 6, 6, 6, 6, 6, 6, 6, 7, 7, 7, 7, 7, 7, 7, 7, 7, 7, 7, 7, 7, 7, 7, 7, 7, 7, 7, 7, 7, 7, 7, 7, 7, 7, 7, 7, 7, 7, 7, 7, 7, 7, 7, 7, 7, 7, 7, 7, 7, 7, 7, 7, 7, 7, 7, 7, 7, 7, 7, 7, 7, 7, 7, 7, 7, 7, 7, 7, 7, 7, 7, 7, 8, 8, 8, 8, 8, 8, 8, 8, 8, 8, 8, 8, 8, 8, 8, 8, 8, 8, 8, 8, 8, 8, 8, 8, 8, 8, 8, 8, 8, 8, 8, 8, 8, 8, 8, 8, 8, 8, 8, 8, 8, 8, 8, 8, 8, 8, 8, 8, 8, 8, 8, 8, 8, 8, 8, 8, 8, 8, 8, 8, 8, 8, 8, 8, 8, 8, 8, 8, 8, 8, 8, 8, 8, 8, 8, 8, 8, 8, 8, 8, 8, 8, 8, 8, 8, 8, 8, 8, 8, 8, 8, 8, 8, 8, 8, 8, 8, 8, 8, 8, 8, 8, 8, 8, 8, 8, 8, 8, 8, 8, 8, 8, 8, 8, 8, 8, 8, 8, 8, 8, 8, 8, 8, 8, 8, 8, 8, 8]
theorem len8_len : len8.length = 256 := by rfl
theorem b_sub0 {P : Program} {t : TypeId} {w : World} {a : Int} (h : -9223372036854775808 ≤ a ∧ a ≤ 9223372036854775807) : (binOp .sub t (VI a) (VI 0)).run P w = .ok (VI a) w := by
  have := b_sub (P := P) (t := t) (w := w) (a := a) (b := 0) (by omega) (by omega)
  rwa [Int.sub_zero] at this
theorem b_addE {P : Program} {t : TypeId} {w : World} {a b c : Int} (h : a + b = c) (h1 : -9223372036854775808 ≤ c) (h2 : c ≤ 9223372036854775807) : (binOp .add t (VI a) (VI b)).run P w = .ok (VI c) w := by
  subst h; exact b_add h1 h2
theorem all3 {a b c : Sl} {w : World} (ha : a.ok w) (hb : b.ok w) (hc : c.ok w) : ∀ p ∈ [a, b, c], p.ok w := by
  intro p hp
  simp only [List.mem_cons, List.not_mem_nil, or_false] at hp
  rcases hp with rfl | rfl | rfl <;> assumption
theorem len64_ret (w0 : World) (u : UInt64) (hu : u.toNat ≤ 1) :
    Ret Tryz.prog 84 [V64 u] w0 fun v w' => ∃ x : Int, v = VI x ∧ Hp w0 w' [] [] := by
  refine ret_mk Tryz.func84 rfl Tryz.ntmps84 (by simp) ?_
  have H := Hp.refl w0 []
  repeat refine c_seq ?_
  refine c_region ?_; refine l_op (o_val r_as ?_); first | refine l_end ?_ | refine l_nil ?_
  repeat refine c_seq ?_
  refine c_region ?_; refine l_op (o_val r_mv ?_); refine l_op (o_val (r_bin (a := (u.toNat : Int)) (b := 4294967296) rfl rfl (fun _ => b_geqB false (decide_eq_false (by omega)))) ?_); first | refine l_end ?_ | refine l_nil ?_
  repeat refine c_seq ?_
  refine c_no rfl ?_; refine c_skip ?_; repeat refine c_seq ?_
  refine c_region ?_; refine l_op (o_val r_mv ?_); refine l_op (o_val (r_bin (a := (u.toNat : Int)) (b := 65536) rfl rfl (fun _ => b_geqB false (decide_eq_false (by omega)))) ?_); first | refine l_end ?_ | refine l_nil ?_
  repeat refine c_seq ?_
  refine c_no rfl ?_; refine c_skip ?_; repeat refine c_seq ?_
  refine c_region ?_; refine l_op (o_val r_mv ?_); refine l_op (o_val (r_bin (a := (u.toNat : Int)) (b := 256) rfl rfl (fun _ => b_geqB false (decide_eq_false (by omega)))) ?_); first | refine l_end ?_ | refine l_nil ?_
  repeat refine c_seq ?_
  refine c_no rfl ?_; refine c_skip ?_; repeat refine c_seq ?_
  refine c_region ?_; refine l_op (o_val r_mv ?_); refine l_op (o_val r_mv ?_); refine l_op (o_val (r_conv Tryz.underlying36 Tryz.underlying5 rfl (w_u8_64 _)) ?_); have hu8 := u8_lt u.toUInt8
  have hl8 := len8_len
  have hg8 := u8_lt (len8.getD (u.toUInt8).toNat 0)
  refine l_op (o_val (r_idxS (l := len8) (u.toUInt8).toNat Tryz.underlying9 rfl rfl (by omega) (by omega)) ?_); refine l_op (o_val (r_conv Tryz.underlying5 Tryz.underlying3 rfl (w_i64_8 _)) ?_); refine l_op (o_val (r_bin (a := 0) (b := ((len8.getD (u.toUInt8).toNat 0).toNat : Int)) rfl rfl (fun _ => b_add (by omega) (by omega))) ?_); refine l_op (o_val r_as ?_); first | refine l_end ?_ | refine l_nil ?_
  refine c_ret ?_; try dsimp only [Exit.then, Exit.inBlock]
  refine e_ret1 (v := VI (0 + ((len8.getD (u.toUInt8).toNat 0).toNat : Int))) Tryz.results84 rfl ?_
  refine ⟨_, rfl, ?_⟩
  exact ⟨_, rfl, H⟩
theorem blen_ret (w0 : World) (u : UInt64) (hu : u.toNat ≤ 1) :
    Ret Tryz.prog 37 [V64 u] w0 fun v w' => ∃ x : Int, v = VI x ∧ Hp w0 w' [] [] := by
  refine ret_mk Tryz.func37 rfl Tryz.ntmps37 (by simp) ?_
  have H := Hp.refl w0 []
  repeat refine c_seq ?_
  refine c_region ?_; refine l_op (o_val r_as ?_); first | refine l_end ?_ | refine l_nil ?_
  repeat refine c_seq ?_
  refine c_no rfl ?_; refine c_skip ?_; repeat refine c_seq ?_
  refine c_region ?_; refine l_op (o_val r_mv ?_); refine l_op (o_callR Tryz.func84 rfl rfl rfl (len64_ret _ (u) (by first | decide | omega)) ?_); rintro _ w ⟨x1, rfl, Hc⟩
  replace H : Hp _ w _ ([]) := H.call Hc
  clear Hc
  refine l_op (o_val r_as ?_); first | refine l_end ?_ | refine l_nil ?_
  refine c_ret ?_; try dsimp only [Exit.then, Exit.inBlock]
  refine e_ret1 (v := VI x1) Tryz.results37 rfl ?_
  refine ⟨_, rfl, ?_⟩
  exact ⟨_, rfl, H⟩
theorem ins_75 (w0 : World) (x : Value) (f : Value) :
    Ret Tryz.prog 75 [x, VI 0, VI 1, f] w0 fun v w' => v = .tuple #[] ∧ Hp w0 w' [] [] := by
  refine ret_mk Tryz.func75 rfl Tryz.ntmps75 (by simp) ?_
  have H := Hp.refl w0 []
  repeat refine c_seq ?_
  refine c_region ?_; refine l_op (o_val r_mv ?_); refine l_op (o_val (r_bin (a := 0) (b := 1) rfl rfl (fun _ => b_add (by omega) (by omega))) ?_); refine l_op (o_val r_as ?_); first | refine l_end ?_ | refine l_nil ?_
  repeat refine c_seq ?_
  refine c_block ?_; repeat refine c_seq ?_
  refine c_loop (fun (i : Nat) => [(0, x), (1, VI 0), (2, VI 1), (3, f), (8, VI (i : Int))])
    (fun (i : Nat) w => (i = 1) ∧ Hp w0 w [] ([]))
    (fun (i : Nat) => 0) 1 ⟨rfl, rfl, rfl, rfl, rfl, trivial⟩ ⟨rfl, H⟩ ?_
  clear H
  rintro i τ w ⟨hi, H⟩
  repeat refine c_seq ?_
  refine c_region ?_; refine l_op (o_val r_mv ?_); refine l_op (o_val r_mv ?_); refine l_op (o_val (r_bin (a := (i : Int)) (b := 1) rfl rfl (fun _ => b_lssB false (decide_eq_false (by omega)))) ?_); first | refine l_end ?_ | refine l_nil ?_
  repeat refine c_seq ?_
  refine c_no rfl ?_; refine c_exit ?_; try simp only [Exit.then, Exit.inBlock, ↓reduceIte]
  refine e_norm ?_; refine e_ret0 Tryz.results75 ?_
  refine ⟨_, rfl, ?_⟩
  exact ⟨rfl, H⟩
theorem pdq_36 (w0 : World) (x : Value) (m : Int) (f : Value) :
    Ret Tryz.prog 36 [x, VI 0, VI 1, VI m, f] w0 fun v w' => v = .tuple #[] ∧ Hp w0 w' [] [] := by
  refine ret_mk Tryz.func36 rfl Tryz.ntmps36 (by simp) ?_
  have H := Hp.refl w0 []
  repeat refine c_seq ?_
  refine c_region ?_; refine l_op (o_val r_as ?_); first | refine l_end ?_ | refine l_nil ?_
  repeat refine c_seq ?_
  refine c_region ?_; refine l_op (o_val r_as ?_); first | refine l_end ?_ | refine l_nil ?_
  repeat refine c_seq ?_
  refine c_block ?_; repeat refine c_seq ?_
  refine c_loop (fun (i : Nat) => [(0, x), (1, VI 0), (2, VI 1), (3, VI m), (4, f), (10, .bool true), (11, .bool true)])
    (fun (i : Nat) w => (i = 0) ∧ Hp w0 w [] ([]))
    (fun (i : Nat) => 0) 0 ⟨rfl, rfl, rfl, rfl, rfl, rfl, rfl, trivial⟩ ⟨rfl, H⟩ ?_
  clear H
  rintro i τ w ⟨hi, H⟩
  repeat refine c_seq ?_
  refine c_block ?_; repeat refine c_seq ?_
  refine c_region ?_; refine l_op (o_val r_mv ?_); refine l_op (o_val r_mv ?_); refine l_op (o_val (r_bin (a := 1) (b := 0) rfl rfl (fun _ => b_sub (by omega) (by omega))) ?_); refine l_op (o_val r_as ?_); first | refine l_end ?_ | refine l_nil ?_
  repeat refine c_seq ?_
  refine c_region ?_; refine l_op (o_val r_mv ?_); refine l_op (o_val (r_bin (a := 1 - 0) (b := 12) rfl rfl (fun _ => b_leqB true (decide_eq_true (by omega)))) ?_); first | refine l_end ?_ | refine l_nil ?_
  repeat refine c_seq ?_
  refine c_yes rfl ?_; repeat refine c_seq ?_
  refine c_region ?_; refine l_op (o_val r_mv ?_); refine l_op (o_val r_mv ?_); refine l_op (o_val r_mv ?_); refine l_op (o_val r_mv ?_); refine l_op (o_callR Tryz.func75 rfl rfl rfl (ins_75 _ x f) ?_); rintro _ w ⟨rfl, Hc⟩
  replace H : Hp _ w _ ([]) := H.call Hc
  clear Hc
  first | refine l_end ?_ | refine l_nil ?_
  refine c_ret ?_; try dsimp only [Exit.then, Exit.inBlock]
  refine e_ret0 Tryz.results36 ?_
  refine ⟨_, rfl, ?_⟩
  exact ⟨rfl, H⟩
theorem sort_18 (w0 : World) (a : Option Addr) (c : Nat) (f : Value) :
    Ret Tryz.prog 18 [.slice a 1 c, f] w0 fun v w' => v = .tuple #[] ∧ Hp w0 w' [] [] := by
  refine ret_mk Tryz.func18 rfl Tryz.ntmps18 (by simp) ?_
  have H := Hp.refl w0 []
  repeat refine c_seq ?_
  refine c_region ?_; refine l_op (o_val r_mv ?_); refine l_op (o_val (r_lens el43 rfl) ?_); refine l_op (o_val r_as ?_); first | refine l_end ?_ | refine l_nil ?_
  repeat refine c_seq ?_
  refine c_region ?_; refine l_op (o_val r_mv ?_); refine l_op (o_val r_mv ?_); refine l_op (o_val r_mv ?_); refine l_op (o_val (r_conv (v := ((UInt64.ofNat 1).toNat : Int)) Tryz.underlying3 Tryz.underlying91 rfl (w_u64_N 1 (by omega))) ?_); refine l_op (o_callR Tryz.func37 rfl rfl rfl (blen_ret _ (UInt64.ofNat 1) (by first | decide | omega)) ?_); rintro _ w ⟨x1, rfl, Hc⟩
  replace H : Hp _ w _ ([]) := H.call Hc
  clear Hc
  refine l_op (o_val r_mv ?_); refine l_op (o_callR Tryz.func36 rfl rfl rfl (pdq_36 _ (.slice a 1 c) (x1) f) ?_); rintro _ w ⟨rfl, Hc⟩
  replace H : Hp _ w _ ([]) := H.call Hc
  clear Hc
  first | refine l_end ?_ | refine l_nil ?_
  try simp only [Exit.then, Exit.inBlock, ↓reduceIte]
  refine e_norm ?_; refine e_ret0 Tryz.results18 ?_
  refine ⟨_, rfl, ?_⟩
  exact ⟨rfl, H⟩
theorem ins_132 (w0 : World) (x : Value) (f : Value) :
    Ret Tryz.prog 132 [x, VI 0, VI 0, f] w0 fun v w' => v = .tuple #[] ∧ Hp w0 w' [] [] := by
  refine ret_mk Tryz.func132 rfl Tryz.ntmps132 (by simp) ?_
  have H := Hp.refl w0 []
  repeat refine c_seq ?_
  refine c_region ?_; refine l_op (o_val r_mv ?_); refine l_op (o_val (r_bin (a := 0) (b := 1) rfl rfl (fun _ => b_add (by omega) (by omega))) ?_); refine l_op (o_val r_as ?_); first | refine l_end ?_ | refine l_nil ?_
  repeat refine c_seq ?_
  refine c_block ?_; repeat refine c_seq ?_
  refine c_loop (fun (i : Nat) => [(0, x), (1, VI 0), (2, VI 0), (3, f), (8, VI (i : Int))])
    (fun (i : Nat) w => (i = 1) ∧ Hp w0 w [] ([]))
    (fun (i : Nat) => 0) 1 ⟨rfl, rfl, rfl, rfl, rfl, trivial⟩ ⟨rfl, H⟩ ?_
  clear H
  rintro i τ w ⟨hi, H⟩
  repeat refine c_seq ?_
  refine c_region ?_; refine l_op (o_val r_mv ?_); refine l_op (o_val r_mv ?_); refine l_op (o_val (r_bin (a := (i : Int)) (b := 0) rfl rfl (fun _ => b_lssB false (decide_eq_false (by omega)))) ?_); first | refine l_end ?_ | refine l_nil ?_
  repeat refine c_seq ?_
  refine c_no rfl ?_; refine c_exit ?_; try simp only [Exit.then, Exit.inBlock, ↓reduceIte]
  refine e_norm ?_; refine e_ret0 Tryz.results132 ?_
  refine ⟨_, rfl, ?_⟩
  exact ⟨rfl, H⟩
theorem pdq_97 (w0 : World) (x : Value) (m : Int) (f : Value) :
    Ret Tryz.prog 97 [x, VI 0, VI 0, VI m, f] w0 fun v w' => v = .tuple #[] ∧ Hp w0 w' [] [] := by
  refine ret_mk Tryz.func97 rfl Tryz.ntmps97 (by simp) ?_
  have H := Hp.refl w0 []
  repeat refine c_seq ?_
  refine c_region ?_; refine l_op (o_val r_as ?_); first | refine l_end ?_ | refine l_nil ?_
  repeat refine c_seq ?_
  refine c_region ?_; refine l_op (o_val r_as ?_); first | refine l_end ?_ | refine l_nil ?_
  repeat refine c_seq ?_
  refine c_block ?_; repeat refine c_seq ?_
  refine c_loop (fun (i : Nat) => [(0, x), (1, VI 0), (2, VI 0), (3, VI m), (4, f), (10, .bool true), (11, .bool true)])
    (fun (i : Nat) w => (i = 0) ∧ Hp w0 w [] ([]))
    (fun (i : Nat) => 0) 0 ⟨rfl, rfl, rfl, rfl, rfl, rfl, rfl, trivial⟩ ⟨rfl, H⟩ ?_
  clear H
  rintro i τ w ⟨hi, H⟩
  repeat refine c_seq ?_
  refine c_block ?_; repeat refine c_seq ?_
  refine c_region ?_; refine l_op (o_val r_mv ?_); refine l_op (o_val r_mv ?_); refine l_op (o_val (r_bin (a := 0) (b := 0) rfl rfl (fun _ => b_sub (by omega) (by omega))) ?_); refine l_op (o_val r_as ?_); first | refine l_end ?_ | refine l_nil ?_
  repeat refine c_seq ?_
  refine c_region ?_; refine l_op (o_val r_mv ?_); refine l_op (o_val (r_bin (a := 0 - 0) (b := 12) rfl rfl (fun _ => b_leqB true (decide_eq_true (by omega)))) ?_); first | refine l_end ?_ | refine l_nil ?_
  repeat refine c_seq ?_
  refine c_yes rfl ?_; repeat refine c_seq ?_
  refine c_region ?_; refine l_op (o_val r_mv ?_); refine l_op (o_val r_mv ?_); refine l_op (o_val r_mv ?_); refine l_op (o_val r_mv ?_); refine l_op (o_callR Tryz.func132 rfl rfl rfl (ins_132 _ x f) ?_); rintro _ w ⟨rfl, Hc⟩
  replace H : Hp _ w _ ([]) := H.call Hc
  clear Hc
  first | refine l_end ?_ | refine l_nil ?_
  refine c_ret ?_; try dsimp only [Exit.then, Exit.inBlock]
  refine e_ret0 Tryz.results97 ?_
  refine ⟨_, rfl, ?_⟩
  exact ⟨rfl, H⟩
theorem sort_58 (w0 : World) (a : Option Addr) (c : Nat) (f : Value) :
    Ret Tryz.prog 58 [.slice a 0 c, f] w0 fun v w' => v = .tuple #[] ∧ Hp w0 w' [] [] := by
  refine ret_mk Tryz.func58 rfl Tryz.ntmps58 (by simp) ?_
  have H := Hp.refl w0 []
  repeat refine c_seq ?_
  refine c_region ?_; refine l_op (o_val r_mv ?_); refine l_op (o_val (r_lens el39 rfl) ?_); refine l_op (o_val r_as ?_); first | refine l_end ?_ | refine l_nil ?_
  repeat refine c_seq ?_
  refine c_region ?_; refine l_op (o_val r_mv ?_); refine l_op (o_val r_mv ?_); refine l_op (o_val r_mv ?_); refine l_op (o_val (r_conv (v := ((UInt64.ofNat 0).toNat : Int)) Tryz.underlying3 Tryz.underlying91 rfl (w_u64_N 0 (by omega))) ?_); refine l_op (o_callR Tryz.func37 rfl rfl rfl (blen_ret _ (UInt64.ofNat 0) (by first | decide | omega)) ?_); rintro _ w ⟨x1, rfl, Hc⟩
  replace H : Hp _ w _ ([]) := H.call Hc
  clear Hc
  refine l_op (o_val r_mv ?_); refine l_op (o_callR Tryz.func97 rfl rfl rfl (pdq_97 _ (.slice a 0 c) (x1) f) ?_); rintro _ w ⟨rfl, Hc⟩
  replace H : Hp _ w _ ([]) := H.call Hc
  clear Hc
  first | refine l_end ?_ | refine l_nil ?_
  try simp only [Exit.then, Exit.inBlock, ↓reduceIte]
  refine e_norm ?_; refine e_ret0 Tryz.results58 ?_
  refine ⟨_, rfl, ?_⟩
  exact ⟨rfl, H⟩
theorem ins_123 (w0 : World) (x : Value) :
    Ret Tryz.prog 123 [x, VI 0, VI 0] w0 fun v w' => v = .tuple #[] ∧ Hp w0 w' [] [] := by
  refine ret_mk Tryz.func123 rfl Tryz.ntmps123 (by simp) ?_
  have H := Hp.refl w0 []
  repeat refine c_seq ?_
  refine c_region ?_; refine l_op (o_val r_mv ?_); refine l_op (o_val (r_bin (a := 0) (b := 1) rfl rfl (fun _ => b_add (by omega) (by omega))) ?_); refine l_op (o_val r_as ?_); first | refine l_end ?_ | refine l_nil ?_
  repeat refine c_seq ?_
  refine c_block ?_; repeat refine c_seq ?_
  refine c_loop (fun (i : Nat) => [(0, x), (1, VI 0), (2, VI 0), (6, VI (i : Int))])
    (fun (i : Nat) w => (i = 1) ∧ Hp w0 w [] ([]))
    (fun (i : Nat) => 0) 1 ⟨rfl, rfl, rfl, rfl, trivial⟩ ⟨rfl, H⟩ ?_
  clear H
  rintro i τ w ⟨hi, H⟩
  repeat refine c_seq ?_
  refine c_region ?_; refine l_op (o_val r_mv ?_); refine l_op (o_val r_mv ?_); refine l_op (o_val (r_bin (a := (i : Int)) (b := 0) rfl rfl (fun _ => b_lssB false (decide_eq_false (by omega)))) ?_); first | refine l_end ?_ | refine l_nil ?_
  repeat refine c_seq ?_
  refine c_no rfl ?_; refine c_exit ?_; try simp only [Exit.then, Exit.inBlock, ↓reduceIte]
  refine e_norm ?_; refine e_ret0 Tryz.results123 ?_
  refine ⟨_, rfl, ?_⟩
  exact ⟨rfl, H⟩
theorem pdq_96 (w0 : World) (x : Value) (m : Int) :
    Ret Tryz.prog 96 [x, VI 0, VI 0, VI m] w0 fun v w' => v = .tuple #[] ∧ Hp w0 w' [] [] := by
  refine ret_mk Tryz.func96 rfl Tryz.ntmps96 (by simp) ?_
  have H := Hp.refl w0 []
  repeat refine c_seq ?_
  refine c_region ?_; refine l_op (o_val r_as ?_); first | refine l_end ?_ | refine l_nil ?_
  repeat refine c_seq ?_
  refine c_region ?_; refine l_op (o_val r_as ?_); first | refine l_end ?_ | refine l_nil ?_
  repeat refine c_seq ?_
  refine c_block ?_; repeat refine c_seq ?_
  refine c_loop (fun (i : Nat) => [(0, x), (1, VI 0), (2, VI 0), (3, VI m), (8, .bool true), (9, .bool true)])
    (fun (i : Nat) w => (i = 0) ∧ Hp w0 w [] ([]))
    (fun (i : Nat) => 0) 0 ⟨rfl, rfl, rfl, rfl, rfl, rfl, trivial⟩ ⟨rfl, H⟩ ?_
  clear H
  rintro i τ w ⟨hi, H⟩
  repeat refine c_seq ?_
  refine c_block ?_; repeat refine c_seq ?_
  refine c_region ?_; refine l_op (o_val r_mv ?_); refine l_op (o_val r_mv ?_); refine l_op (o_val (r_bin (a := 0) (b := 0) rfl rfl (fun _ => b_sub (by omega) (by omega))) ?_); refine l_op (o_val r_as ?_); first | refine l_end ?_ | refine l_nil ?_
  repeat refine c_seq ?_
  refine c_region ?_; refine l_op (o_val r_mv ?_); refine l_op (o_val (r_bin (a := 0 - 0) (b := 12) rfl rfl (fun _ => b_leqB true (decide_eq_true (by omega)))) ?_); first | refine l_end ?_ | refine l_nil ?_
  repeat refine c_seq ?_
  refine c_yes rfl ?_; repeat refine c_seq ?_
  refine c_region ?_; refine l_op (o_val r_mv ?_); refine l_op (o_val r_mv ?_); refine l_op (o_val r_mv ?_); refine l_op (o_callR Tryz.func123 rfl rfl rfl (ins_123 _ x) ?_); rintro _ w ⟨rfl, Hc⟩
  replace H : Hp _ w _ ([]) := H.call Hc
  clear Hc
  first | refine l_end ?_ | refine l_nil ?_
  refine c_ret ?_; try dsimp only [Exit.then, Exit.inBlock]
  refine e_ret0 Tryz.results96 ?_
  refine ⟨_, rfl, ?_⟩
  exact ⟨rfl, H⟩
theorem sort_57 (w0 : World) (a : Option Addr) (c : Nat) :
    Ret Tryz.prog 57 [.slice a 0 c] w0 fun v w' => v = .tuple #[] ∧ Hp w0 w' [] [] := by
  refine ret_mk Tryz.func57 rfl Tryz.ntmps57 (by simp) ?_
  have H := Hp.refl w0 []
  repeat refine c_seq ?_
  refine c_region ?_; refine l_op (o_val r_mv ?_); refine l_op (o_val (r_lens el38 rfl) ?_); refine l_op (o_val r_as ?_); first | refine l_end ?_ | refine l_nil ?_
  repeat refine c_seq ?_
  refine c_region ?_; refine l_op (o_val r_mv ?_); refine l_op (o_val r_mv ?_); refine l_op (o_val r_mv ?_); refine l_op (o_val (r_conv (v := ((UInt64.ofNat 0).toNat : Int)) Tryz.underlying3 Tryz.underlying91 rfl (w_u64_N 0 (by omega))) ?_); refine l_op (o_callR Tryz.func37 rfl rfl rfl (blen_ret _ (UInt64.ofNat 0) (by first | decide | omega)) ?_); rintro _ w ⟨x1, rfl, Hc⟩
  replace H : Hp _ w _ ([]) := H.call Hc
  clear Hc
  refine l_op (o_callR Tryz.func96 rfl rfl rfl (pdq_96 _ (.slice a 0 c) (x1)) ?_); rintro _ w ⟨rfl, Hc⟩
  replace H : Hp _ w _ ([]) := H.call Hc
  clear Hc
  first | refine l_end ?_ | refine l_nil ?_
  try simp only [Exit.then, Exit.inBlock, ↓reduceIte]
  refine e_norm ?_; refine e_ret0 Tryz.results57 ?_
  refine ⟨_, rfl, ?_⟩
  exact ⟨rfl, H⟩
theorem ins_144 (w0 : World) (x : Value) :
    Ret Tryz.prog 144 [x, VI 0, VI 0] w0 fun v w' => v = .tuple #[] ∧ Hp w0 w' [] [] := by
  refine ret_mk Tryz.func144 rfl Tryz.ntmps144 (by simp) ?_
  have H := Hp.refl w0 []
  repeat refine c_seq ?_
  refine c_region ?_; refine l_op (o_val r_mv ?_); refine l_op (o_val (r_bin (a := 0) (b := 1) rfl rfl (fun _ => b_add (by omega) (by omega))) ?_); refine l_op (o_val r_as ?_); first | refine l_end ?_ | refine l_nil ?_
  repeat refine c_seq ?_
  refine c_block ?_; repeat refine c_seq ?_
  refine c_loop (fun (i : Nat) => [(0, x), (1, VI 0), (2, VI 0), (6, VI (i : Int))])
    (fun (i : Nat) w => (i = 1) ∧ Hp w0 w [] ([]))
    (fun (i : Nat) => 0) 1 ⟨rfl, rfl, rfl, rfl, trivial⟩ ⟨rfl, H⟩ ?_
  clear H
  rintro i τ w ⟨hi, H⟩
  repeat refine c_seq ?_
  refine c_region ?_; refine l_op (o_val r_mv ?_); refine l_op (o_val r_mv ?_); refine l_op (o_val (r_bin (a := (i : Int)) (b := 0) rfl rfl (fun _ => b_lssB false (decide_eq_false (by omega)))) ?_); first | refine l_end ?_ | refine l_nil ?_
  repeat refine c_seq ?_
  refine c_no rfl ?_; refine c_exit ?_; try simp only [Exit.then, Exit.inBlock, ↓reduceIte]
  refine e_norm ?_; refine e_ret0 Tryz.results144 ?_
  refine ⟨_, rfl, ?_⟩
  exact ⟨rfl, H⟩
theorem pdq_106 (w0 : World) (x : Value) (m : Int) :
    Ret Tryz.prog 106 [x, VI 0, VI 0, VI m] w0 fun v w' => v = .tuple #[] ∧ Hp w0 w' [] [] := by
  refine ret_mk Tryz.func106 rfl Tryz.ntmps106 (by simp) ?_
  have H := Hp.refl w0 []
  repeat refine c_seq ?_
  refine c_region ?_; refine l_op (o_val r_as ?_); first | refine l_end ?_ | refine l_nil ?_
  repeat refine c_seq ?_
  refine c_region ?_; refine l_op (o_val r_as ?_); first | refine l_end ?_ | refine l_nil ?_
  repeat refine c_seq ?_
  refine c_block ?_; repeat refine c_seq ?_
  refine c_loop (fun (i : Nat) => [(0, x), (1, VI 0), (2, VI 0), (3, VI m), (8, .bool true), (9, .bool true)])
    (fun (i : Nat) w => (i = 0) ∧ Hp w0 w [] ([]))
    (fun (i : Nat) => 0) 0 ⟨rfl, rfl, rfl, rfl, rfl, rfl, trivial⟩ ⟨rfl, H⟩ ?_
  clear H
  rintro i τ w ⟨hi, H⟩
  repeat refine c_seq ?_
  refine c_block ?_; repeat refine c_seq ?_
  refine c_region ?_; refine l_op (o_val r_mv ?_); refine l_op (o_val r_mv ?_); refine l_op (o_val (r_bin (a := 0) (b := 0) rfl rfl (fun _ => b_sub (by omega) (by omega))) ?_); refine l_op (o_val r_as ?_); first | refine l_end ?_ | refine l_nil ?_
  repeat refine c_seq ?_
  refine c_region ?_; refine l_op (o_val r_mv ?_); refine l_op (o_val (r_bin (a := 0 - 0) (b := 12) rfl rfl (fun _ => b_leqB true (decide_eq_true (by omega)))) ?_); first | refine l_end ?_ | refine l_nil ?_
  repeat refine c_seq ?_
  refine c_yes rfl ?_; repeat refine c_seq ?_
  refine c_region ?_; refine l_op (o_val r_mv ?_); refine l_op (o_val r_mv ?_); refine l_op (o_val r_mv ?_); refine l_op (o_callR Tryz.func144 rfl rfl rfl (ins_144 _ x) ?_); rintro _ w ⟨rfl, Hc⟩
  replace H : Hp _ w _ ([]) := H.call Hc
  clear Hc
  first | refine l_end ?_ | refine l_nil ?_
  refine c_ret ?_; try dsimp only [Exit.then, Exit.inBlock]
  refine e_ret0 Tryz.results106 ?_
  refine ⟨_, rfl, ?_⟩
  exact ⟨rfl, H⟩
theorem sort_92 (w0 : World) (a : Option Addr) (c : Nat) :
    Ret Tryz.prog 92 [.slice a 0 c] w0 fun v w' => v = .tuple #[] ∧ Hp w0 w' [] [] := by
  refine ret_mk Tryz.func92 rfl Tryz.ntmps92 (by simp) ?_
  have H := Hp.refl w0 []
  repeat refine c_seq ?_
  refine c_region ?_; refine l_op (o_val r_mv ?_); refine l_op (o_val (r_lens el109 rfl) ?_); refine l_op (o_val r_as ?_); first | refine l_end ?_ | refine l_nil ?_
  repeat refine c_seq ?_
  refine c_region ?_; refine l_op (o_val r_mv ?_); refine l_op (o_val r_mv ?_); refine l_op (o_val r_mv ?_); refine l_op (o_val (r_conv (v := ((UInt64.ofNat 0).toNat : Int)) Tryz.underlying3 Tryz.underlying91 rfl (w_u64_N 0 (by omega))) ?_); refine l_op (o_callR Tryz.func37 rfl rfl rfl (blen_ret _ (UInt64.ofNat 0) (by first | decide | omega)) ?_); rintro _ w ⟨x1, rfl, Hc⟩
  replace H : Hp _ w _ ([]) := H.call Hc
  clear Hc
  refine l_op (o_callR Tryz.func106 rfl rfl rfl (pdq_106 _ (.slice a 0 c) (x1)) ?_); rintro _ w ⟨rfl, Hc⟩
  replace H : Hp _ w _ ([]) := H.call Hc
  clear Hc
  first | refine l_end ?_ | refine l_nil ?_
  try simp only [Exit.then, Exit.inBlock, ↓reduceIte]
  refine e_norm ?_; refine e_ret0 Tryz.results92 ?_
  refine ⟨_, rfl, ?_⟩
  exact ⟨rfl, H⟩
theorem clone8_ret (w0 : World) (s : Sl) (hs : s.ok w0) (hn : s.a.isNone = false) (_hn2 : s.len = s.len) (hm : s.len ≤ 1048576) :
    Ret Tryz.prog 14 [s.v] w0 fun v w' => ∃ a c, v = .slice (hd a) s.len c ∧ Hp w0 w' [] [.own a s.len c (s.l.map V8) 5 1] := by
  refine ret_mk Tryz.func14 rfl Tryz.ntmps14 (by simp) ?_
  have H := Hp.refl w0 []
  repeat refine c_seq ?_
  refine c_region ?_; refine l_op (o_val r_as ?_); first | refine l_end ?_ | refine l_nil ?_
  repeat refine c_seq ?_
  refine c_region ?_; refine l_op (o_val r_mv ?_); refine l_op (o_val (r_slnil Tryz.underlying50 (by kernel_rfl) rfl rfl) ?_); have hk1 : (s.a.isNone) = false := hn
  first | refine l_end ?_ | refine l_nil ?_
  repeat refine c_seq ?_
  refine c_no (by exact congrArg Value.bool hk1) ?_; refine c_skip ?_; repeat refine c_seq ?_
  refine c_region ?_; refine l_op (o_bslB (([] : List UInt8)) H sl50 zc5 rfl rfl (by decide) (fun b2 w H hb2 => ?_)); replace H : Hp _ w _ ([.own (some b2) 0 0 ((([] : List UInt8)).map V8) 5 1]) := H
  refine l_op (o_val r_mv ?_); refine l_op (o_appB (s := s) (l' := s.l) (len' := s.len) rfl (Nat.zero_add _) H (i := 0) rfl sl50 Tryz.underlying50 rfl rfl (hs.up H (fun _ => apart_nil _)) (by omega) (fun a3 c4 w H => ?_)); replace H : Hp _ w _ ([.own a3 s.len c4 ((s.l).map V8) 5 1]) := H
  refine l_op (o_val r_as ?_); first | refine l_end ?_ | refine l_nil ?_
  refine c_ret ?_; try dsimp only [Exit.then, Exit.inBlock]
  refine e_ret1 (v := .slice (hd a3) s.len c4) Tryz.results14 rfl ?_
  refine ⟨_, rfl, ?_⟩
  exact ⟨_, _, rfl, H⟩
theorem grow_ret (w0 : World) (n : Nat) (hn : 0 < n) (hm : n ≤ 1099511627776) :
    Ret Tryz.prog 74 [.slice none 0 0, VI (n : Int)] w0 fun v w' => ∃ b c, v = .slice (hd (some b)) 0 c ∧ Hp w0 w' [] [.own (some b) 0 c (([] : List UInt8).map V8) 5 1] := by
  refine ret_mk Tryz.func74 rfl Tryz.ntmps74 (by simp) ?_
  have H := Hp.refl w0 []
  repeat refine c_seq ?_
  refine c_region ?_; refine l_op (o_val r_as ?_); first | refine l_end ?_ | refine l_nil ?_
  repeat refine c_seq ?_
  refine c_region ?_; refine l_op (o_val r_mv ?_); refine l_op (o_val (r_bin (a := (n : Int)) (b := 0) rfl rfl (fun _ => b_lssB false (decide_eq_false (by omega)))) ?_); first | refine l_end ?_ | refine l_nil ?_
  repeat refine c_seq ?_
  refine c_no rfl ?_; refine c_skip ?_; repeat refine c_seq ?_
  refine c_region ?_; refine l_op (o_val r_mv ?_); refine l_op (o_val r_mv ?_); refine l_op (o_val (r_caps el50 rfl) ?_); refine l_op (o_val r_mv ?_); refine l_op (o_val (r_lens el50 rfl) ?_); refine l_op (o_val (r_bin (a := 0) (b := 0) rfl rfl (fun _ => b_sub (by omega) (by omega))) ?_); refine l_op (o_val (r_bin (a := (n : Int)) (b := 0) rfl rfl (fun _ => b_sub0 (by omega))) ?_); refine l_op (o_val r_as ?_); first | refine l_end ?_ | refine l_nil ?_
  repeat refine c_seq ?_
  refine c_region ?_; refine l_op (o_val r_mv ?_); refine l_op (o_val (r_bin (a := (n : Int)) (b := 0) rfl rfl (fun _ => b_gtrB true (decide_eq_true (by omega)))) ?_); first | refine l_end ?_ | refine l_nil ?_
  repeat refine c_seq ?_
  refine c_yes rfl ?_; repeat refine c_seq ?_
  refine c_region ?_; refine l_op (o_val r_mv ?_); refine l_op (o_val r_mv ?_); refine l_op (o_val (r_caps el50 rfl) ?_); refine l_op (o_val (r_slH (h := 0) (m := 0) (hv := some (VI 0)) rfl el50 rfl rfl rfl (fun w => by exact sbh 0 rfl (by omega) w)) ?_); refine l_op (o_val r_mv ?_); refine l_op (o_appZ (m := n) hn H sl50 zc5 Tryz.underlying3 rfl rfl hm (fun b1 c2 w hgb3 hgc4 H => ?_)); replace H : Hp _ w _ ([.own (some b1) n c2 ((List.replicate n (0 : UInt8)).map V8) 5 1]) := H
  refine l_op (o_val r_mv ?_); refine l_op (o_val (r_lens el50 rfl) ?_); refine l_op (o_val (r_slH (h := 0) (m := c2) (hv := some (VI 0)) rfl el50 rfl rfl rfl (fun w => by exact sbh 0 (by omega) (by omega) w)) ?_); replace H := H.shrinkV (i := 0) (m := 0) rfl (by omega)
  replace H : Hp _ w _ [.own (some b1) 0 c2 ((([] : List UInt8)).map V8) 5 1] := H
  refine l_op (o_val r_as ?_); first | refine l_end ?_ | refine l_nil ?_
  repeat refine c_seq ?_
  refine c_region ?_; refine l_op (o_val r_mv ?_); refine l_op (o_val r_as ?_); first | refine l_end ?_ | refine l_nil ?_
  refine c_ret ?_; try dsimp only [Exit.then, Exit.inBlock]
  refine e_ret1 (v := .slice (hd (some b1)) 0 c2) Tryz.results74 rfl ?_
  refine ⟨_, rfl, ?_⟩
  exact ⟨_, _, rfl, H⟩
theorem concat_ret (w0 : World) (pa : Option Addr) (pl pc : Nat) (ps : List Sl) (hr : RdS w0 pa (ps.map Sl.v)) (hl : ps.length = pl) (hok : ∀ p ∈ ps, p.ok w0) (hp63 : pl ≤ 1048576) (hB : (cat ps).length ≤ 1048576) (hpos : 0 < (cat ps).length) :
    Ret Tryz.prog 32 [.slice pa pl pc] w0 fun v w' => ∃ a cap, v = .slice (hd a) (cat ps).length cap ∧ Hp w0 w' [] [.own a (cat ps).length cap ((cat ps).map V8) 5 1] := by
  refine ret_mk Tryz.func32 rfl Tryz.ntmps32 (by simp) ?_
  have H := Hp.refl w0 []
  repeat refine c_seq ?_
  refine c_region ?_; refine l_op (o_val r_as ?_); first | refine l_end ?_ | refine l_nil ?_
  repeat refine c_seq ?_
  refine c_region ?_; refine l_op (o_val r_as ?_); first | refine l_end ?_ | refine l_nil ?_
  repeat refine c_seq ?_
  refine c_region ?_; refine l_op (o_val r_mv ?_); refine l_op (o_val (r_lens el82 rfl) ?_); refine l_op (o_val r_mv ?_); first | refine l_end ?_ | refine l_nil ?_
  repeat refine c_seq ?_
  refine c_block ?_; repeat refine c_seq ?_
  refine c_loop (fun (i : Nat) => [(0, .slice pa pl pc), (3, VI ((cat (ps.take i)).length : Int)), (9, .slice pa pl pc), (10, VI (pl : Int)), (11, VI (i : Int))])
    (fun (i : Nat) w => (i ≤ pl) ∧ Hp w0 w [] ([]))
    (fun (i : Nat) => pl - i) 0 ⟨rfl, rfl, rfl, rfl, rfl, trivial⟩ ⟨Nat.zero_le _, H⟩ ?_
  clear H
  rintro i τ w ⟨hi, H⟩
  repeat refine c_seq ?_
  refine c_region ?_; refine l_op (o_val (r_bin (a := (i : Int)) (b := (pl : Int)) rfl rfl (fun _ => b_lss)) ?_); first | refine l_end ?_ | refine l_nil ?_
  by_cases hc1 : (i : Int) < (pl : Int)
  ·
   repeat refine c_seq ?_
   refine c_yes (by exact congrArg Value.bool (decide_eq_true hc1)) ?_; refine c_skip ?_; repeat refine c_seq ?_
   refine c_block ?_; repeat refine c_seq ?_
   refine c_region ?_; obtain ⟨ab2, ao3, ah4⟩ := (H.rd hr (apart_nil _)).addr (by simp only [List.length_map]; omega)
   refine l_op (o_val (r_isN i rfl rfl el82 ah4 (by omega) (by (try simp only [Sl.cut]); omega)) ?_); obtain ⟨p5, hp6⟩ : ∃ p, ps[i]? = some p := ⟨_, List.getElem?_eq_getElem (by omega)⟩
   have hpok7 := hok p5 (List.mem_of_getElem? hp6)
   have hpok7n := hpok7.ln
   have hpok7m := hpok7.le
   refine l_op (o_val (r_ldP (k := i) (H.rd hr (apart_nil _)) ah4 rfl ct50 hp6) ?_); refine l_op (o_val r_as ?_); first | refine l_end ?_ | refine l_nil ?_
   have hs1 := cat_succ ps i p5 hp6
   have hs2 := cat_le ps (i + 1)
   have hs3 : (cat (ps.take (i + 1))).length = (cat (ps.take i)).length + p5.l.length := by rw [hs1]; simp
   repeat refine c_seq ?_
   refine c_region ?_; refine l_op (o_val r_mv ?_); refine l_op (o_val r_mv ?_); refine l_op (o_val (r_lens el50 rfl) ?_); refine l_op (o_val (r_bin (a := ((cat (ps.take i)).length : Int)) (b := (p5.len : Int)) rfl rfl (fun _ => b_addE (c := ((cat (ps.take (i + 1))).length : Int)) (by omega) (by omega) (by omega))) ?_); refine l_op (o_val r_as ?_); first | refine l_end ?_ | refine l_nil ?_
   repeat refine c_seq ?_
   refine c_region ?_; refine l_op (o_val r_mv ?_); refine l_op (o_val (r_bin (a := ((cat (ps.take (i + 1))).length : Int)) (b := 0) rfl rfl (fun _ => b_lssB false (decide_eq_false (by omega)))) ?_); first | refine l_end ?_ | refine l_nil ?_
   repeat refine c_seq ?_
   refine c_no rfl ?_; refine c_skip ?_; repeat refine c_seq ?_
   refine c_region ?_; refine l_op (o_val (r_bin (a := (i : Int)) (b := 1) rfl rfl (fun _ => b_add (by omega) (by omega))) ?_); refine l_op (o_val r_mv ?_); first | refine l_end ?_ | refine l_nil ?_
   refine round_end (i + 1) ?_ ?_ ?_
   · exact ⟨rfl, show VI ((cat (ps.take (i + 1))).length : Int) = VI ((cat (ps.take (i + 1 : Nat))).length : Int) from congrArg VI (by omega), rfl, rfl, show VI ((i : Int) + 1) = VI ((i + 1 : Nat) : Int) from congrArg VI (by omega), trivial⟩
   · refine ⟨?_, ?_⟩
     · try dsimp only
       exact by omega
     · exact H
   · show pl - (i + 1 : Nat) < pl - i; omega
  ·
   repeat refine c_seq ?_
   refine c_no (by exact congrArg Value.bool (decide_eq_false hc1)) ?_; refine c_exit ?_; have hi2 : pl = i := by omega
   subst hi2
   have hca := cat_all ps pl hl
   rw [hca]
   repeat refine c_seq ?_
   refine c_region ?_; refine l_op (o_val r_mv ?_); refine l_op (o_callR Tryz.func74 rfl rfl rfl (grow_ret _ ((cat ps).length) (by omega) (by omega)) ?_); rintro _ w ⟨b8, c9, rfl, Hc⟩
   replace H : Hp _ w _ ([.own (some b8) 0 c9 ((([] : List UInt8)).map V8) 5 1]) := H.call Hc
   clear Hc
   refine l_op (o_val r_as ?_); first | refine l_end ?_ | refine l_nil ?_
   repeat refine c_seq ?_
   refine c_region ?_; refine l_op (o_val r_mv ?_); refine l_op (o_val (r_lens el82 rfl) ?_); refine l_op (o_val r_mv ?_); first | refine l_end ?_ | refine l_nil ?_
   repeat refine c_seq ?_
   refine c_block ?_; repeat refine c_seq ?_
   refine c_loop3 (fun (k : Nat) (a : Option Nat) (c : Nat) => [(6, .slice (hd a) ((cat (ps.take k)).length) c), (25, .slice pa pl pc), (26, VI (pl : Int)), (27, VI (k : Int))])
     (fun (k : Nat) (a : Option Nat) (c : Nat) w => (k ≤ pl) ∧ Hp w0 w [] ([.own a ((cat (ps.take k)).length) c ((cat (ps.take k)).map V8) 5 1]))
     (fun (k : Nat) (a : Option Nat) (c : Nat) => pl - k) 0 (some b8) c9 ⟨rfl, rfl, rfl, rfl, trivial⟩ ⟨Nat.zero_le _, H⟩ ?_
   clear H
   rintro k a c τ w ⟨hk, H⟩
   repeat refine c_seq ?_
   refine c_region ?_; refine l_op (o_val (r_bin (a := (k : Int)) (b := (pl : Int)) rfl rfl (fun _ => b_lss)) ?_); first | refine l_end ?_ | refine l_nil ?_
   by_cases hc10 : (k : Int) < (pl : Int)
   ·
    repeat refine c_seq ?_
    refine c_yes (by exact congrArg Value.bool (decide_eq_true hc10)) ?_; refine c_skip ?_; repeat refine c_seq ?_
    refine c_block ?_; repeat refine c_seq ?_
    refine c_region ?_; obtain ⟨ab11, ao12, ah13⟩ := (H.rd hr (apart_nil _)).addr (by simp only [List.length_map]; omega)
    refine l_op (o_val (r_isN k rfl rfl el82 ah13 (by omega) (by (try simp only [Sl.cut]); omega)) ?_); obtain ⟨p14, hp15⟩ : ∃ p, ps[k]? = some p := ⟨_, List.getElem?_eq_getElem (by omega)⟩
    have hpok16 := hok p14 (List.mem_of_getElem? hp15)
    have hpok16n := hpok16.ln
    have hpok16m := hpok16.le
    refine l_op (o_val (r_ldP (k := k) (H.rd hr (apart_nil _)) ah13 rfl ct50 hp15) ?_); refine l_op (o_val r_as ?_); first | refine l_end ?_ | refine l_nil ?_
    repeat refine c_seq ?_
    refine c_region ?_; refine l_op (o_val r_mv ?_); refine l_op (o_val r_mv ?_); have hs1 := cat_succ ps k p14 hp15
    have hs2 := cat_le ps (k + 1)
    have hs3 : (cat (ps.take (k + 1))).length = (cat (ps.take k)).length + p14.l.length := by rw [hs1]; simp
    refine l_op (o_appB (s := p14) (l' := cat (ps.take (k + 1))) (len' := (cat (ps.take (k + 1))).length) hs1.symm (by omega) H (i := 0) rfl sl50 Tryz.underlying50 rfl rfl (hpok16.up H (fun _ => apart_nil _)) (by omega) (fun a17 c18 w H => ?_)); replace H : Hp _ w _ ([.own a17 ((cat (ps.take (k + 1))).length) c18 ((cat (ps.take (k + 1))).map V8) 5 1]) := H
    refine l_op (o_val r_as ?_); first | refine l_end ?_ | refine l_nil ?_
    repeat refine c_seq ?_
    refine c_region ?_; refine l_op (o_val (r_bin (a := (k : Int)) (b := 1) rfl rfl (fun _ => b_add (by omega) (by omega))) ?_); refine l_op (o_val r_mv ?_); first | refine l_end ?_ | refine l_nil ?_
    refine round_end (k + 1, a17, c18) ?_ ?_ ?_
    · exact ⟨rfl, rfl, rfl, show VI ((k : Int) + 1) = VI ((k + 1 : Nat) : Int) from congrArg VI (by omega), trivial⟩
    · refine ⟨?_, ?_⟩
      · try dsimp only
        exact by omega
      · exact H
    · show pl - (k + 1 : Nat) < pl - k; omega
   ·
    repeat refine c_seq ?_
    refine c_no (by exact congrArg Value.bool (decide_eq_false hc10)) ?_; refine c_exit ?_; have hi2 : k = pl := by omega
    subst hi2
    rw [cat_all ps k hl] at H
    rw [cat_all ps k hl]
    replace H : Hp _ w _ ([.own a ((cat ps).length) c ((cat ps).map V8) 5 1]) := H
    repeat refine c_seq ?_
    refine c_region ?_; refine l_op (o_val r_mv ?_); refine l_op (o_val r_as ?_); first | refine l_end ?_ | refine l_nil ?_
    refine c_ret ?_; try dsimp only [Exit.then, Exit.inBlock]
    refine e_ret1 (v := .slice (hd a) ((cat ps).length) c) Tryz.results32 rfl ?_
    refine ⟨_, rfl, ?_⟩
    exact ⟨_, _, rfl, H⟩
theorem sput_ret (w0 : World) (s : Sl) (hs : s.ok w0) (u : UInt64) (hm : s.len ≤ 1048576) :
    Ret Tryz.prog 13 [s.v, V64 u] w0 fun v w' => ∃ a c, v = .slice (hd a) (s.len + 8) c ∧ Hp w0 w' [] [.own a (s.len + 8) c ((s.l ++ be u.toNat 8).map V8) 5 1] := by
  refine ret_mk Tryz.func13 rfl Tryz.ntmps13 (by simp) ?_
  have H := Hp.refl w0 []
  repeat refine c_seq ?_
  refine c_region ?_; refine l_op (o_val r_as ?_); first | refine l_end ?_ | refine l_nil ?_
  repeat refine c_seq ?_
  refine c_region ?_; refine l_op (o_val r_mv ?_); refine l_op (o_val r_mv ?_); refine l_op (o_callR Tryz.func27 rfl rfl rfl (put_ret _ s (hs.up H (fun _ => apart_nil _)) (u) 8 (by omega) (by omega) (.inl rfl) (by (try dsimp only); omega)) ?_); rintro _ w ⟨a1, c2, rfl, Hc⟩
  replace H : Hp _ w _ ([.own a1 (s.len + 8) c2 ((s.l ++ be (u).toNat 8).map V8) 5 1]) := H.call Hc
  clear Hc
  refine l_op (o_val r_mv ?_); refine l_op (o_val (r_ext rfl rfl) ?_); refine l_op (o_val (r_ext rfl rfl) ?_); refine l_op (o_val r_as ?_); refine l_op (o_val r_as ?_); first | refine l_end ?_ | refine l_nil ?_
  repeat refine c_seq ?_
  refine c_region ?_; refine l_op (o_val r_mv ?_); refine l_op (o_val r_as ?_); first | refine l_end ?_ | refine l_nil ?_
  refine c_ret ?_; try dsimp only [Exit.then, Exit.inBlock]
  refine e_ret1 (v := .slice (hd a1) (s.len + 8) c2) Tryz.results13 rfl ?_
  refine ⟨_, rfl, ?_⟩
  exact ⟨_, _, rfl, H⟩
theorem sput0_ret (w0 : World) (u : UInt64) : Ret Tryz.prog 13 [.slice none 0 0, V64 u] w0 fun v w' => ∃ a cap, v = .slice (hd a) 8 cap ∧ Hp w0 w' [] [.own a 8 cap ((be u.toNat 8).map V8) 5 1] :=
  (sput_ret w0 ⟨none, 0, 0, []⟩ (Sl.ok_nil _) u (by simp)).mono fun v w' ⟨a, c, hv, H⟩ => ⟨a, c, by simpa using hv, by simpa using H⟩
theorem record_ret (w0 : World) (s : Sl) (hs : s.ok w0) (ra : Option Addr) (rl rc : Nat) (rs : List Sl) (hr : RdS w0 ra (rs.map Sl.v)) (hl : rs.length = rl) (hok : ∀ p ∈ rs, p.ok w0) (_hm : s.len ≤ 1048576) (hr63 : rl ≤ 1024) (hB : (cat (s :: rs)).length ≤ 1048576) (hpos : 0 < (cat (s :: rs)).length) :
    Ret Tryz.prog 15 [s.v, .slice ra rl rc] w0 fun v w' => ∃ a c, v = .agg (rkE (⟨⟨sha256 (s.l), sha256_len _⟩, ⟨hd a, (cat (s :: rs)).length, c, cat (s :: rs)⟩⟩ : Rk)).toArray ∧ Hp w0 w' [] [.own a (cat (s :: rs)).length c ((cat (s :: rs)).map V8) 5 1] := by
  refine ret_mk Tryz.func15 rfl Tryz.ntmps15 (by simp) ?_
  have H := Hp.refl w0 []
  repeat refine c_seq ?_
  refine c_region ?_; refine l_op (o_alloc H zc52 (fun b1 w H hb1 => ?_)); replace H : Hp _ w _ ([.blk b1 (rkE (⟨(⟨List.replicate 32 (0 : UInt8), (show (List.replicate 32 (0 : UInt8)).length = 32 from (List.length_replicate ..))⟩ : Id32), ⟨none, 0, 0, []⟩⟩ : Rk)) 52]) := H
  first | refine l_end ?_ | refine l_nil ?_
  repeat refine c_seq ?_
  refine c_region ?_; refine l_op (o_val r_mv ?_); refine l_op (o_bslV ([s.v]) H sl82 zc50 rfl (by simp [Value.oneCell', Sl.v]) rfl (by decide) (fun b2 w H hb2 => ?_)); replace H : Hp _ w _ ([_, .own (some b2) 1 1 ([s.v]) 50 1]) := H
  refine l_op (o_callR Tryz.func31 rfl rfl rfl (sha1_ret _ _ s (H.own (i := 1) rfl) (hs.up H (fun _ => apart_nil _))) ?_); rintro _ w ⟨rfl, Hc⟩
  replace H : Hp _ w _ ([_, _]) := H.call Hc
  clear Hc
  refine l_op (o_val r_mv ?_); refine l_op (o_bslV ([s.v]) H sl82 zc50 rfl (by simp [Value.oneCell', Sl.v]) rfl (by decide) (fun b3 w H hb3 => ?_)); replace H : Hp _ w _ ([_, _, .own (some b3) 1 1 ([s.v]) 50 1]) := H
  refine l_op (o_val r_mv ?_); refine l_op (o_appR (ys := rs.map Sl.v) (zs := (s :: rs).map Sl.v) (len' := rl + 1) rfl (by omega) H (i := 2) rfl (H.rd hr (apart_nil _)) (by simp [hl]) sl82 Tryz.underlying82 rfl rfl (by simp [Value.oneCell', Sl.v]) (by omega) (by decide) (fun a4 c5 w H => ?_)); replace H : Hp _ w _ ([_, _, .own a4 (rl + 1) c5 ((s :: rs).map Sl.v) 50 1]) := H
  refine l_op (o_callR Tryz.func32 rfl rfl rfl (concat_ret _ (hd a4) (rl + 1) c5 (s :: rs) (H.own (i := 2) rfl) (by rw [List.length_cons, hl]) (fun p hp => by rcases List.mem_cons.1 hp with h | h; exact h ▸ (hs.up H (fun _ => apart_nil _)); exact (hok p h).up H (fun _ => apart_nil _)) (by omega) (by omega) (by omega)) ?_); rintro _ w ⟨a6, c7, rfl, Hc⟩
  replace H : Hp _ w _ ([_, _, _, .own a6 ((cat (s :: rs)).length) c7 ((cat (s :: rs)).map V8) 5 1]) := H.call Hc
  clear Hc
  refine l_op (o_val (r_bldG (Z := rkE (⟨(⟨List.replicate 32 (0 : UInt8), (show (List.replicate 32 (0 : UInt8)).length = 32 from (List.length_replicate ..))⟩ : Id32), ⟨none, 0, 0, []⟩⟩ : Rk)) (E := rkE (⟨(⟨sha256 (s.l), (show (sha256 (s.l)).length = 32 from sha256_len _)⟩ : Id32), ⟨hd a6, (cat (s :: rs)).length, c7, cat (s :: rs)⟩⟩ : Rk)) (pv := [(0, .agg ((sha256 (s.l)).map V8).toArray), (1, .slice (hd a6) ((cat (s :: rs)).length) c7)]) bd52 rfl rfl (.consP rfl (rkE_p0 _ (⟨sha256 (s.l), (show (sha256 (s.l)).length = 32 from sha256_len _)⟩ : Id32)) rfl (.consP rfl (rkE_p1 _ (⟨hd a6, (cat (s :: rs)).length, c7, cat (s :: rs)⟩)) rfl (.nil _)))) ?_); refine l_op (o_stW (C' := rkE (⟨(⟨sha256 (s.l), (show (sha256 (s.l)).length = 32 from sha256_len _)⟩ : Id32), ⟨hd a6, (cat (s :: rs)).length, c7, cat (s :: rs)⟩⟩ : Rk)) H (i := 0) rfl rfl rfl cs52 (rkE_all _) (rkE_len _) (rkE_len _) (fun w H => ?_)); replace H : Hp _ w _ ([.blk b1 (rkE (⟨(⟨sha256 (s.l), (show (sha256 (s.l)).length = 32 from sha256_len _)⟩ : Id32), ⟨hd a6, (cat (s :: rs)).length, c7, cat (s :: rs)⟩⟩ : Rk)) 52, _, _, _]) := H
  first | refine l_end ?_ | refine l_nil ?_
  refine c_ret ?_; try dsimp only [Exit.then, Exit.inBlock]
  refine e_retc Tryz.results15 H (i := 0) rfl rfl rt52 (rkE_len _).symm ?_
  refine ⟨_, rfl, ?_⟩
  exact ⟨_, _, rfl, H.sub (.cons _ (.cons _ (.cons _ (.cons_cons _ (List.nil_sublist _)))))⟩
end Go.Proofs.YthigalfaanccnaaGreat
namespace Go.Proofs.YthigalfaanccnaaGreat
open Go
set_option maxRecDepth 100000
/-- the record of a state of nothing. -/
def recB (r : Id32) (d : Int) : List UInt8 := [77] ++ r.1 ++ be d.toNat 8 ++ be 0 8 ++ zId.1 ++ be 0 8
theorem recB_len (r : Id32) (d : Int) : (recB r d).length = 89 := by
  have h1 := r.2
  have h2 := zId.2
  simp only [recB, List.length_append, List.length_cons, List.length_nil, be_len, h1, h2]
def rk0 (r : Id32) (d : Int) (b : Option Nat) (k : Nat) : Rk := ⟨⟨sha256 [77], sha256_len _⟩, ⟨hd b, 89, k, recB r d⟩⟩
theorem new28_ret (w0 : World) (r : Id32) (d : Int) (hd0 : 0 ≤ d) (hd1 : d ≤ 9223372036854775807) :
    Ret Tryz.prog 7 [.agg ((r.1).map V8).toArray, VI d] w0 fun v w' => v = .agg (staE (⟨r, d, 0, ⟨none, 0, 0, []⟩, ⟨none, 0, 0, []⟩, ⟨none, 0, 0, []⟩, zId⟩ : Sta)).toArray ∧ Hp w0 w' [] [] := by
  refine ret_mk Tryz.func7 rfl Tryz.ntmps7 (by simp) ?_
  have H := Hp.refl w0 []
  repeat refine c_seq ?_
  refine c_region ?_; refine l_op (o_box (v := .agg ((r.1).map V8).toArray) H rfl (fun b1 w H hb1 => ?_)); replace H : Hp _ w _ ([.blk b1 ((r.1).map V8) 23]) := H
  refine l_op (o_alloc H zc41 (fun b2 w H hb2 => ?_)); replace H : Hp _ w _ ([_, .blk b2 (staE (⟨(⟨List.replicate 32 (0 : UInt8), (show (List.replicate 32 (0 : UInt8)).length = 32 from (List.length_replicate ..))⟩ : Id32), 0, (0 : UInt64), ⟨none, 0, 0, []⟩, ⟨none, 0, 0, []⟩, ⟨none, 0, 0, []⟩, (⟨List.replicate 32 (0 : UInt8), (show (List.replicate 32 (0 : UInt8)).length = 32 from (List.length_replicate ..))⟩ : Id32)⟩ : Sta)) 41]) := H
  first | refine l_end ?_ | refine l_nil ?_
  repeat refine c_seq ?_
  refine c_region ?_; refine l_op (o_val (r_ldAA (l := r.1) H (i := 0) rfl rfl rt23 (show (r.1).length = 32 from r.2)) ?_); refine l_op (o_val r_mv ?_); refine l_op (o_val (r_mx (c := d) rfl rfl (if_neg (by omega))) ?_); refine l_op (o_val (r_bldG (Z := staE (⟨(⟨List.replicate 32 (0 : UInt8), (show (List.replicate 32 (0 : UInt8)).length = 32 from (List.length_replicate ..))⟩ : Id32), 0, (0 : UInt64), ⟨none, 0, 0, []⟩, ⟨none, 0, 0, []⟩, ⟨none, 0, 0, []⟩, (⟨List.replicate 32 (0 : UInt8), (show (List.replicate 32 (0 : UInt8)).length = 32 from (List.length_replicate ..))⟩ : Id32)⟩ : Sta)) (E := staE (⟨r, d, (0 : UInt64), ⟨none, 0, 0, []⟩, ⟨none, 0, 0, []⟩, ⟨none, 0, 0, []⟩, (⟨List.replicate 32 (0 : UInt8), (show (List.replicate 32 (0 : UInt8)).length = 32 from (List.length_replicate ..))⟩ : Id32)⟩ : Sta)) (pv := [(0, .agg ((r.1).map V8).toArray), (1, VI d)]) bd41 rfl rfl (.consP rfl (staE_p0 _ r) rfl (.consP rfl (staE_p1 _ d) rfl (.nil _)))) ?_); refine l_op (o_stW (C' := staE (⟨r, d, (0 : UInt64), ⟨none, 0, 0, []⟩, ⟨none, 0, 0, []⟩, ⟨none, 0, 0, []⟩, (⟨List.replicate 32 (0 : UInt8), (show (List.replicate 32 (0 : UInt8)).length = 32 from (List.length_replicate ..))⟩ : Id32)⟩ : Sta)) H (i := 1) rfl rfl rfl cs41 (staE_all _) (staE_len _) (staE_len _) (fun w H => ?_)); replace H : Hp _ w _ ([_, .blk b2 (staE (⟨r, d, (0 : UInt64), ⟨none, 0, 0, []⟩, ⟨none, 0, 0, []⟩, ⟨none, 0, 0, []⟩, (⟨List.replicate 32 (0 : UInt8), (show (List.replicate 32 (0 : UInt8)).length = 32 from (List.length_replicate ..))⟩ : Id32)⟩ : Sta)) 41]) := H
  first | refine l_end ?_ | refine l_nil ?_
  refine c_ret ?_; try dsimp only [Exit.then, Exit.inBlock]
  refine e_retc Tryz.results7 H (i := 1) rfl rfl rt41 (staE_len _).symm ?_
  refine ⟨_, rfl, ?_⟩
  exact ⟨rfl, H.sub (List.nil_sublist _)⟩
theorem ahead0_ret (w0 : World) :
    Ret Tryz.prog 25 [.slice none 0 0] w0 fun v w' => v = .tuple #[.agg ((zId.1).map V8).toArray, VI 0] ∧ Hp w0 w' [] [] := by
  refine ret_mk Tryz.func25 rfl Tryz.ntmps25 (by simp) ?_
  have H := Hp.refl w0 []
  repeat refine c_seq ?_
  refine c_region ?_; refine l_op (o_alloc H zc23 (fun b1 w H hb1 => ?_)); replace H : Hp _ w _ ([.blk b1 ((List.replicate 32 (0 : UInt8)).map V8) 23]) := H
  refine l_op (o_val r_as ?_); first | refine l_end ?_ | refine l_nil ?_
  repeat refine c_seq ?_
  refine c_region ?_; refine l_op (o_val r_mv ?_); refine l_op (o_val (r_lens el39 rfl) ?_); refine l_op (o_val r_mv ?_); first | refine l_end ?_ | refine l_nil ?_
  repeat refine c_seq ?_
  refine c_block ?_; repeat refine c_seq ?_
  refine c_loop (fun (i2 : Nat) => [(0, .slice none 0 0), (2, .pointer (some ⟨b1, 0, none⟩)), (9, .slice none 0 0), (10, VI 0), (11, VI (i2 : Int))])
    (fun (i2 : Nat) w => (i2 = 0) ∧ Hp w0 w [] ([.blk b1 ((List.replicate 32 (0 : UInt8)).map V8) 23]))
    (fun (i2 : Nat) => 0) 0 ⟨rfl, rfl, rfl, rfl, rfl, trivial⟩ ⟨rfl, H⟩ ?_
  clear H
  rintro i2 τ w ⟨hi2, H⟩
  repeat refine c_seq ?_
  refine c_region ?_; refine l_op (o_val (r_bin (a := (i2 : Int)) (b := 0) rfl rfl (fun _ => b_lssB false (decide_eq_false (by omega)))) ?_); first | refine l_end ?_ | refine l_nil ?_
  repeat refine c_seq ?_
  refine c_no rfl ?_; refine c_exit ?_; repeat refine c_seq ?_
  refine c_region ?_; refine l_op (o_alloc H zc23 (fun b3 w H hb3 => ?_)); replace H : Hp _ w _ ([_, .blk b3 ((List.replicate 32 (0 : UInt8)).map V8) 23]) := H
  first | refine l_end ?_ | refine l_nil ?_
  repeat refine c_seq ?_
  refine c_region ?_; refine l_op (o_val r_mv ?_); refine l_op (o_val (r_lens el39 rfl) ?_); refine l_op (o_val r_mv ?_); first | refine l_end ?_ | refine l_nil ?_
  repeat refine c_seq ?_
  refine c_block ?_; repeat refine c_seq ?_
  refine c_loop (fun (i4 : Nat) => [(2, .pointer (some ⟨b1, 0, none⟩)), (6, .pointer (some ⟨b3, 0, none⟩)), (20, .slice none 0 0), (21, VI 0), (22, VI (i4 : Int))])
    (fun (i4 : Nat) w => (i4 = 0) ∧ Hp w0 w [] ([.blk b1 ((List.replicate 32 (0 : UInt8)).map V8) 23, .blk b3 ((List.replicate 32 (0 : UInt8)).map V8) 23]))
    (fun (i4 : Nat) => 0) 0 ⟨rfl, rfl, rfl, rfl, rfl, trivial⟩ ⟨rfl, H⟩ ?_
  clear H
  rintro i4 τ w ⟨hi4, H⟩
  repeat refine c_seq ?_
  refine c_region ?_; refine l_op (o_val (r_bin (a := (i4 : Int)) (b := 0) rfl rfl (fun _ => b_lssB false (decide_eq_false (by omega)))) ?_); first | refine l_end ?_ | refine l_nil ?_
  repeat refine c_seq ?_
  refine c_no rfl ?_; refine c_exit ?_; repeat refine c_seq ?_
  refine c_region ?_; refine l_op (o_val (r_ldAA (l := List.replicate 32 (0 : UInt8)) H (i := 1) rfl rfl rt23 (show (List.replicate 32 (0 : UInt8)).length = 32 from (List.length_replicate ..))) ?_); refine l_op (o_stA (l' := List.replicate 32 (0 : UInt8)) H (i := 0) rfl rfl rfl cs23 (show (List.replicate 32 (0 : UInt8)).length = 32 from (List.length_replicate ..)) (show (List.replicate 32 (0 : UInt8)).length = 32 from (List.length_replicate ..)) (fun w H => ?_)); replace H : Hp _ w _ [_, _] := H
  refine l_op (o_val r_as ?_); first | refine l_end ?_ | refine l_nil ?_
  refine c_ret ?_; try dsimp only [Exit.then, Exit.inBlock]
  refine e_retN (vs := [.agg ((List.replicate 32 (0 : UInt8)).map V8).toArray, VI 0]) _ Tryz.results25 rfl (H.resA (l := List.replicate 32 (0 : UInt8)) (i := 0) rfl rfl rt23 (show (List.replicate 32 (0 : UInt8)).length = 32 from (List.length_replicate ..)) (resT (v := VI 0) rfl (resZ))) ?_
  refine ⟨_, rfl, ?_⟩
  exact ⟨rfl, H.sub (List.nil_sublist _)⟩
theorem may27_ret (w0 : World) (r : Id32) (d : Int) (hd0 : 0 ≤ d) (hd1 : d ≤ 9223372036854775807) :
    Ret Tryz.prog 10 [.agg (staE (⟨r, d, (0 : UInt64), ⟨none, 0, 0, []⟩, ⟨none, 0, 0, []⟩, ⟨none, 0, 0, []⟩, zId⟩ : Sta)).toArray] w0 fun v w' => v = .bool true ∧ Hp w0 w' [] [] := by
  refine ret_mk Tryz.func10 rfl Tryz.ntmps10 (by simp) ?_
  have H := Hp.refl w0 []
  repeat refine c_seq ?_
  refine c_region ?_; refine l_op (o_box (v := .agg (staE (⟨r, d, (0 : UInt64), ⟨none, 0, 0, []⟩, ⟨none, 0, 0, []⟩, ⟨none, 0, 0, []⟩, zId⟩ : Sta)).toArray) H rfl (fun b1 w H hb1 => ?_)); replace H : Hp _ w _ ([.blk b1 (staE (⟨r, d, (0 : UInt64), ⟨none, 0, 0, []⟩, ⟨none, 0, 0, []⟩, ⟨none, 0, 0, []⟩, zId⟩ : Sta)) 41]) := H
  refine l_op (o_val r_as ?_); first | refine l_end ?_ | refine l_nil ?_
  repeat refine c_seq ?_
  refine c_region ?_; refine l_op (o_val (r_fa rfl fo41_1) ?_); refine l_op (o_val (r_l1 (v := VI d) H (i := 0) rfl rfl ct2 (staE_c1 _)) ?_); refine l_op (o_val (r_bin (a := d) (b := 0) rfl rfl (fun _ => b_lssB false (decide_eq_false (by omega)))) ?_); refine l_op (o_val r_mv ?_); refine l_yes rfl rfl rfl (o_val (r_fa rfl fo41_2) ?_); refine l_yes rfl rfl rfl (o_val (r_l1 (v := V64 (0 : UInt64)) H (i := 0) rfl rfl ct36 (staE_c2 _)) ?_); refine l_yes rfl rfl rfl (o_val (r_bin (a := ((0 : UInt64).toNat : Int)) (b := 4611686018427387904) rfl rfl (fun _ => b_geqB false (decide_eq_false (by decide)))) ?_); refine l_op (o_val (r_pick rfl) ?_); refine l_op (o_val r_mv ?_); refine l_yes rfl rfl rfl (o_val (r_fa rfl fo41_3) ?_); refine l_yes rfl rfl rfl (o_val (r_l1 (v := .slice none 0 0) H (i := 0) rfl rfl ct37 (staE_c3 _)) ?_); refine l_yes rfl rfl rfl (o_val (r_lens el37 rfl) ?_); refine l_yes rfl rfl rfl (o_val (r_bin (a := 0) (b := 32) rfl rfl (fun _ => b_gtrB false (decide_eq_false (by omega)))) ?_); refine l_op (o_val (r_pick rfl) ?_); refine l_op (o_val r_mv ?_); refine l_yes rfl rfl rfl (o_val (r_fa rfl fo41_4) ?_); refine l_yes rfl rfl rfl (o_val (r_l1 (v := .slice none 0 0) H (i := 0) rfl rfl ct38 (staE_c4 _)) ?_); refine l_yes rfl rfl rfl (o_val (r_lens el38 rfl) ?_); refine l_yes rfl rfl rfl (o_val (r_bin (a := 0) (b := 256) rfl rfl (fun _ => b_gtrB false (decide_eq_false (by omega)))) ?_); refine l_op (o_val (r_pick rfl) ?_); refine l_op (o_val r_mv ?_); refine l_yes rfl rfl rfl (o_val (r_fa rfl fo41_5) ?_); refine l_yes rfl rfl rfl (o_val (r_l1 (v := .slice none 0 0) H (i := 0) rfl rfl ct39 (staE_c5 _)) ?_); refine l_yes rfl rfl rfl (o_val (r_lens el39 rfl) ?_); refine l_yes rfl rfl rfl (o_val (r_bin (a := 0) (b := 4096) rfl rfl (fun _ => b_gtrB false (decide_eq_false (by omega)))) ?_); refine l_op (o_val (r_pick rfl) ?_); first | refine l_end ?_ | refine l_nil ?_
  repeat refine c_seq ?_
  refine c_no rfl ?_; refine c_skip ?_; repeat refine c_seq ?_
  refine c_region ?_; refine l_op (o_val (r_fa rfl fo41_3) ?_); refine l_op (o_val (r_l1 (v := .slice none 0 0) H (i := 0) rfl rfl ct37 (staE_c3 _)) ?_); refine l_op (o_val (r_lens el37 rfl) ?_); refine l_op (o_val r_mv ?_); first | refine l_end ?_ | refine l_nil ?_
  repeat refine c_seq ?_
  refine c_block ?_; repeat refine c_seq ?_
  refine c_loop (fun (i2 : Nat) => [(1, .pointer (some ⟨b1, 0, none⟩)), (37, .slice none 0 0), (38, VI 0), (39, VI (i2 : Int))])
    (fun (i2 : Nat) w => (i2 = 0) ∧ Hp w0 w [] ([.blk b1 (staE (⟨r, d, (0 : UInt64), ⟨none, 0, 0, []⟩, ⟨none, 0, 0, []⟩, ⟨none, 0, 0, []⟩, zId⟩ : Sta)) 41]))
    (fun (i2 : Nat) => 0) 0 ⟨rfl, rfl, rfl, rfl, trivial⟩ ⟨rfl, H⟩ ?_
  clear H
  rintro i2 τ w ⟨hi2, H⟩
  repeat refine c_seq ?_
  refine c_region ?_; refine l_op (o_val (r_bin (a := (i2 : Int)) (b := 0) rfl rfl (fun _ => b_lssB false (decide_eq_false (by omega)))) ?_); first | refine l_end ?_ | refine l_nil ?_
  repeat refine c_seq ?_
  refine c_no rfl ?_; refine c_exit ?_; repeat refine c_seq ?_
  refine c_region ?_; refine l_op (o_val (r_asV (c64 0 (by decide))) ?_); first | refine l_end ?_ | refine l_nil ?_
  repeat refine c_seq ?_
  refine c_region ?_; refine l_op (o_val (r_fa rfl fo41_4) ?_); refine l_op (o_val (r_l1 (v := .slice none 0 0) H (i := 0) rfl rfl ct38 (staE_c4 _)) ?_); refine l_op (o_val (r_lens el38 rfl) ?_); refine l_op (o_val r_mv ?_); first | refine l_end ?_ | refine l_nil ?_
  repeat refine c_seq ?_
  refine c_block ?_; repeat refine c_seq ?_
  refine c_loop (fun (i3 : Nat) => [(1, .pointer (some ⟨b1, 0, none⟩)), (5, V64 (0 : UInt64)), (65, .slice none 0 0), (66, VI 0), (67, VI (i3 : Int))])
    (fun (i3 : Nat) w => (i3 = 0) ∧ Hp w0 w [] ([.blk b1 (staE (⟨r, d, (0 : UInt64), ⟨none, 0, 0, []⟩, ⟨none, 0, 0, []⟩, ⟨none, 0, 0, []⟩, zId⟩ : Sta)) 41]))
    (fun (i3 : Nat) => 0) 0 ⟨rfl, rfl, rfl, rfl, rfl, trivial⟩ ⟨rfl, H⟩ ?_
  clear H
  rintro i3 τ w ⟨hi3, H⟩
  repeat refine c_seq ?_
  refine c_region ?_; refine l_op (o_val (r_bin (a := (i3 : Int)) (b := 0) rfl rfl (fun _ => b_lssB false (decide_eq_false (by omega)))) ?_); first | refine l_end ?_ | refine l_nil ?_
  repeat refine c_seq ?_
  refine c_no rfl ?_; refine c_exit ?_; repeat refine c_seq ?_
  refine c_region ?_; refine l_op (o_val (r_fa rfl fo41_5) ?_); refine l_op (o_val (r_l1 (v := .slice none 0 0) H (i := 0) rfl rfl ct39 (staE_c5 _)) ?_); refine l_op (o_callR Tryz.func25 rfl rfl rfl (ahead0_ret _) ?_); rintro _ w ⟨rfl, Hc⟩
  replace H : Hp _ w _ ([_]) := H.call Hc
  clear Hc
  refine l_op (o_val r_mv ?_); refine l_op (o_val (r_ext rfl rfl) ?_); refine l_op (o_val (r_ext rfl rfl) ?_); refine l_op (o_alloc H zc23 (fun b4 w H hb4 => ?_)); replace H : Hp _ w _ ([_, .blk b4 ((List.replicate 32 (0 : UInt8)).map V8) 23]) := H
  refine l_op (o_stA (l' := zId.1) H (i := 1) rfl rfl rfl cs23 (show (List.replicate 32 (0 : UInt8)).length = 32 from (List.length_replicate ..)) (show (zId.1).length = 32 from zId.2) (fun w H => ?_)); replace H : Hp _ w _ ([_, .blk b4 ((zId.1).map V8) 23]) := H
  refine l_op (o_val r_as ?_); first | refine l_end ?_ | refine l_nil ?_
  repeat refine c_seq ?_
  refine c_region ?_; refine l_op (o_val r_mv ?_); refine l_op (o_val (r_bin (a := 0) (b := 0) rfl rfl (fun _ => b_eqlB true (decide_eq_true rfl))) ?_); refine l_op (o_val r_mv ?_); refine l_yes rfl rfl rfl (o_val (r_ldAA (l := zId.1) H (i := 1) rfl rfl rt23 (show (zId.1).length = 32 from zId.2)) ?_); refine l_yes rfl rfl rfl (o_val (r_fa rfl fo41_6) ?_); refine l_yes rfl rfl rfl (o_val (r_lk H (i := 0) rfl rfl rt23 (staE_c6 _)) ?_); refine l_yes rfl rfl rfl (o_val (r_eqa (a := zId.1) (b := zId.1) Tryz.underlying23 Tryz.underlying5 cs5 rfl rfl (show (zId.1).length = 32 from zId.2) (show (zId.1).length = 32 from zId.2)) ?_); refine l_op (o_val (r_pick rfl) ?_); refine l_op (o_val r_as ?_); first | refine l_end ?_ | refine l_nil ?_
  refine c_ret ?_; try dsimp only [Exit.then, Exit.inBlock]
  refine e_ret1 (v := .bool (decide (zId.1 = zId.1))) Tryz.results10 rfl ?_
  refine ⟨_, rfl, ?_⟩
  refine ⟨?_, H.sub (List.nil_sublist _)⟩
  rw [decide_eq_true (rfl : zId.1 = zId.1)]
theorem records0_ret (w0 : World) (r : Id32) (d : Int) (hd0 : 0 ≤ d) (hd1 : d ≤ 9223372036854775807) :
    Ret Tryz.prog 8 [.agg (staE (⟨r, d, (0 : UInt64), ⟨none, 0, 0, []⟩, ⟨none, 0, 0, []⟩, ⟨none, 0, 0, []⟩, zId⟩ : Sta)).toArray] w0 fun v w' => ∃ a c b k, v = .tuple #[.slice (hd a) 1 c, VI 0] ∧ Hp w0 w' [] [.own b 89 k ((recB r d).map V8) 5 1, .own a 1 c (([rk0 r d b k]).flatMap rkE) 52 33] := by
  refine ret_mk Tryz.func8 rfl Tryz.ntmps8 (by simp) ?_
  have H := Hp.refl w0 []
  have hr32 := r.2
  have hz32 := zId.2
  repeat refine c_seq ?_
  refine c_region ?_; refine l_op (o_box (v := .agg (staE (⟨r, d, (0 : UInt64), ⟨none, 0, 0, []⟩, ⟨none, 0, 0, []⟩, ⟨none, 0, 0, []⟩, zId⟩ : Sta)).toArray) H rfl (fun b1 w H hb1 => ?_)); replace H : Hp _ w _ ([.blk b1 (staE (⟨r, d, (0 : UInt64), ⟨none, 0, 0, []⟩, ⟨none, 0, 0, []⟩, ⟨none, 0, 0, []⟩, zId⟩ : Sta)) 41]) := H
  refine l_op (o_val r_as ?_); refine l_op (o_val r_as ?_); first | refine l_end ?_ | refine l_nil ?_
  repeat refine c_seq ?_
  refine c_region ?_; refine l_op (o_val (r_ldA (C := staE (⟨r, d, (0 : UInt64), ⟨none, 0, 0, []⟩, ⟨none, 0, 0, []⟩, ⟨none, 0, 0, []⟩, zId⟩ : Sta)) H (i := 0) rfl rfl rt41 (staE_len _)) ?_); refine l_op (o_callR Tryz.func10 rfl rfl rfl (may27_ret _ r (d) (by omega) (by omega)) ?_); rintro _ w ⟨rfl, Hc⟩
  replace H : Hp _ w _ ([_]) := H.call Hc
  clear Hc
  refine l_op (o_val (r_not rfl) ?_); first | refine l_end ?_ | refine l_nil ?_
  repeat refine c_seq ?_
  refine c_no rfl ?_; refine c_skip ?_; repeat refine c_seq ?_
  refine wp_held (fun w => Hp w0 w [] [.blk b1 (staE (⟨r, d, (0 : UInt64), ⟨none, 0, 0, []⟩, ⟨none, 0, 0, []⟩, ⟨none, 0, 0, []⟩, zId⟩ : Sta)) 41]) mixed ?_; replace H := H.drew
  have HS := H
  refine t_take 0 rfl (by kernel_rfl) (by kernel_rfl) (by kernel_rfl) (fun _ _ _ h => h) (fun w HS => r_fa rfl fo41_0) HS ?_; refine t_take 1 rfl (by kernel_rfl) (by kernel_rfl) (by kernel_rfl) (fun _ _ _ h => h) (fun w HS => r_slAo (o := 0) (h := 32) (m := 32) (lv := none) (hv := none) (mv := none) rfl ar23 rfl rfl rfl (fun w => sbn w)) HS ?_; refine t_take 3 rfl (by kernel_rfl) (by kernel_rfl) (by kernel_rfl) (fun _ _ _ h => h) (fun w HS => r_fa rfl fo41_1) HS ?_; refine t_take 4 rfl (by kernel_rfl) (by kernel_rfl) (by kernel_rfl) (fun _ _ _ h => h) (fun w HS => r_l1 (v := VI d) HS (i := 0) rfl rfl ct2 (staE_c1 _)) HS ?_; refine t_take 5 rfl (by kernel_rfl) (by kernel_rfl) (by kernel_rfl) (fun _ _ _ h => h) (fun w HS => r_conv (v := ((UInt64.ofNat (d).toNat).toNat : Int)) Tryz.underlying2 Tryz.underlying36 rfl (w_u64_N (d).toNat (by omega))) HS ?_; refine t_take 7 rfl (by kernel_rfl) (by kernel_rfl) (by kernel_rfl) (fun _ _ _ h => h) (fun w HS => r_fa rfl fo41_2) HS ?_; refine t_take 8 rfl (by kernel_rfl) (by kernel_rfl) (by kernel_rfl) (fun _ _ _ h => h) (fun w HS => r_l1 (v := V64 (0 : UInt64)) HS (i := 0) rfl rfl ct36 (staE_c2 _)) HS ?_; refine t_step 2 rfl (by kernel_rfl) (o_callR Tryz.func14 rfl rfl rfl (clone8_ret _ (⟨some ⟨b1, 0, none⟩, 32, 32, r.1⟩ : Sl) (H.slMid (i := 0) rfl (staE_c0 _) (by decide)) rfl rfl (by first | decide | omega | (dsimp only; omega))) ?_); rintro _ w ⟨a2, c3, rfl, Hc⟩
  replace H : Hp _ w _ ([_, .own a2 32 c3 ((r.1).map V8) 5 1]) := H.call Hc
  clear Hc
  refine ⟨H.sub (.cons_cons _ (List.nil_sublist _)), ?_⟩
  replace HS := H.sub (.cons_cons _ (List.nil_sublist _))
  refine t_step 6 rfl (by kernel_rfl) (o_callR Tryz.func13 rfl rfl rfl (sput_ret _ ⟨hd a2, 32, c3, r.1⟩ (H.slOwn (i := 1) rfl) (UInt64.ofNat (d).toNat) (by (try dsimp only); omega)) ?_); rintro _ w ⟨a4, c5, rfl, Hc⟩
  replace H : Hp _ w _ ([_, _, .own a4 40 c5 ((r.1 ++ be (UInt64.ofNat (d).toNat).toNat 8).map V8) 5 1]) := H.call Hc
  clear Hc
  refine ⟨H.sub (.cons_cons _ (List.nil_sublist _)), ?_⟩
  replace HS := H.sub (.cons_cons _ (List.nil_sublist _))
  refine t_step 9 rfl (by kernel_rfl) (o_callR Tryz.func13 rfl rfl rfl (sput_ret _ ⟨hd a4, 40, c5, r.1 ++ be (UInt64.ofNat (d).toNat).toNat 8⟩ (H.slOwn (i := 2) rfl) ((0 : UInt64)) (by (try dsimp only); omega)) ?_); rintro _ w ⟨a6, c7, rfl, Hc⟩
  replace H : Hp _ w _ ([_, _, _, .own a6 48 c7 ((r.1 ++ be (UInt64.ofNat (d).toNat).toNat 8 ++ be ((0 : UInt64)).toNat 8).map V8) 5 1]) := H.call Hc
  clear Hc
  refine ⟨H.sub (.cons_cons _ (List.nil_sublist _)), ?_⟩
  replace HS := H.sub (.cons_cons _ (List.nil_sublist _))
  refine t_take 10 rfl (by kernel_rfl) (by kernel_rfl) (by kernel_rfl) (fun _ _ _ h => h) (fun w HS => r_as) HS ?_; refine t_done (by kernel_rfl) ?_
  clear HS
  repeat refine c_seq ?_
  refine wp_held (fun w => Hp w0 w [] [.blk b1 (staE (⟨r, d, (0 : UInt64), ⟨none, 0, 0, []⟩, ⟨none, 0, 0, []⟩, ⟨none, 0, 0, []⟩, zId⟩ : Sta)) 41, .own a2 32 c3 ((r.1).map V8) 5 1, .own a4 40 c5 ((r.1 ++ be (UInt64.ofNat (d).toNat).toNat 8).map V8) 5 1, .own a6 48 c7 ((r.1 ++ be (UInt64.ofNat (d).toNat).toNat 8 ++ be ((0 : UInt64)).toNat 8).map V8) 5 1]) mixed ?_; replace H := H.drew
  have HS := H
  refine t_take 1 rfl (by kernel_rfl) (by kernel_rfl) (by kernel_rfl) (fun _ _ _ h => h) (fun w HS => r_mv) HS ?_; refine t_take 2 rfl (by kernel_rfl) (by kernel_rfl) (by kernel_rfl) (fun _ _ _ h => h) (fun w HS => r_fa rfl fo41_6) HS ?_; refine t_take 3 rfl (by kernel_rfl) (by kernel_rfl) (by kernel_rfl) (fun _ _ _ h => h) (fun w HS => r_slAo (o := 37) (h := 32) (m := 32) (lv := none) (hv := none) (mv := none) rfl ar23 rfl rfl rfl (fun w => sbn w)) HS ?_; refine t_take 4 rfl (by kernel_rfl) (by kernel_rfl) (by kernel_rfl) (fun _ _ _ h => h) (fun w HS => r_fa rfl fo41_5) HS ?_; refine t_take 5 rfl (by kernel_rfl) (by kernel_rfl) (by kernel_rfl) (fun _ _ _ h => h) (fun w HS => r_l1 (v := .slice none 0 0) HS (i := 0) rfl rfl ct39 (staE_c5 _)) HS ?_; refine t_take 6 rfl (by kernel_rfl) (by kernel_rfl) (by kernel_rfl) (fun _ _ _ h => h) (fun w HS => r_lens el39 rfl) HS ?_; refine t_take 7 rfl (by kernel_rfl) (by kernel_rfl) (by kernel_rfl) (fun _ _ _ h => h) (fun w HS => r_conv (v := ((UInt64.ofNat 0).toNat : Int)) Tryz.underlying3 Tryz.underlying36 rfl (w_u64_N 0 (by omega))) HS ?_; refine t_all [0, 8] (by kernel_rfl) (by simp) (all_cons (w_op 0 rfl ?_) (all_cons (w_op 8 rfl ?_) (all_nil)))
  ·
   refine (o_bslB ([(77 : UInt8)]) H sl50 zc5 rfl rfl (by decide) (fun b8 w H hb8 => ?_))
   replace H : Hp _ w _ ([_, _, _, _, .own (some b8) 1 1 (([(77 : UInt8)]).map V8) 5 1]) := H
   refine ⟨H.sub (.cons_cons _ (.cons_cons _ (.cons_cons _ (.cons_cons _ (List.nil_sublist _))))), ?_⟩
   replace HS := H.sub (.cons_cons _ (.cons_cons _ (.cons_cons _ (.cons_cons _ (List.nil_sublist _)))))
   refine t_step 8 rfl (by kernel_rfl) (o_callR Tryz.func13 rfl rfl rfl (sput0_ret _ (UInt64.ofNat 0)) ?_); rintro _ w ⟨a9, c10, rfl, Hc⟩
   replace H : Hp _ w _ ([_, _, _, _, _, .own a9 8 c10 ((be (UInt64.ofNat 0).toNat 8).map V8) 5 1]) := H.call Hc
   clear Hc
   refine ⟨H.sub (.cons_cons _ (.cons_cons _ (.cons_cons _ (.cons_cons _ (List.nil_sublist _))))), ?_⟩
   replace HS := H.sub (.cons_cons _ (.cons_cons _ (.cons_cons _ (.cons_cons _ (List.nil_sublist _)))))
   refine t_step 9 rfl (by kernel_rfl) (o_bslV ([.slice (hd a6) 48 c7, (⟨some ⟨b1, 37, none⟩, 32, 32, zId.1⟩ : Sl).v, .slice (hd a9) 8 c10]) H sl82 zc50 rfl (by simp [Value.oneCell', Sl.v]) rfl (by decide) (fun b11 w H hb11 => ?_)); replace H : Hp _ w _ ([_, _, _, _, _, _, .own (some b11) 3 3 ([.slice (hd a6) 48 c7, (⟨some ⟨b1, 37, none⟩, 32, 32, zId.1⟩ : Sl).v, .slice (hd a9) 8 c10]) 50 1]) := H
   refine ⟨H.sub (.cons_cons _ (.cons_cons _ (.cons_cons _ (.cons_cons _ (List.nil_sublist _))))), ?_⟩
   replace HS := H.sub (.cons_cons _ (.cons_cons _ (.cons_cons _ (.cons_cons _ (List.nil_sublist _)))))
   refine t_step 10 rfl (by kernel_rfl) (o_callR Tryz.func15 rfl rfl rfl (record_ret _ ⟨hd (some b8), 1, 1, [(77 : UInt8)]⟩ (H.slOwn (i := 4) rfl) (hd (some b11)) 3 3 ([⟨hd a6, 48, c7, r.1 ++ be (UInt64.ofNat (d).toNat).toNat 8 ++ be ((0 : UInt64)).toNat 8⟩, (⟨some ⟨b1, 37, none⟩, 32, 32, zId.1⟩ : Sl), ⟨hd a9, 8, c10, be (UInt64.ofNat 0).toNat 8⟩] : List Sl) (H.own (i := 6) rfl) rfl (all3 (H.slOwn (i := 3) rfl) (H.slMid (i := 0) rfl (staE_c6 _) (by decide)) (H.slOwn (i := 5) rfl)) (by (try dsimp only); omega) (by decide) (by simp [cat, be_len] <;> omega) (by simp [cat] <;> omega)) ?_); rintro _ w ⟨a12, c13, rfl, Hc⟩
   replace H : Hp _ w _ ([_, _, _, _, _, _, _, .own a12 ((cat (⟨hd (some b8), 1, 1, [(77 : UInt8)]⟩ :: [⟨hd a6, 48, c7, r.1 ++ be (UInt64.ofNat (d).toNat).toNat 8 ++ be ((0 : UInt64)).toNat 8⟩, (⟨some ⟨b1, 37, none⟩, 32, 32, zId.1⟩ : Sl), ⟨hd a9, 8, c10, be (UInt64.ofNat 0).toNat 8⟩])).length) c13 ((cat (⟨hd (some b8), 1, 1, [(77 : UInt8)]⟩ :: [⟨hd a6, 48, c7, r.1 ++ be (UInt64.ofNat (d).toNat).toNat 8 ++ be ((0 : UInt64)).toNat 8⟩, (⟨some ⟨b1, 37, none⟩, 32, 32, zId.1⟩ : Sl), ⟨hd a9, 8, c10, be (UInt64.ofNat 0).toNat 8⟩])).map V8) 5 1]) := H.call Hc
   clear Hc
   refine ⟨H.sub (.cons_cons _ (.cons_cons _ (.cons_cons _ (.cons_cons _ (List.nil_sublist _))))), ?_⟩
   replace HS := H.sub (.cons_cons _ (.cons_cons _ (.cons_cons _ (.cons_cons _ (List.nil_sublist _)))))
   refine t_step 11 rfl (by kernel_rfl) (o_bslG1 (enc := rkE) ((⟨(⟨sha256 ([(77 : UInt8)]), (show (sha256 ([(77 : UInt8)])).length = 32 from sha256_len _)⟩ : Id32), ⟨hd a12, (cat (⟨hd (some b8), 1, 1, [(77 : UInt8)]⟩ :: [⟨hd a6, 48, c7, r.1 ++ be (UInt64.ofNat (d).toNat).toNat 8 ++ be ((0 : UInt64)).toNat 8⟩, (⟨some ⟨b1, 37, none⟩, 32, 32, zId.1⟩ : Sl), ⟨hd a9, 8, c10, be (UInt64.ofNat 0).toNat 8⟩])).length, c13, cat (⟨hd (some b8), 1, 1, [(77 : UInt8)]⟩ :: [⟨hd a6, 48, c7, r.1 ++ be (UInt64.ofNat (d).toNat).toNat 8 ++ be ((0 : UInt64)).toNat 8⟩, (⟨some ⟨b1, 37, none⟩, 32, 32, zId.1⟩ : Sl), ⟨hd a9, 8, c10, be (UInt64.ofNat 0).toNat 8⟩])⟩⟩ : Rk)) H sl43 zc52 (by rfl) (by decide) (by decide) rfl (rkE_len _) (fun b14 w H hb14 => ?_)); replace H : Hp _ w _ ([_, _, _, _, _, _, _, _, .own (some b14) 1 1 (([(⟨(⟨sha256 ([(77 : UInt8)]), (show (sha256 ([(77 : UInt8)])).length = 32 from sha256_len _)⟩ : Id32), ⟨hd a12, (cat (⟨hd (some b8), 1, 1, [(77 : UInt8)]⟩ :: [⟨hd a6, 48, c7, r.1 ++ be (UInt64.ofNat (d).toNat).toNat 8 ++ be ((0 : UInt64)).toNat 8⟩, (⟨some ⟨b1, 37, none⟩, 32, 32, zId.1⟩ : Sl), ⟨hd a9, 8, c10, be (UInt64.ofNat 0).toNat 8⟩])).length, c13, cat (⟨hd (some b8), 1, 1, [(77 : UInt8)]⟩ :: [⟨hd a6, 48, c7, r.1 ++ be (UInt64.ofNat (d).toNat).toNat 8 ++ be ((0 : UInt64)).toNat 8⟩, (⟨some ⟨b1, 37, none⟩, 32, 32, zId.1⟩ : Sl), ⟨hd a9, 8, c10, be (UInt64.ofNat 0).toNat 8⟩])⟩⟩ : Rk)]).flatMap rkE) 52 33]) := H
   refine ⟨H.sub (.cons_cons _ (.cons_cons _ (.cons_cons _ (.cons_cons _ (List.nil_sublist _))))), ?_⟩
   replace HS := H.sub (.cons_cons _ (.cons_cons _ (.cons_cons _ (.cons_cons _ (List.nil_sublist _)))))
   refine t_take 12 rfl (by kernel_rfl) (by kernel_rfl) (by kernel_rfl) (fun _ _ _ h => h) (fun w HS => r_as) HS ?_; refine t_done (by kernel_rfl) ?_
   clear HS
   repeat refine c_seq ?_
   refine c_region ?_; refine l_op (o_val (r_fa rfl fo41_3) ?_); refine l_op (o_val (r_l1 (v := .slice none 0 0) H (i := 0) rfl rfl ct37 (staE_c3 _)) ?_); refine l_op (o_val (r_lens el37 rfl) ?_); refine l_op (o_val r_mv ?_); first | refine l_end ?_ | refine l_nil ?_
   repeat refine c_seq ?_
   refine c_block ?_; repeat refine c_seq ?_
   refine c_loop (fun (i15 : Nat) => [(1, .pointer (some ⟨b1, 0, none⟩)), (5, .slice (hd (some b14)) 1 1), (40, .slice none 0 0), (41, VI 0), (42, VI (i15 : Int))])
     (fun (i15 : Nat) w => (i15 = 0) ∧ Hp w0 w [] ([.blk b1 (staE (⟨r, d, (0 : UInt64), ⟨none, 0, 0, []⟩, ⟨none, 0, 0, []⟩, ⟨none, 0, 0, []⟩, zId⟩ : Sta)) 41, .own a2 32 c3 ((r.1).map V8) 5 1, .own a4 40 c5 ((r.1 ++ be (UInt64.ofNat (d).toNat).toNat 8).map V8) 5 1, .own a6 48 c7 ((r.1 ++ be (UInt64.ofNat (d).toNat).toNat 8 ++ be ((0 : UInt64)).toNat 8).map V8) 5 1, .own (some b8) 1 1 (([(77 : UInt8)]).map V8) 5 1, .own a9 8 c10 ((be (UInt64.ofNat 0).toNat 8).map V8) 5 1, .own (some b11) 3 3 ([.slice (hd a6) 48 c7, (⟨some ⟨b1, 37, none⟩, 32, 32, zId.1⟩ : Sl).v, .slice (hd a9) 8 c10]) 50 1, .own a12 ((cat (⟨hd (some b8), 1, 1, [(77 : UInt8)]⟩ :: [⟨hd a6, 48, c7, r.1 ++ be (UInt64.ofNat (d).toNat).toNat 8 ++ be ((0 : UInt64)).toNat 8⟩, (⟨some ⟨b1, 37, none⟩, 32, 32, zId.1⟩ : Sl), ⟨hd a9, 8, c10, be (UInt64.ofNat 0).toNat 8⟩])).length) c13 ((cat (⟨hd (some b8), 1, 1, [(77 : UInt8)]⟩ :: [⟨hd a6, 48, c7, r.1 ++ be (UInt64.ofNat (d).toNat).toNat 8 ++ be ((0 : UInt64)).toNat 8⟩, (⟨some ⟨b1, 37, none⟩, 32, 32, zId.1⟩ : Sl), ⟨hd a9, 8, c10, be (UInt64.ofNat 0).toNat 8⟩])).map V8) 5 1, .own (some b14) 1 1 (([(⟨(⟨sha256 ([(77 : UInt8)]), (show (sha256 ([(77 : UInt8)])).length = 32 from sha256_len _)⟩ : Id32), ⟨hd a12, (cat (⟨hd (some b8), 1, 1, [(77 : UInt8)]⟩ :: [⟨hd a6, 48, c7, r.1 ++ be (UInt64.ofNat (d).toNat).toNat 8 ++ be ((0 : UInt64)).toNat 8⟩, (⟨some ⟨b1, 37, none⟩, 32, 32, zId.1⟩ : Sl), ⟨hd a9, 8, c10, be (UInt64.ofNat 0).toNat 8⟩])).length, c13, cat (⟨hd (some b8), 1, 1, [(77 : UInt8)]⟩ :: [⟨hd a6, 48, c7, r.1 ++ be (UInt64.ofNat (d).toNat).toNat 8 ++ be ((0 : UInt64)).toNat 8⟩, (⟨some ⟨b1, 37, none⟩, 32, 32, zId.1⟩ : Sl), ⟨hd a9, 8, c10, be (UInt64.ofNat 0).toNat 8⟩])⟩⟩ : Rk)]).flatMap rkE) 52 33]))
     (fun (i15 : Nat) => 0) 0 ⟨rfl, rfl, rfl, rfl, rfl, trivial⟩ ⟨rfl, H⟩ ?_
   clear H
   rintro i15 τ w ⟨hi15, H⟩
   repeat refine c_seq ?_
   refine c_region ?_; refine l_op (o_val (r_bin (a := (i15 : Int)) (b := 0) rfl rfl (fun _ => b_lssB false (decide_eq_false (by omega)))) ?_); first | refine l_end ?_ | refine l_nil ?_
   repeat refine c_seq ?_
   refine c_no rfl ?_; refine c_exit ?_; repeat refine c_seq ?_
   refine c_region ?_; refine l_op (o_val (r_fa rfl fo41_4) ?_); refine l_op (o_val (r_l1 (v := .slice none 0 0) H (i := 0) rfl rfl ct38 (staE_c4 _)) ?_); refine l_op (o_val (r_lens el38 rfl) ?_); refine l_op (o_val r_mv ?_); first | refine l_end ?_ | refine l_nil ?_
   repeat refine c_seq ?_
   refine c_block ?_; repeat refine c_seq ?_
   refine c_loop (fun (i16 : Nat) => [(1, .pointer (some ⟨b1, 0, none⟩)), (5, .slice (hd (some b14)) 1 1), (52, .slice none 0 0), (53, VI 0), (54, VI (i16 : Int))])
     (fun (i16 : Nat) w => (i16 = 0) ∧ Hp w0 w [] ([.blk b1 (staE (⟨r, d, (0 : UInt64), ⟨none, 0, 0, []⟩, ⟨none, 0, 0, []⟩, ⟨none, 0, 0, []⟩, zId⟩ : Sta)) 41, .own a2 32 c3 ((r.1).map V8) 5 1, .own a4 40 c5 ((r.1 ++ be (UInt64.ofNat (d).toNat).toNat 8).map V8) 5 1, .own a6 48 c7 ((r.1 ++ be (UInt64.ofNat (d).toNat).toNat 8 ++ be ((0 : UInt64)).toNat 8).map V8) 5 1, .own (some b8) 1 1 (([(77 : UInt8)]).map V8) 5 1, .own a9 8 c10 ((be (UInt64.ofNat 0).toNat 8).map V8) 5 1, .own (some b11) 3 3 ([.slice (hd a6) 48 c7, (⟨some ⟨b1, 37, none⟩, 32, 32, zId.1⟩ : Sl).v, .slice (hd a9) 8 c10]) 50 1, .own a12 ((cat (⟨hd (some b8), 1, 1, [(77 : UInt8)]⟩ :: [⟨hd a6, 48, c7, r.1 ++ be (UInt64.ofNat (d).toNat).toNat 8 ++ be ((0 : UInt64)).toNat 8⟩, (⟨some ⟨b1, 37, none⟩, 32, 32, zId.1⟩ : Sl), ⟨hd a9, 8, c10, be (UInt64.ofNat 0).toNat 8⟩])).length) c13 ((cat (⟨hd (some b8), 1, 1, [(77 : UInt8)]⟩ :: [⟨hd a6, 48, c7, r.1 ++ be (UInt64.ofNat (d).toNat).toNat 8 ++ be ((0 : UInt64)).toNat 8⟩, (⟨some ⟨b1, 37, none⟩, 32, 32, zId.1⟩ : Sl), ⟨hd a9, 8, c10, be (UInt64.ofNat 0).toNat 8⟩])).map V8) 5 1, .own (some b14) 1 1 (([(⟨(⟨sha256 ([(77 : UInt8)]), (show (sha256 ([(77 : UInt8)])).length = 32 from sha256_len _)⟩ : Id32), ⟨hd a12, (cat (⟨hd (some b8), 1, 1, [(77 : UInt8)]⟩ :: [⟨hd a6, 48, c7, r.1 ++ be (UInt64.ofNat (d).toNat).toNat 8 ++ be ((0 : UInt64)).toNat 8⟩, (⟨some ⟨b1, 37, none⟩, 32, 32, zId.1⟩ : Sl), ⟨hd a9, 8, c10, be (UInt64.ofNat 0).toNat 8⟩])).length, c13, cat (⟨hd (some b8), 1, 1, [(77 : UInt8)]⟩ :: [⟨hd a6, 48, c7, r.1 ++ be (UInt64.ofNat (d).toNat).toNat 8 ++ be ((0 : UInt64)).toNat 8⟩, (⟨some ⟨b1, 37, none⟩, 32, 32, zId.1⟩ : Sl), ⟨hd a9, 8, c10, be (UInt64.ofNat 0).toNat 8⟩])⟩⟩ : Rk)]).flatMap rkE) 52 33]))
     (fun (i16 : Nat) => 0) 0 ⟨rfl, rfl, rfl, rfl, rfl, trivial⟩ ⟨rfl, H⟩ ?_
   clear H
   rintro i16 τ w ⟨hi16, H⟩
   repeat refine c_seq ?_
   refine c_region ?_; refine l_op (o_val (r_bin (a := (i16 : Int)) (b := 0) rfl rfl (fun _ => b_lssB false (decide_eq_false (by omega)))) ?_); first | refine l_end ?_ | refine l_nil ?_
   repeat refine c_seq ?_
   refine c_no rfl ?_; refine c_exit ?_; repeat refine c_seq ?_
   refine c_region ?_; refine l_op (o_val (r_fa rfl fo41_5) ?_); refine l_op (o_val (r_l1 (v := .slice none 0 0) H (i := 0) rfl rfl ct39 (staE_c5 _)) ?_); refine l_op (o_val (r_lens el39 rfl) ?_); refine l_op (o_val r_mv ?_); first | refine l_end ?_ | refine l_nil ?_
   repeat refine c_seq ?_
   refine c_block ?_; repeat refine c_seq ?_
   refine c_loop (fun (i17 : Nat) => [(5, .slice (hd (some b14)) 1 1), (67, .slice none 0 0), (68, VI 0), (69, VI (i17 : Int))])
     (fun (i17 : Nat) w => (i17 = 0) ∧ Hp w0 w [] ([.blk b1 (staE (⟨r, d, (0 : UInt64), ⟨none, 0, 0, []⟩, ⟨none, 0, 0, []⟩, ⟨none, 0, 0, []⟩, zId⟩ : Sta)) 41, .own a2 32 c3 ((r.1).map V8) 5 1, .own a4 40 c5 ((r.1 ++ be (UInt64.ofNat (d).toNat).toNat 8).map V8) 5 1, .own a6 48 c7 ((r.1 ++ be (UInt64.ofNat (d).toNat).toNat 8 ++ be ((0 : UInt64)).toNat 8).map V8) 5 1, .own (some b8) 1 1 (([(77 : UInt8)]).map V8) 5 1, .own a9 8 c10 ((be (UInt64.ofNat 0).toNat 8).map V8) 5 1, .own (some b11) 3 3 ([.slice (hd a6) 48 c7, (⟨some ⟨b1, 37, none⟩, 32, 32, zId.1⟩ : Sl).v, .slice (hd a9) 8 c10]) 50 1, .own a12 ((cat (⟨hd (some b8), 1, 1, [(77 : UInt8)]⟩ :: [⟨hd a6, 48, c7, r.1 ++ be (UInt64.ofNat (d).toNat).toNat 8 ++ be ((0 : UInt64)).toNat 8⟩, (⟨some ⟨b1, 37, none⟩, 32, 32, zId.1⟩ : Sl), ⟨hd a9, 8, c10, be (UInt64.ofNat 0).toNat 8⟩])).length) c13 ((cat (⟨hd (some b8), 1, 1, [(77 : UInt8)]⟩ :: [⟨hd a6, 48, c7, r.1 ++ be (UInt64.ofNat (d).toNat).toNat 8 ++ be ((0 : UInt64)).toNat 8⟩, (⟨some ⟨b1, 37, none⟩, 32, 32, zId.1⟩ : Sl), ⟨hd a9, 8, c10, be (UInt64.ofNat 0).toNat 8⟩])).map V8) 5 1, .own (some b14) 1 1 (([(⟨(⟨sha256 ([(77 : UInt8)]), (show (sha256 ([(77 : UInt8)])).length = 32 from sha256_len _)⟩ : Id32), ⟨hd a12, (cat (⟨hd (some b8), 1, 1, [(77 : UInt8)]⟩ :: [⟨hd a6, 48, c7, r.1 ++ be (UInt64.ofNat (d).toNat).toNat 8 ++ be ((0 : UInt64)).toNat 8⟩, (⟨some ⟨b1, 37, none⟩, 32, 32, zId.1⟩ : Sl), ⟨hd a9, 8, c10, be (UInt64.ofNat 0).toNat 8⟩])).length, c13, cat (⟨hd (some b8), 1, 1, [(77 : UInt8)]⟩ :: [⟨hd a6, 48, c7, r.1 ++ be (UInt64.ofNat (d).toNat).toNat 8 ++ be ((0 : UInt64)).toNat 8⟩, (⟨some ⟨b1, 37, none⟩, 32, 32, zId.1⟩ : Sl), ⟨hd a9, 8, c10, be (UInt64.ofNat 0).toNat 8⟩])⟩⟩ : Rk)]).flatMap rkE) 52 33]))
     (fun (i17 : Nat) => 0) 0 ⟨rfl, rfl, rfl, rfl, trivial⟩ ⟨rfl, H⟩ ?_
   clear H
   rintro i17 τ w ⟨hi17, H⟩
   repeat refine c_seq ?_
   refine c_region ?_; refine l_op (o_val (r_bin (a := (i17 : Int)) (b := 0) rfl rfl (fun _ => b_lssB false (decide_eq_false (by omega)))) ?_); first | refine l_end ?_ | refine l_nil ?_
   repeat refine c_seq ?_
   refine c_no rfl ?_; refine c_exit ?_; repeat refine c_seq ?_
   refine c_region ?_; refine l_op (o_val r_mv ?_); refine l_op (o_callR Tryz.func18 rfl rfl rfl (sort_18 _ (hd (some b14)) 1 (.func (.func 19) #[] #[])) ?_); rintro _ w ⟨rfl, Hc⟩
   replace H : Hp _ w _ ([_, _, _, _, _, _, _, _, _]) := H.call Hc
   clear Hc
   first | refine l_end ?_ | refine l_nil ?_
   repeat refine c_seq ?_
   refine c_region ?_; refine l_op (o_val r_mv ?_); refine l_op (o_val r_as ?_); refine l_op (o_val r_as ?_); first | refine l_end ?_ | refine l_nil ?_
   refine c_ret ?_; try dsimp only [Exit.then, Exit.inBlock]
   refine e_retN (vs := [.slice (hd (some b14)) 1 1, VI 0]) _ Tryz.results8 rfl (resT (v := .slice (hd (some b14)) 1 1) rfl (resT (v := VI 0) rfl (resZ))) ?_
   refine ⟨_, rfl, ?_⟩
   have hq : (UInt64.ofNat d.toNat).toNat = d.toNat := ofNat_nat _ (by omega)
   have e1 : cat (⟨hd (some b8), 1, 1, [(77 : UInt8)]⟩ :: [⟨hd a6, 48, c7, r.1 ++ be (UInt64.ofNat (d).toNat).toNat 8 ++ be ((0 : UInt64)).toNat 8⟩, (⟨some ⟨b1, 37, none⟩, 32, 32, zId.1⟩ : Sl), ⟨hd a9, 8, c10, be (UInt64.ofNat 0).toNat 8⟩]) = recB r d := by simp [cat, recB, hq]
   have e2 := recB_len r d
   rw [e1, e2] at H
   exact ⟨_, _, _, _, rfl, H.sub (.cons _ (.cons _ (.cons _ (.cons _ (.cons _ (.cons _ (.cons _ (.cons_cons _ (.cons_cons _ (List.nil_sublist _))))))))))⟩
  ·
   refine (o_callR Tryz.func13 rfl rfl rfl (sput0_ret _ (UInt64.ofNat 0)) ?_)
   rintro _ w ⟨a18, c19, rfl, Hc⟩
   replace H : Hp _ w _ ([_, _, _, _, .own a18 8 c19 ((be (UInt64.ofNat 0).toNat 8).map V8) 5 1]) := H.call Hc
   clear Hc
   refine ⟨H.sub (.cons_cons _ (.cons_cons _ (.cons_cons _ (.cons_cons _ (List.nil_sublist _))))), ?_⟩
   replace HS := H.sub (.cons_cons _ (.cons_cons _ (.cons_cons _ (.cons_cons _ (List.nil_sublist _)))))
   refine t_all [0, 9] (by kernel_rfl) (by simp) (all_cons (w_op 0 rfl ?_) (all_cons (w_op 9 rfl ?_) (all_nil)))
   ·
    refine (o_bslB ([(77 : UInt8)]) H sl50 zc5 rfl rfl (by decide) (fun b20 w H hb20 => ?_))
    replace H : Hp _ w _ ([_, _, _, _, _, .own (some b20) 1 1 (([(77 : UInt8)]).map V8) 5 1]) := H
    refine ⟨H.sub (.cons_cons _ (.cons_cons _ (.cons_cons _ (.cons_cons _ (List.nil_sublist _))))), ?_⟩
    replace HS := H.sub (.cons_cons _ (.cons_cons _ (.cons_cons _ (.cons_cons _ (List.nil_sublist _)))))
    refine t_step 9 rfl (by kernel_rfl) (o_bslV ([.slice (hd a6) 48 c7, (⟨some ⟨b1, 37, none⟩, 32, 32, zId.1⟩ : Sl).v, .slice (hd a18) 8 c19]) H sl82 zc50 rfl (by simp [Value.oneCell', Sl.v]) rfl (by decide) (fun b21 w H hb21 => ?_)); replace H : Hp _ w _ ([_, _, _, _, _, _, .own (some b21) 3 3 ([.slice (hd a6) 48 c7, (⟨some ⟨b1, 37, none⟩, 32, 32, zId.1⟩ : Sl).v, .slice (hd a18) 8 c19]) 50 1]) := H
    refine ⟨H.sub (.cons_cons _ (.cons_cons _ (.cons_cons _ (.cons_cons _ (List.nil_sublist _))))), ?_⟩
    replace HS := H.sub (.cons_cons _ (.cons_cons _ (.cons_cons _ (.cons_cons _ (List.nil_sublist _)))))
    refine t_step 10 rfl (by kernel_rfl) (o_callR Tryz.func15 rfl rfl rfl (record_ret _ ⟨hd (some b20), 1, 1, [(77 : UInt8)]⟩ (H.slOwn (i := 5) rfl) (hd (some b21)) 3 3 ([⟨hd a6, 48, c7, r.1 ++ be (UInt64.ofNat (d).toNat).toNat 8 ++ be ((0 : UInt64)).toNat 8⟩, (⟨some ⟨b1, 37, none⟩, 32, 32, zId.1⟩ : Sl), ⟨hd a18, 8, c19, be (UInt64.ofNat 0).toNat 8⟩] : List Sl) (H.own (i := 6) rfl) rfl (all3 (H.slOwn (i := 3) rfl) (H.slMid (i := 0) rfl (staE_c6 _) (by decide)) (H.slOwn (i := 4) rfl)) (by (try dsimp only); omega) (by decide) (by simp [cat, be_len] <;> omega) (by simp [cat] <;> omega)) ?_); rintro _ w ⟨a22, c23, rfl, Hc⟩
    replace H : Hp _ w _ ([_, _, _, _, _, _, _, .own a22 ((cat (⟨hd (some b20), 1, 1, [(77 : UInt8)]⟩ :: [⟨hd a6, 48, c7, r.1 ++ be (UInt64.ofNat (d).toNat).toNat 8 ++ be ((0 : UInt64)).toNat 8⟩, (⟨some ⟨b1, 37, none⟩, 32, 32, zId.1⟩ : Sl), ⟨hd a18, 8, c19, be (UInt64.ofNat 0).toNat 8⟩])).length) c23 ((cat (⟨hd (some b20), 1, 1, [(77 : UInt8)]⟩ :: [⟨hd a6, 48, c7, r.1 ++ be (UInt64.ofNat (d).toNat).toNat 8 ++ be ((0 : UInt64)).toNat 8⟩, (⟨some ⟨b1, 37, none⟩, 32, 32, zId.1⟩ : Sl), ⟨hd a18, 8, c19, be (UInt64.ofNat 0).toNat 8⟩])).map V8) 5 1]) := H.call Hc
    clear Hc
    refine ⟨H.sub (.cons_cons _ (.cons_cons _ (.cons_cons _ (.cons_cons _ (List.nil_sublist _))))), ?_⟩
    replace HS := H.sub (.cons_cons _ (.cons_cons _ (.cons_cons _ (.cons_cons _ (List.nil_sublist _)))))
    refine t_step 11 rfl (by kernel_rfl) (o_bslG1 (enc := rkE) ((⟨(⟨sha256 ([(77 : UInt8)]), (show (sha256 ([(77 : UInt8)])).length = 32 from sha256_len _)⟩ : Id32), ⟨hd a22, (cat (⟨hd (some b20), 1, 1, [(77 : UInt8)]⟩ :: [⟨hd a6, 48, c7, r.1 ++ be (UInt64.ofNat (d).toNat).toNat 8 ++ be ((0 : UInt64)).toNat 8⟩, (⟨some ⟨b1, 37, none⟩, 32, 32, zId.1⟩ : Sl), ⟨hd a18, 8, c19, be (UInt64.ofNat 0).toNat 8⟩])).length, c23, cat (⟨hd (some b20), 1, 1, [(77 : UInt8)]⟩ :: [⟨hd a6, 48, c7, r.1 ++ be (UInt64.ofNat (d).toNat).toNat 8 ++ be ((0 : UInt64)).toNat 8⟩, (⟨some ⟨b1, 37, none⟩, 32, 32, zId.1⟩ : Sl), ⟨hd a18, 8, c19, be (UInt64.ofNat 0).toNat 8⟩])⟩⟩ : Rk)) H sl43 zc52 (by rfl) (by decide) (by decide) rfl (rkE_len _) (fun b24 w H hb24 => ?_)); replace H : Hp _ w _ ([_, _, _, _, _, _, _, _, .own (some b24) 1 1 (([(⟨(⟨sha256 ([(77 : UInt8)]), (show (sha256 ([(77 : UInt8)])).length = 32 from sha256_len _)⟩ : Id32), ⟨hd a22, (cat (⟨hd (some b20), 1, 1, [(77 : UInt8)]⟩ :: [⟨hd a6, 48, c7, r.1 ++ be (UInt64.ofNat (d).toNat).toNat 8 ++ be ((0 : UInt64)).toNat 8⟩, (⟨some ⟨b1, 37, none⟩, 32, 32, zId.1⟩ : Sl), ⟨hd a18, 8, c19, be (UInt64.ofNat 0).toNat 8⟩])).length, c23, cat (⟨hd (some b20), 1, 1, [(77 : UInt8)]⟩ :: [⟨hd a6, 48, c7, r.1 ++ be (UInt64.ofNat (d).toNat).toNat 8 ++ be ((0 : UInt64)).toNat 8⟩, (⟨some ⟨b1, 37, none⟩, 32, 32, zId.1⟩ : Sl), ⟨hd a18, 8, c19, be (UInt64.ofNat 0).toNat 8⟩])⟩⟩ : Rk)]).flatMap rkE) 52 33]) := H
    refine ⟨H.sub (.cons_cons _ (.cons_cons _ (.cons_cons _ (.cons_cons _ (List.nil_sublist _))))), ?_⟩
    replace HS := H.sub (.cons_cons _ (.cons_cons _ (.cons_cons _ (.cons_cons _ (List.nil_sublist _)))))
    refine t_take 12 rfl (by kernel_rfl) (by kernel_rfl) (by kernel_rfl) (fun _ _ _ h => h) (fun w HS => r_as) HS ?_; refine t_done (by kernel_rfl) ?_
    clear HS
    repeat refine c_seq ?_
    refine c_region ?_; refine l_op (o_val (r_fa rfl fo41_3) ?_); refine l_op (o_val (r_l1 (v := .slice none 0 0) H (i := 0) rfl rfl ct37 (staE_c3 _)) ?_); refine l_op (o_val (r_lens el37 rfl) ?_); refine l_op (o_val r_mv ?_); first | refine l_end ?_ | refine l_nil ?_
    repeat refine c_seq ?_
    refine c_block ?_; repeat refine c_seq ?_
    refine c_loop (fun (i25 : Nat) => [(1, .pointer (some ⟨b1, 0, none⟩)), (5, .slice (hd (some b24)) 1 1), (40, .slice none 0 0), (41, VI 0), (42, VI (i25 : Int))])
      (fun (i25 : Nat) w => (i25 = 0) ∧ Hp w0 w [] ([.blk b1 (staE (⟨r, d, (0 : UInt64), ⟨none, 0, 0, []⟩, ⟨none, 0, 0, []⟩, ⟨none, 0, 0, []⟩, zId⟩ : Sta)) 41, .own a2 32 c3 ((r.1).map V8) 5 1, .own a4 40 c5 ((r.1 ++ be (UInt64.ofNat (d).toNat).toNat 8).map V8) 5 1, .own a6 48 c7 ((r.1 ++ be (UInt64.ofNat (d).toNat).toNat 8 ++ be ((0 : UInt64)).toNat 8).map V8) 5 1, .own a18 8 c19 ((be (UInt64.ofNat 0).toNat 8).map V8) 5 1, .own (some b20) 1 1 (([(77 : UInt8)]).map V8) 5 1, .own (some b21) 3 3 ([.slice (hd a6) 48 c7, (⟨some ⟨b1, 37, none⟩, 32, 32, zId.1⟩ : Sl).v, .slice (hd a18) 8 c19]) 50 1, .own a22 ((cat (⟨hd (some b20), 1, 1, [(77 : UInt8)]⟩ :: [⟨hd a6, 48, c7, r.1 ++ be (UInt64.ofNat (d).toNat).toNat 8 ++ be ((0 : UInt64)).toNat 8⟩, (⟨some ⟨b1, 37, none⟩, 32, 32, zId.1⟩ : Sl), ⟨hd a18, 8, c19, be (UInt64.ofNat 0).toNat 8⟩])).length) c23 ((cat (⟨hd (some b20), 1, 1, [(77 : UInt8)]⟩ :: [⟨hd a6, 48, c7, r.1 ++ be (UInt64.ofNat (d).toNat).toNat 8 ++ be ((0 : UInt64)).toNat 8⟩, (⟨some ⟨b1, 37, none⟩, 32, 32, zId.1⟩ : Sl), ⟨hd a18, 8, c19, be (UInt64.ofNat 0).toNat 8⟩])).map V8) 5 1, .own (some b24) 1 1 (([(⟨(⟨sha256 ([(77 : UInt8)]), (show (sha256 ([(77 : UInt8)])).length = 32 from sha256_len _)⟩ : Id32), ⟨hd a22, (cat (⟨hd (some b20), 1, 1, [(77 : UInt8)]⟩ :: [⟨hd a6, 48, c7, r.1 ++ be (UInt64.ofNat (d).toNat).toNat 8 ++ be ((0 : UInt64)).toNat 8⟩, (⟨some ⟨b1, 37, none⟩, 32, 32, zId.1⟩ : Sl), ⟨hd a18, 8, c19, be (UInt64.ofNat 0).toNat 8⟩])).length, c23, cat (⟨hd (some b20), 1, 1, [(77 : UInt8)]⟩ :: [⟨hd a6, 48, c7, r.1 ++ be (UInt64.ofNat (d).toNat).toNat 8 ++ be ((0 : UInt64)).toNat 8⟩, (⟨some ⟨b1, 37, none⟩, 32, 32, zId.1⟩ : Sl), ⟨hd a18, 8, c19, be (UInt64.ofNat 0).toNat 8⟩])⟩⟩ : Rk)]).flatMap rkE) 52 33]))
      (fun (i25 : Nat) => 0) 0 ⟨rfl, rfl, rfl, rfl, rfl, trivial⟩ ⟨rfl, H⟩ ?_
    clear H
    rintro i25 τ w ⟨hi25, H⟩
    repeat refine c_seq ?_
    refine c_region ?_; refine l_op (o_val (r_bin (a := (i25 : Int)) (b := 0) rfl rfl (fun _ => b_lssB false (decide_eq_false (by omega)))) ?_); first | refine l_end ?_ | refine l_nil ?_
    repeat refine c_seq ?_
    refine c_no rfl ?_; refine c_exit ?_; repeat refine c_seq ?_
    refine c_region ?_; refine l_op (o_val (r_fa rfl fo41_4) ?_); refine l_op (o_val (r_l1 (v := .slice none 0 0) H (i := 0) rfl rfl ct38 (staE_c4 _)) ?_); refine l_op (o_val (r_lens el38 rfl) ?_); refine l_op (o_val r_mv ?_); first | refine l_end ?_ | refine l_nil ?_
    repeat refine c_seq ?_
    refine c_block ?_; repeat refine c_seq ?_
    refine c_loop (fun (i26 : Nat) => [(1, .pointer (some ⟨b1, 0, none⟩)), (5, .slice (hd (some b24)) 1 1), (52, .slice none 0 0), (53, VI 0), (54, VI (i26 : Int))])
      (fun (i26 : Nat) w => (i26 = 0) ∧ Hp w0 w [] ([.blk b1 (staE (⟨r, d, (0 : UInt64), ⟨none, 0, 0, []⟩, ⟨none, 0, 0, []⟩, ⟨none, 0, 0, []⟩, zId⟩ : Sta)) 41, .own a2 32 c3 ((r.1).map V8) 5 1, .own a4 40 c5 ((r.1 ++ be (UInt64.ofNat (d).toNat).toNat 8).map V8) 5 1, .own a6 48 c7 ((r.1 ++ be (UInt64.ofNat (d).toNat).toNat 8 ++ be ((0 : UInt64)).toNat 8).map V8) 5 1, .own a18 8 c19 ((be (UInt64.ofNat 0).toNat 8).map V8) 5 1, .own (some b20) 1 1 (([(77 : UInt8)]).map V8) 5 1, .own (some b21) 3 3 ([.slice (hd a6) 48 c7, (⟨some ⟨b1, 37, none⟩, 32, 32, zId.1⟩ : Sl).v, .slice (hd a18) 8 c19]) 50 1, .own a22 ((cat (⟨hd (some b20), 1, 1, [(77 : UInt8)]⟩ :: [⟨hd a6, 48, c7, r.1 ++ be (UInt64.ofNat (d).toNat).toNat 8 ++ be ((0 : UInt64)).toNat 8⟩, (⟨some ⟨b1, 37, none⟩, 32, 32, zId.1⟩ : Sl), ⟨hd a18, 8, c19, be (UInt64.ofNat 0).toNat 8⟩])).length) c23 ((cat (⟨hd (some b20), 1, 1, [(77 : UInt8)]⟩ :: [⟨hd a6, 48, c7, r.1 ++ be (UInt64.ofNat (d).toNat).toNat 8 ++ be ((0 : UInt64)).toNat 8⟩, (⟨some ⟨b1, 37, none⟩, 32, 32, zId.1⟩ : Sl), ⟨hd a18, 8, c19, be (UInt64.ofNat 0).toNat 8⟩])).map V8) 5 1, .own (some b24) 1 1 (([(⟨(⟨sha256 ([(77 : UInt8)]), (show (sha256 ([(77 : UInt8)])).length = 32 from sha256_len _)⟩ : Id32), ⟨hd a22, (cat (⟨hd (some b20), 1, 1, [(77 : UInt8)]⟩ :: [⟨hd a6, 48, c7, r.1 ++ be (UInt64.ofNat (d).toNat).toNat 8 ++ be ((0 : UInt64)).toNat 8⟩, (⟨some ⟨b1, 37, none⟩, 32, 32, zId.1⟩ : Sl), ⟨hd a18, 8, c19, be (UInt64.ofNat 0).toNat 8⟩])).length, c23, cat (⟨hd (some b20), 1, 1, [(77 : UInt8)]⟩ :: [⟨hd a6, 48, c7, r.1 ++ be (UInt64.ofNat (d).toNat).toNat 8 ++ be ((0 : UInt64)).toNat 8⟩, (⟨some ⟨b1, 37, none⟩, 32, 32, zId.1⟩ : Sl), ⟨hd a18, 8, c19, be (UInt64.ofNat 0).toNat 8⟩])⟩⟩ : Rk)]).flatMap rkE) 52 33]))
      (fun (i26 : Nat) => 0) 0 ⟨rfl, rfl, rfl, rfl, rfl, trivial⟩ ⟨rfl, H⟩ ?_
    clear H
    rintro i26 τ w ⟨hi26, H⟩
    repeat refine c_seq ?_
    refine c_region ?_; refine l_op (o_val (r_bin (a := (i26 : Int)) (b := 0) rfl rfl (fun _ => b_lssB false (decide_eq_false (by omega)))) ?_); first | refine l_end ?_ | refine l_nil ?_
    repeat refine c_seq ?_
    refine c_no rfl ?_; refine c_exit ?_; repeat refine c_seq ?_
    refine c_region ?_; refine l_op (o_val (r_fa rfl fo41_5) ?_); refine l_op (o_val (r_l1 (v := .slice none 0 0) H (i := 0) rfl rfl ct39 (staE_c5 _)) ?_); refine l_op (o_val (r_lens el39 rfl) ?_); refine l_op (o_val r_mv ?_); first | refine l_end ?_ | refine l_nil ?_
    repeat refine c_seq ?_
    refine c_block ?_; repeat refine c_seq ?_
    refine c_loop (fun (i27 : Nat) => [(5, .slice (hd (some b24)) 1 1), (67, .slice none 0 0), (68, VI 0), (69, VI (i27 : Int))])
      (fun (i27 : Nat) w => (i27 = 0) ∧ Hp w0 w [] ([.blk b1 (staE (⟨r, d, (0 : UInt64), ⟨none, 0, 0, []⟩, ⟨none, 0, 0, []⟩, ⟨none, 0, 0, []⟩, zId⟩ : Sta)) 41, .own a2 32 c3 ((r.1).map V8) 5 1, .own a4 40 c5 ((r.1 ++ be (UInt64.ofNat (d).toNat).toNat 8).map V8) 5 1, .own a6 48 c7 ((r.1 ++ be (UInt64.ofNat (d).toNat).toNat 8 ++ be ((0 : UInt64)).toNat 8).map V8) 5 1, .own a18 8 c19 ((be (UInt64.ofNat 0).toNat 8).map V8) 5 1, .own (some b20) 1 1 (([(77 : UInt8)]).map V8) 5 1, .own (some b21) 3 3 ([.slice (hd a6) 48 c7, (⟨some ⟨b1, 37, none⟩, 32, 32, zId.1⟩ : Sl).v, .slice (hd a18) 8 c19]) 50 1, .own a22 ((cat (⟨hd (some b20), 1, 1, [(77 : UInt8)]⟩ :: [⟨hd a6, 48, c7, r.1 ++ be (UInt64.ofNat (d).toNat).toNat 8 ++ be ((0 : UInt64)).toNat 8⟩, (⟨some ⟨b1, 37, none⟩, 32, 32, zId.1⟩ : Sl), ⟨hd a18, 8, c19, be (UInt64.ofNat 0).toNat 8⟩])).length) c23 ((cat (⟨hd (some b20), 1, 1, [(77 : UInt8)]⟩ :: [⟨hd a6, 48, c7, r.1 ++ be (UInt64.ofNat (d).toNat).toNat 8 ++ be ((0 : UInt64)).toNat 8⟩, (⟨some ⟨b1, 37, none⟩, 32, 32, zId.1⟩ : Sl), ⟨hd a18, 8, c19, be (UInt64.ofNat 0).toNat 8⟩])).map V8) 5 1, .own (some b24) 1 1 (([(⟨(⟨sha256 ([(77 : UInt8)]), (show (sha256 ([(77 : UInt8)])).length = 32 from sha256_len _)⟩ : Id32), ⟨hd a22, (cat (⟨hd (some b20), 1, 1, [(77 : UInt8)]⟩ :: [⟨hd a6, 48, c7, r.1 ++ be (UInt64.ofNat (d).toNat).toNat 8 ++ be ((0 : UInt64)).toNat 8⟩, (⟨some ⟨b1, 37, none⟩, 32, 32, zId.1⟩ : Sl), ⟨hd a18, 8, c19, be (UInt64.ofNat 0).toNat 8⟩])).length, c23, cat (⟨hd (some b20), 1, 1, [(77 : UInt8)]⟩ :: [⟨hd a6, 48, c7, r.1 ++ be (UInt64.ofNat (d).toNat).toNat 8 ++ be ((0 : UInt64)).toNat 8⟩, (⟨some ⟨b1, 37, none⟩, 32, 32, zId.1⟩ : Sl), ⟨hd a18, 8, c19, be (UInt64.ofNat 0).toNat 8⟩])⟩⟩ : Rk)]).flatMap rkE) 52 33]))
      (fun (i27 : Nat) => 0) 0 ⟨rfl, rfl, rfl, rfl, trivial⟩ ⟨rfl, H⟩ ?_
    clear H
    rintro i27 τ w ⟨hi27, H⟩
    repeat refine c_seq ?_
    refine c_region ?_; refine l_op (o_val (r_bin (a := (i27 : Int)) (b := 0) rfl rfl (fun _ => b_lssB false (decide_eq_false (by omega)))) ?_); first | refine l_end ?_ | refine l_nil ?_
    repeat refine c_seq ?_
    refine c_no rfl ?_; refine c_exit ?_; repeat refine c_seq ?_
    refine c_region ?_; refine l_op (o_val r_mv ?_); refine l_op (o_callR Tryz.func18 rfl rfl rfl (sort_18 _ (hd (some b24)) 1 (.func (.func 19) #[] #[])) ?_); rintro _ w ⟨rfl, Hc⟩
    replace H : Hp _ w _ ([_, _, _, _, _, _, _, _, _]) := H.call Hc
    clear Hc
    first | refine l_end ?_ | refine l_nil ?_
    repeat refine c_seq ?_
    refine c_region ?_; refine l_op (o_val r_mv ?_); refine l_op (o_val r_as ?_); refine l_op (o_val r_as ?_); first | refine l_end ?_ | refine l_nil ?_
    refine c_ret ?_; try dsimp only [Exit.then, Exit.inBlock]
    refine e_retN (vs := [.slice (hd (some b24)) 1 1, VI 0]) _ Tryz.results8 rfl (resT (v := .slice (hd (some b24)) 1 1) rfl (resT (v := VI 0) rfl (resZ))) ?_
    refine ⟨_, rfl, ?_⟩
    have hq : (UInt64.ofNat d.toNat).toNat = d.toNat := ofNat_nat _ (by omega)
    have e1 : cat (⟨hd (some b20), 1, 1, [(77 : UInt8)]⟩ :: [⟨hd a6, 48, c7, r.1 ++ be (UInt64.ofNat (d).toNat).toNat 8 ++ be ((0 : UInt64)).toNat 8⟩, (⟨some ⟨b1, 37, none⟩, 32, 32, zId.1⟩ : Sl), ⟨hd a18, 8, c19, be (UInt64.ofNat 0).toNat 8⟩]) = recB r d := by simp [cat, recB, hq]
    have e2 := recB_len r d
    rw [e1, e2] at H
    exact ⟨_, _, _, _, rfl, H.sub (.cons _ (.cons _ (.cons _ (.cons _ (.cons _ (.cons _ (.cons _ (.cons_cons _ (.cons_cons _ (List.nil_sublist _))))))))))⟩
   ·
    refine (o_bslV ([.slice (hd a6) 48 c7, (⟨some ⟨b1, 37, none⟩, 32, 32, zId.1⟩ : Sl).v, .slice (hd a18) 8 c19]) H sl82 zc50 rfl (by simp [Value.oneCell', Sl.v]) rfl (by decide) (fun b28 w H hb28 => ?_))
    replace H : Hp _ w _ ([_, _, _, _, _, .own (some b28) 3 3 ([.slice (hd a6) 48 c7, (⟨some ⟨b1, 37, none⟩, 32, 32, zId.1⟩ : Sl).v, .slice (hd a18) 8 c19]) 50 1]) := H
    refine ⟨H.sub (.cons_cons _ (.cons_cons _ (.cons_cons _ (.cons_cons _ (List.nil_sublist _))))), ?_⟩
    replace HS := H.sub (.cons_cons _ (.cons_cons _ (.cons_cons _ (.cons_cons _ (List.nil_sublist _)))))
    refine t_step 0 rfl (by kernel_rfl) (o_bslB ([(77 : UInt8)]) H sl50 zc5 rfl rfl (by decide) (fun b29 w H hb29 => ?_)); replace H : Hp _ w _ ([_, _, _, _, _, _, .own (some b29) 1 1 (([(77 : UInt8)]).map V8) 5 1]) := H
    refine ⟨H.sub (.cons_cons _ (.cons_cons _ (.cons_cons _ (.cons_cons _ (List.nil_sublist _))))), ?_⟩
    replace HS := H.sub (.cons_cons _ (.cons_cons _ (.cons_cons _ (.cons_cons _ (List.nil_sublist _)))))
    refine t_step 10 rfl (by kernel_rfl) (o_callR Tryz.func15 rfl rfl rfl (record_ret _ ⟨hd (some b29), 1, 1, [(77 : UInt8)]⟩ (H.slOwn (i := 6) rfl) (hd (some b28)) 3 3 ([⟨hd a6, 48, c7, r.1 ++ be (UInt64.ofNat (d).toNat).toNat 8 ++ be ((0 : UInt64)).toNat 8⟩, (⟨some ⟨b1, 37, none⟩, 32, 32, zId.1⟩ : Sl), ⟨hd a18, 8, c19, be (UInt64.ofNat 0).toNat 8⟩] : List Sl) (H.own (i := 5) rfl) rfl (all3 (H.slOwn (i := 3) rfl) (H.slMid (i := 0) rfl (staE_c6 _) (by decide)) (H.slOwn (i := 4) rfl)) (by (try dsimp only); omega) (by decide) (by simp [cat, be_len] <;> omega) (by simp [cat] <;> omega)) ?_); rintro _ w ⟨a30, c31, rfl, Hc⟩
    replace H : Hp _ w _ ([_, _, _, _, _, _, _, .own a30 ((cat (⟨hd (some b29), 1, 1, [(77 : UInt8)]⟩ :: [⟨hd a6, 48, c7, r.1 ++ be (UInt64.ofNat (d).toNat).toNat 8 ++ be ((0 : UInt64)).toNat 8⟩, (⟨some ⟨b1, 37, none⟩, 32, 32, zId.1⟩ : Sl), ⟨hd a18, 8, c19, be (UInt64.ofNat 0).toNat 8⟩])).length) c31 ((cat (⟨hd (some b29), 1, 1, [(77 : UInt8)]⟩ :: [⟨hd a6, 48, c7, r.1 ++ be (UInt64.ofNat (d).toNat).toNat 8 ++ be ((0 : UInt64)).toNat 8⟩, (⟨some ⟨b1, 37, none⟩, 32, 32, zId.1⟩ : Sl), ⟨hd a18, 8, c19, be (UInt64.ofNat 0).toNat 8⟩])).map V8) 5 1]) := H.call Hc
    clear Hc
    refine ⟨H.sub (.cons_cons _ (.cons_cons _ (.cons_cons _ (.cons_cons _ (List.nil_sublist _))))), ?_⟩
    replace HS := H.sub (.cons_cons _ (.cons_cons _ (.cons_cons _ (.cons_cons _ (List.nil_sublist _)))))
    refine t_step 11 rfl (by kernel_rfl) (o_bslG1 (enc := rkE) ((⟨(⟨sha256 ([(77 : UInt8)]), (show (sha256 ([(77 : UInt8)])).length = 32 from sha256_len _)⟩ : Id32), ⟨hd a30, (cat (⟨hd (some b29), 1, 1, [(77 : UInt8)]⟩ :: [⟨hd a6, 48, c7, r.1 ++ be (UInt64.ofNat (d).toNat).toNat 8 ++ be ((0 : UInt64)).toNat 8⟩, (⟨some ⟨b1, 37, none⟩, 32, 32, zId.1⟩ : Sl), ⟨hd a18, 8, c19, be (UInt64.ofNat 0).toNat 8⟩])).length, c31, cat (⟨hd (some b29), 1, 1, [(77 : UInt8)]⟩ :: [⟨hd a6, 48, c7, r.1 ++ be (UInt64.ofNat (d).toNat).toNat 8 ++ be ((0 : UInt64)).toNat 8⟩, (⟨some ⟨b1, 37, none⟩, 32, 32, zId.1⟩ : Sl), ⟨hd a18, 8, c19, be (UInt64.ofNat 0).toNat 8⟩])⟩⟩ : Rk)) H sl43 zc52 (by rfl) (by decide) (by decide) rfl (rkE_len _) (fun b32 w H hb32 => ?_)); replace H : Hp _ w _ ([_, _, _, _, _, _, _, _, .own (some b32) 1 1 (([(⟨(⟨sha256 ([(77 : UInt8)]), (show (sha256 ([(77 : UInt8)])).length = 32 from sha256_len _)⟩ : Id32), ⟨hd a30, (cat (⟨hd (some b29), 1, 1, [(77 : UInt8)]⟩ :: [⟨hd a6, 48, c7, r.1 ++ be (UInt64.ofNat (d).toNat).toNat 8 ++ be ((0 : UInt64)).toNat 8⟩, (⟨some ⟨b1, 37, none⟩, 32, 32, zId.1⟩ : Sl), ⟨hd a18, 8, c19, be (UInt64.ofNat 0).toNat 8⟩])).length, c31, cat (⟨hd (some b29), 1, 1, [(77 : UInt8)]⟩ :: [⟨hd a6, 48, c7, r.1 ++ be (UInt64.ofNat (d).toNat).toNat 8 ++ be ((0 : UInt64)).toNat 8⟩, (⟨some ⟨b1, 37, none⟩, 32, 32, zId.1⟩ : Sl), ⟨hd a18, 8, c19, be (UInt64.ofNat 0).toNat 8⟩])⟩⟩ : Rk)]).flatMap rkE) 52 33]) := H
    refine ⟨H.sub (.cons_cons _ (.cons_cons _ (.cons_cons _ (.cons_cons _ (List.nil_sublist _))))), ?_⟩
    replace HS := H.sub (.cons_cons _ (.cons_cons _ (.cons_cons _ (.cons_cons _ (List.nil_sublist _)))))
    refine t_take 12 rfl (by kernel_rfl) (by kernel_rfl) (by kernel_rfl) (fun _ _ _ h => h) (fun w HS => r_as) HS ?_; refine t_done (by kernel_rfl) ?_
    clear HS
    repeat refine c_seq ?_
    refine c_region ?_; refine l_op (o_val (r_fa rfl fo41_3) ?_); refine l_op (o_val (r_l1 (v := .slice none 0 0) H (i := 0) rfl rfl ct37 (staE_c3 _)) ?_); refine l_op (o_val (r_lens el37 rfl) ?_); refine l_op (o_val r_mv ?_); first | refine l_end ?_ | refine l_nil ?_
    repeat refine c_seq ?_
    refine c_block ?_; repeat refine c_seq ?_
    refine c_loop (fun (i33 : Nat) => [(1, .pointer (some ⟨b1, 0, none⟩)), (5, .slice (hd (some b32)) 1 1), (40, .slice none 0 0), (41, VI 0), (42, VI (i33 : Int))])
      (fun (i33 : Nat) w => (i33 = 0) ∧ Hp w0 w [] ([.blk b1 (staE (⟨r, d, (0 : UInt64), ⟨none, 0, 0, []⟩, ⟨none, 0, 0, []⟩, ⟨none, 0, 0, []⟩, zId⟩ : Sta)) 41, .own a2 32 c3 ((r.1).map V8) 5 1, .own a4 40 c5 ((r.1 ++ be (UInt64.ofNat (d).toNat).toNat 8).map V8) 5 1, .own a6 48 c7 ((r.1 ++ be (UInt64.ofNat (d).toNat).toNat 8 ++ be ((0 : UInt64)).toNat 8).map V8) 5 1, .own a18 8 c19 ((be (UInt64.ofNat 0).toNat 8).map V8) 5 1, .own (some b28) 3 3 ([.slice (hd a6) 48 c7, (⟨some ⟨b1, 37, none⟩, 32, 32, zId.1⟩ : Sl).v, .slice (hd a18) 8 c19]) 50 1, .own (some b29) 1 1 (([(77 : UInt8)]).map V8) 5 1, .own a30 ((cat (⟨hd (some b29), 1, 1, [(77 : UInt8)]⟩ :: [⟨hd a6, 48, c7, r.1 ++ be (UInt64.ofNat (d).toNat).toNat 8 ++ be ((0 : UInt64)).toNat 8⟩, (⟨some ⟨b1, 37, none⟩, 32, 32, zId.1⟩ : Sl), ⟨hd a18, 8, c19, be (UInt64.ofNat 0).toNat 8⟩])).length) c31 ((cat (⟨hd (some b29), 1, 1, [(77 : UInt8)]⟩ :: [⟨hd a6, 48, c7, r.1 ++ be (UInt64.ofNat (d).toNat).toNat 8 ++ be ((0 : UInt64)).toNat 8⟩, (⟨some ⟨b1, 37, none⟩, 32, 32, zId.1⟩ : Sl), ⟨hd a18, 8, c19, be (UInt64.ofNat 0).toNat 8⟩])).map V8) 5 1, .own (some b32) 1 1 (([(⟨(⟨sha256 ([(77 : UInt8)]), (show (sha256 ([(77 : UInt8)])).length = 32 from sha256_len _)⟩ : Id32), ⟨hd a30, (cat (⟨hd (some b29), 1, 1, [(77 : UInt8)]⟩ :: [⟨hd a6, 48, c7, r.1 ++ be (UInt64.ofNat (d).toNat).toNat 8 ++ be ((0 : UInt64)).toNat 8⟩, (⟨some ⟨b1, 37, none⟩, 32, 32, zId.1⟩ : Sl), ⟨hd a18, 8, c19, be (UInt64.ofNat 0).toNat 8⟩])).length, c31, cat (⟨hd (some b29), 1, 1, [(77 : UInt8)]⟩ :: [⟨hd a6, 48, c7, r.1 ++ be (UInt64.ofNat (d).toNat).toNat 8 ++ be ((0 : UInt64)).toNat 8⟩, (⟨some ⟨b1, 37, none⟩, 32, 32, zId.1⟩ : Sl), ⟨hd a18, 8, c19, be (UInt64.ofNat 0).toNat 8⟩])⟩⟩ : Rk)]).flatMap rkE) 52 33]))
      (fun (i33 : Nat) => 0) 0 ⟨rfl, rfl, rfl, rfl, rfl, trivial⟩ ⟨rfl, H⟩ ?_
    clear H
    rintro i33 τ w ⟨hi33, H⟩
    repeat refine c_seq ?_
    refine c_region ?_; refine l_op (o_val (r_bin (a := (i33 : Int)) (b := 0) rfl rfl (fun _ => b_lssB false (decide_eq_false (by omega)))) ?_); first | refine l_end ?_ | refine l_nil ?_
    repeat refine c_seq ?_
    refine c_no rfl ?_; refine c_exit ?_; repeat refine c_seq ?_
    refine c_region ?_; refine l_op (o_val (r_fa rfl fo41_4) ?_); refine l_op (o_val (r_l1 (v := .slice none 0 0) H (i := 0) rfl rfl ct38 (staE_c4 _)) ?_); refine l_op (o_val (r_lens el38 rfl) ?_); refine l_op (o_val r_mv ?_); first | refine l_end ?_ | refine l_nil ?_
    repeat refine c_seq ?_
    refine c_block ?_; repeat refine c_seq ?_
    refine c_loop (fun (i34 : Nat) => [(1, .pointer (some ⟨b1, 0, none⟩)), (5, .slice (hd (some b32)) 1 1), (52, .slice none 0 0), (53, VI 0), (54, VI (i34 : Int))])
      (fun (i34 : Nat) w => (i34 = 0) ∧ Hp w0 w [] ([.blk b1 (staE (⟨r, d, (0 : UInt64), ⟨none, 0, 0, []⟩, ⟨none, 0, 0, []⟩, ⟨none, 0, 0, []⟩, zId⟩ : Sta)) 41, .own a2 32 c3 ((r.1).map V8) 5 1, .own a4 40 c5 ((r.1 ++ be (UInt64.ofNat (d).toNat).toNat 8).map V8) 5 1, .own a6 48 c7 ((r.1 ++ be (UInt64.ofNat (d).toNat).toNat 8 ++ be ((0 : UInt64)).toNat 8).map V8) 5 1, .own a18 8 c19 ((be (UInt64.ofNat 0).toNat 8).map V8) 5 1, .own (some b28) 3 3 ([.slice (hd a6) 48 c7, (⟨some ⟨b1, 37, none⟩, 32, 32, zId.1⟩ : Sl).v, .slice (hd a18) 8 c19]) 50 1, .own (some b29) 1 1 (([(77 : UInt8)]).map V8) 5 1, .own a30 ((cat (⟨hd (some b29), 1, 1, [(77 : UInt8)]⟩ :: [⟨hd a6, 48, c7, r.1 ++ be (UInt64.ofNat (d).toNat).toNat 8 ++ be ((0 : UInt64)).toNat 8⟩, (⟨some ⟨b1, 37, none⟩, 32, 32, zId.1⟩ : Sl), ⟨hd a18, 8, c19, be (UInt64.ofNat 0).toNat 8⟩])).length) c31 ((cat (⟨hd (some b29), 1, 1, [(77 : UInt8)]⟩ :: [⟨hd a6, 48, c7, r.1 ++ be (UInt64.ofNat (d).toNat).toNat 8 ++ be ((0 : UInt64)).toNat 8⟩, (⟨some ⟨b1, 37, none⟩, 32, 32, zId.1⟩ : Sl), ⟨hd a18, 8, c19, be (UInt64.ofNat 0).toNat 8⟩])).map V8) 5 1, .own (some b32) 1 1 (([(⟨(⟨sha256 ([(77 : UInt8)]), (show (sha256 ([(77 : UInt8)])).length = 32 from sha256_len _)⟩ : Id32), ⟨hd a30, (cat (⟨hd (some b29), 1, 1, [(77 : UInt8)]⟩ :: [⟨hd a6, 48, c7, r.1 ++ be (UInt64.ofNat (d).toNat).toNat 8 ++ be ((0 : UInt64)).toNat 8⟩, (⟨some ⟨b1, 37, none⟩, 32, 32, zId.1⟩ : Sl), ⟨hd a18, 8, c19, be (UInt64.ofNat 0).toNat 8⟩])).length, c31, cat (⟨hd (some b29), 1, 1, [(77 : UInt8)]⟩ :: [⟨hd a6, 48, c7, r.1 ++ be (UInt64.ofNat (d).toNat).toNat 8 ++ be ((0 : UInt64)).toNat 8⟩, (⟨some ⟨b1, 37, none⟩, 32, 32, zId.1⟩ : Sl), ⟨hd a18, 8, c19, be (UInt64.ofNat 0).toNat 8⟩])⟩⟩ : Rk)]).flatMap rkE) 52 33]))
      (fun (i34 : Nat) => 0) 0 ⟨rfl, rfl, rfl, rfl, rfl, trivial⟩ ⟨rfl, H⟩ ?_
    clear H
    rintro i34 τ w ⟨hi34, H⟩
    repeat refine c_seq ?_
    refine c_region ?_; refine l_op (o_val (r_bin (a := (i34 : Int)) (b := 0) rfl rfl (fun _ => b_lssB false (decide_eq_false (by omega)))) ?_); first | refine l_end ?_ | refine l_nil ?_
    repeat refine c_seq ?_
    refine c_no rfl ?_; refine c_exit ?_; repeat refine c_seq ?_
    refine c_region ?_; refine l_op (o_val (r_fa rfl fo41_5) ?_); refine l_op (o_val (r_l1 (v := .slice none 0 0) H (i := 0) rfl rfl ct39 (staE_c5 _)) ?_); refine l_op (o_val (r_lens el39 rfl) ?_); refine l_op (o_val r_mv ?_); first | refine l_end ?_ | refine l_nil ?_
    repeat refine c_seq ?_
    refine c_block ?_; repeat refine c_seq ?_
    refine c_loop (fun (i35 : Nat) => [(5, .slice (hd (some b32)) 1 1), (67, .slice none 0 0), (68, VI 0), (69, VI (i35 : Int))])
      (fun (i35 : Nat) w => (i35 = 0) ∧ Hp w0 w [] ([.blk b1 (staE (⟨r, d, (0 : UInt64), ⟨none, 0, 0, []⟩, ⟨none, 0, 0, []⟩, ⟨none, 0, 0, []⟩, zId⟩ : Sta)) 41, .own a2 32 c3 ((r.1).map V8) 5 1, .own a4 40 c5 ((r.1 ++ be (UInt64.ofNat (d).toNat).toNat 8).map V8) 5 1, .own a6 48 c7 ((r.1 ++ be (UInt64.ofNat (d).toNat).toNat 8 ++ be ((0 : UInt64)).toNat 8).map V8) 5 1, .own a18 8 c19 ((be (UInt64.ofNat 0).toNat 8).map V8) 5 1, .own (some b28) 3 3 ([.slice (hd a6) 48 c7, (⟨some ⟨b1, 37, none⟩, 32, 32, zId.1⟩ : Sl).v, .slice (hd a18) 8 c19]) 50 1, .own (some b29) 1 1 (([(77 : UInt8)]).map V8) 5 1, .own a30 ((cat (⟨hd (some b29), 1, 1, [(77 : UInt8)]⟩ :: [⟨hd a6, 48, c7, r.1 ++ be (UInt64.ofNat (d).toNat).toNat 8 ++ be ((0 : UInt64)).toNat 8⟩, (⟨some ⟨b1, 37, none⟩, 32, 32, zId.1⟩ : Sl), ⟨hd a18, 8, c19, be (UInt64.ofNat 0).toNat 8⟩])).length) c31 ((cat (⟨hd (some b29), 1, 1, [(77 : UInt8)]⟩ :: [⟨hd a6, 48, c7, r.1 ++ be (UInt64.ofNat (d).toNat).toNat 8 ++ be ((0 : UInt64)).toNat 8⟩, (⟨some ⟨b1, 37, none⟩, 32, 32, zId.1⟩ : Sl), ⟨hd a18, 8, c19, be (UInt64.ofNat 0).toNat 8⟩])).map V8) 5 1, .own (some b32) 1 1 (([(⟨(⟨sha256 ([(77 : UInt8)]), (show (sha256 ([(77 : UInt8)])).length = 32 from sha256_len _)⟩ : Id32), ⟨hd a30, (cat (⟨hd (some b29), 1, 1, [(77 : UInt8)]⟩ :: [⟨hd a6, 48, c7, r.1 ++ be (UInt64.ofNat (d).toNat).toNat 8 ++ be ((0 : UInt64)).toNat 8⟩, (⟨some ⟨b1, 37, none⟩, 32, 32, zId.1⟩ : Sl), ⟨hd a18, 8, c19, be (UInt64.ofNat 0).toNat 8⟩])).length, c31, cat (⟨hd (some b29), 1, 1, [(77 : UInt8)]⟩ :: [⟨hd a6, 48, c7, r.1 ++ be (UInt64.ofNat (d).toNat).toNat 8 ++ be ((0 : UInt64)).toNat 8⟩, (⟨some ⟨b1, 37, none⟩, 32, 32, zId.1⟩ : Sl), ⟨hd a18, 8, c19, be (UInt64.ofNat 0).toNat 8⟩])⟩⟩ : Rk)]).flatMap rkE) 52 33]))
      (fun (i35 : Nat) => 0) 0 ⟨rfl, rfl, rfl, rfl, trivial⟩ ⟨rfl, H⟩ ?_
    clear H
    rintro i35 τ w ⟨hi35, H⟩
    repeat refine c_seq ?_
    refine c_region ?_; refine l_op (o_val (r_bin (a := (i35 : Int)) (b := 0) rfl rfl (fun _ => b_lssB false (decide_eq_false (by omega)))) ?_); first | refine l_end ?_ | refine l_nil ?_
    repeat refine c_seq ?_
    refine c_no rfl ?_; refine c_exit ?_; repeat refine c_seq ?_
    refine c_region ?_; refine l_op (o_val r_mv ?_); refine l_op (o_callR Tryz.func18 rfl rfl rfl (sort_18 _ (hd (some b32)) 1 (.func (.func 19) #[] #[])) ?_); rintro _ w ⟨rfl, Hc⟩
    replace H : Hp _ w _ ([_, _, _, _, _, _, _, _, _]) := H.call Hc
    clear Hc
    first | refine l_end ?_ | refine l_nil ?_
    repeat refine c_seq ?_
    refine c_region ?_; refine l_op (o_val r_mv ?_); refine l_op (o_val r_as ?_); refine l_op (o_val r_as ?_); first | refine l_end ?_ | refine l_nil ?_
    refine c_ret ?_; try dsimp only [Exit.then, Exit.inBlock]
    refine e_retN (vs := [.slice (hd (some b32)) 1 1, VI 0]) _ Tryz.results8 rfl (resT (v := .slice (hd (some b32)) 1 1) rfl (resT (v := VI 0) rfl (resZ))) ?_
    refine ⟨_, rfl, ?_⟩
    have hq : (UInt64.ofNat d.toNat).toNat = d.toNat := ofNat_nat _ (by omega)
    have e1 : cat (⟨hd (some b29), 1, 1, [(77 : UInt8)]⟩ :: [⟨hd a6, 48, c7, r.1 ++ be (UInt64.ofNat (d).toNat).toNat 8 ++ be ((0 : UInt64)).toNat 8⟩, (⟨some ⟨b1, 37, none⟩, 32, 32, zId.1⟩ : Sl), ⟨hd a18, 8, c19, be (UInt64.ofNat 0).toNat 8⟩]) = recB r d := by simp [cat, recB, hq]
    have e2 := recB_len r d
    rw [e1, e2] at H
    exact ⟨_, _, _, _, rfl, H.sub (.cons _ (.cons _ (.cons _ (.cons _ (.cons _ (.cons _ (.cons _ (.cons_cons _ (.cons_cons _ (List.nil_sublist _))))))))))⟩
end Go.Proofs.YthigalfaanccnaaGreat
namespace Go.Proofs.YthigalfaanccnaaGreat
open Go Go.ChangeMaps
set_option maxRecDepth 100000
theorem RdS.apartK {w0 : World} {a : Option Addr} {vs : List Value} {S : List Nat} (hr : RdS w0 a vs) (hv : vs ≠ []) (hS : ∀ b ∈ S, w0.heap.size ≤ b) : Apart a S := by
  intro y hy hm
  rcases hr with h | ⟨b', o, C, T, fr, ha, hh, _⟩
  · exact hv h
  · rw [ha] at hy
    cases hy
    have h1 := (Array.getElem?_eq_some_iff.1 hh).1
    have h2 : w0.heap.size ≤ b' := hS _ hm
    omega
theorem Sl.ok.apartK {w0 : World} {x : Sl} {S : List Nat} (hx : x.ok w0) (hS : ∀ b ∈ S, w0.heap.size ≤ b) : x.l ≠ [] → Apart x.a S := fun hn => hx.rd.apartK (by simpa using hn) hS
section
variable {κ α : Type} [DecidableEq κ] {P : Program} {n : Nat} {σ : Nat → Value} {w w0 : World}
  {ty : TypeId} {pos : String} {aft : Array Edge} {g : Option (Nat × Bool)} {d : Nat} {t kt et : TypeId} {x y : Operand} {S : List Nat} {L : List Ch}
end
end Go.Proofs.YthigalfaanccnaaGreat
namespace Go.Proofs.YthigalfaanccnaaGreat
open Go Go.MapKept
set_option maxRecDepth 100000
def kS (l : List UInt8) : Value := .string ⟨l.toArray⟩
end Go.Proofs.YthigalfaanccnaaGreat
namespace Go.Proofs.YthigalfaanccnaaGreat
open Go
set_option maxRecDepth 100000
structure Rdr where
  b : Sl
  bad : Bool
def rdrE (x : Rdr) : List Value := ([x.b.v, .bool x.bad] : List Value)
theorem rdrE_c0 (x : Rdr) : Cut3 (rdrE x) (([] : List Value)) (([x.b.v] : List Value)) (([.bool x.bad] : List Value)) 0 1 :=
  ⟨by simp only [rdrE, List.cons_append, List.nil_append], (by rfl), (by rfl)⟩
theorem rdrE_p0 (x : Rdr) (v : Sl) : Put3 (rdrE x) (rdrE ⟨v, x.bad⟩) (([x.b.v] : List Value)) (([v.v] : List Value)) 0 1 :=
  .of (rdrE_c0 x) (by simp only [rdrE, List.cons_append, List.nil_append]) (by rfl)
theorem rdrE_c1 (x : Rdr) : Cut3 (rdrE x) (([x.b.v] : List Value)) (([.bool x.bad] : List Value)) (([] : List Value)) 1 1 :=
  ⟨by simp only [rdrE, List.cons_append, List.nil_append, List.append_nil], (by rfl), (by rfl)⟩
theorem rdrE_p1 (x : Rdr) (v : Bool) : Put3 (rdrE x) (rdrE ⟨x.b, v⟩) (([.bool x.bad] : List Value)) (([.bool v] : List Value)) 1 1 :=
  .of (rdrE_c1 x) (by simp only [rdrE, List.cons_append, List.nil_append, List.append_nil]) (by rfl)
structure Bd where
  s : Sta
  mains : Int
  tn : Option Nat
def bdE (x : Bd) : List Value := staE x.s ++ (([VI x.mains, .map x.tn] : List Value))
theorem bdE_c0 (x : Bd) : Cut3 (bdE x) (([] : List Value)) (staE x.s) (([VI x.mains, .map x.tn] : List Value)) 0 69 :=
  ⟨by simp only [bdE, List.nil_append], (by rfl), (by simp only [staE_len])⟩
theorem bdE_p0 (x : Bd) (v : Sta) : Put3 (bdE x) (bdE ⟨v, x.mains, x.tn⟩) (staE x.s) (staE v) 0 69 :=
  .of (bdE_c0 x) (by simp only [bdE, List.nil_append]) (by simp only [staE_len])
theorem bdE_c1 (x : Bd) : Cut3 (bdE x) (staE x.s) (([VI x.mains] : List Value)) (([.map x.tn] : List Value)) 69 1 :=
  ⟨by simp only [bdE, List.cons_append, List.nil_append], (by simp only [staE_len]), (by rfl)⟩
theorem bdE_p1 (x : Bd) (v : Int) : Put3 (bdE x) (bdE ⟨x.s, v, x.tn⟩) (([VI x.mains] : List Value)) (([VI v] : List Value)) 69 1 :=
  .of (bdE_c1 x) (by simp only [bdE, List.cons_append, List.nil_append]) (by rfl)
theorem bdE_c2 (x : Bd) : Cut3 (bdE x) (staE x.s ++ (([VI x.mains] : List Value))) (([.map x.tn] : List Value)) (([] : List Value)) 70 1 :=
  ⟨by simp only [bdE, List.append_assoc, List.cons_append, List.nil_append, List.append_nil], (by simp only [List.length_append, List.length_cons, List.length_nil, staE_len]), (by rfl)⟩
theorem bdE_p2 (x : Bd) (v : Option Nat) : Put3 (bdE x) (bdE ⟨x.s, x.mains, v⟩) (([.map x.tn] : List Value)) (([.map v] : List Value)) 70 1 :=
  .of (bdE_c2 x) (by simp only [bdE, List.append_assoc, List.cons_append, List.nil_append, List.append_nil]) (by rfl)
theorem apart1 {s : Sl} {w0 : World} {rb T : Nat} {C : List Value} (hs : s.ok w0) (h : w0.heap.size ≤ rb) : s.l ≠ [] → Apart s.a (keys [.blk rb C T]) := hs.apartK (by
  intro q hq
  have : q = rb := by simpa [keys, Ch.key] using hq
  omega)
theorem cutR_ret (w0 : World) (rb : Nat) (s : Sl) (n : Nat) (hn : n ≤ s.len) (hl : s.l.length = s.len) (hc : s.len ≤ s.cap) (hO : Own w0 [.blk rb (rdrE (⟨s, false⟩ : Rdr)) 95]) :
    Ret Tryz.prog 45 [.pointer (some ⟨rb, 0, none⟩), VI (n : Int)] w0 fun v w' => ∃ x y : Sl, v = x.v ∧ x.len = n ∧ y.len = s.len - n ∧ x.l = s.l.take n ∧ y.l = s.l.drop n ∧ (∀ w, s.ok w → x.ok w ∧ y.ok w) ∧ Hp w0 w' (keys [.blk rb (rdrE (⟨s, false⟩ : Rdr)) 95]) [.blk rb (rdrE (⟨y, false⟩ : Rdr)) 95] := by
  refine ret_mk Tryz.func45 rfl Tryz.ntmps45 (by simp) ?_
  have H : Hp w0 w0 (keys [.blk rb (rdrE (⟨s, false⟩ : Rdr)) 95]) [.blk rb (rdrE (⟨s, false⟩ : Rdr)) 95] := hO.start
  repeat refine c_seq ?_
  refine c_region ?_; refine l_op (o_val r_as ?_); first | refine l_end ?_ | refine l_nil ?_
  repeat refine c_seq ?_
  refine c_region ?_; refine l_op (o_val r_mv ?_); refine l_op (o_val r_mv ?_); refine l_op (o_val (r_nilc rfl) ?_); refine l_op (o_val (r_fa rfl fo95_0) ?_); refine l_op (o_val (r_l1 (v := s.v) H (i := 0) rfl rfl ct50 (rdrE_c0 _)) ?_); refine l_op (o_val (r_lens el50 rfl) ?_); refine l_op (o_val (r_bin (a := (n : Int)) (b := (s.len : Int)) rfl rfl (fun _ => b_gtrB false (decide_eq_false (by omega)))) ?_); first | refine l_end ?_ | refine l_nil ?_
  repeat refine c_seq ?_
  refine c_no rfl ?_; refine c_skip ?_; repeat refine c_seq ?_
  refine c_region ?_; refine l_op (o_val r_mv ?_); refine l_op (o_val (r_nilc rfl) ?_); refine l_op (o_val (r_fa rfl fo95_0) ?_); refine l_op (o_val (r_l1 (v := s.v) H (i := 0) rfl rfl ct50 (rdrE_c0 _)) ?_); refine l_op (o_val r_mv ?_); refine l_op (o_val (r_slS (s := s) 0 n s.cap (lv := none) (hv := some (VI (n : Int))) (mv := none) rfl el50 rfl rfl rfl (fun w => by exact sbh n (by omega) (by (try simp only [Sl.cut]); omega) w)) ?_); refine l_op (o_val r_as ?_); first | refine l_end ?_ | refine l_nil ?_
  repeat refine c_seq ?_
  refine c_region ?_; refine l_op (o_val r_mv ?_); refine l_op (o_val r_mv ?_); refine l_op (o_val (r_nilc rfl) ?_); refine l_op (o_val (r_fa rfl fo95_0) ?_); refine l_op (o_val (r_l1 (v := s.v) H (i := 0) rfl rfl ct50 (rdrE_c0 _)) ?_); refine l_op (o_val r_mv ?_); refine l_op (o_val (r_slS (s := s) n s.len s.cap (lv := some (VI (n : Int))) (hv := none) (mv := none) rfl el50 rfl rfl rfl (fun w => by exact sbl n (by omega) (by (try simp only [Sl.cut]); omega) w)) ?_); refine l_op (o_val (r_nilc rfl) ?_); refine l_op (o_val (r_fa rfl fo95_0) ?_); refine l_op (o_s1P (C' := rdrE (⟨(Sl.cut s n s.len s.cap), false⟩ : Rdr)) (u := (Sl.cut s n s.len s.cap).v) H (i := 0) rfl rfl rfl cs50 rfl (rdrE_p0 _ (Sl.cut s n s.len s.cap)) (fun w H => ?_)); replace H : Hp _ w _ ([.blk rb (rdrE (⟨(Sl.cut s n s.len s.cap), false⟩ : Rdr)) 95]) := H
  first | refine l_end ?_ | refine l_nil ?_
  repeat refine c_seq ?_
  refine c_region ?_; refine l_op (o_val r_mv ?_); refine l_op (o_val r_as ?_); first | refine l_end ?_ | refine l_nil ?_
  refine c_ret ?_; try dsimp only [Exit.then, Exit.inBlock]
  refine e_ret1 (v := (Sl.cut s 0 n s.cap).v) Tryz.results45 rfl ?_
  refine ⟨_, rfl, ?_⟩
  refine ⟨_, _, rfl, ?_, ?_, ?_, ?_, ?_, H⟩
  · simp [Sl.cut]
  · simp [Sl.cut]
  · simp [Sl.cut]
  · simp only [Sl.cut]; exact List.take_of_length_le (by rw [List.length_drop]; omega)
  · exact fun w hs => ⟨hs.cut (by omega) (by omega) (by omega) (by omega), hs.cut (by omega) (by omega) (by omega) (by omega)⟩
theorem numberR_ret (w0 : World) (rb : Nat) (s : Sl) (hs : s.ok w0) (hap : s.l ≠ [] → Apart s.a (keys [.blk rb (rdrE (⟨s, false⟩ : Rdr)) 95])) (h8 : 8 ≤ s.len) (hO : Own w0 [.blk rb (rdrE (⟨s, false⟩ : Rdr)) 95]) :
    Ret Tryz.prog 41 [.pointer (some ⟨rb, 0, none⟩)] w0 fun v w' => ∃ (y : Sl) (u : UInt64), v = V64 u ∧ u = num (s.l.take 8) 0 8 ∧ y.len = s.len - 8 ∧ y.l = s.l.drop 8 ∧ (∀ w, s.ok w → y.ok w) ∧ Hp w0 w' (keys [.blk rb (rdrE (⟨s, false⟩ : Rdr)) 95]) [.blk rb (rdrE (⟨y, false⟩ : Rdr)) 95] := by
  refine ret_mk Tryz.func41 rfl Tryz.ntmps41 (by simp) ?_
  have H : Hp w0 w0 (keys [.blk rb (rdrE (⟨s, false⟩ : Rdr)) 95]) [.blk rb (rdrE (⟨s, false⟩ : Rdr)) 95] := hO.start
  have hsl := hs.ln
  have hsc := hs.le
  have hsm := hs.mx
  repeat refine c_seq ?_
  refine c_region ?_; refine l_op (o_val (r_asV (c64 0 (by decide))) ?_); first | refine l_end ?_ | refine l_nil ?_
  repeat refine c_seq ?_
  refine c_region ?_; refine l_op (o_val r_mv ?_); refine l_op (o_callR Tryz.func45 rfl rfl rfl (cutR_ret _ rb s 8 (by (try simp only [Sl.cut]); omega) (hs.up H hap).ln (hs.up H hap).le (H.ownP (LL := [.blk rb (rdrE (⟨s, false⟩ : Rdr)) 95]) (L1 := [.blk rb (rdrE (⟨s, false⟩ : Rdr)) 95]) (Lr := []) (.refl _) rfl)) ?_); rintro _ w ⟨x1, y2, rfl, hxn3, hyn4, hxl5, hyl6, hxy7, Hc⟩
  replace H := H.callP (L1 := [.blk rb (rdrE (⟨s, false⟩ : Rdr)) 95]) (Lr := []) (LL := [.blk rb (rdrE (⟨s, false⟩ : Rdr)) 95]) (.refl _) rfl Hc (.refl _)
  clear Hc
  replace H : Hp _ w _ ([.blk rb (rdrE (⟨y2, false⟩ : Rdr)) 95]) := H
  try simp only [Sl.cut] at hyn4
  try simp only [Sl.cut] at hyl6
  have hk8 : (0 + 8 ≤ x1.len) := (by omega)
  refine l_op (o_callR Tryz.func86 rfl rfl rfl (at_ok _ x1 (hxy7 _ (hs.up H hap)).1 0 8 (by omega) (by omega) (by omega) (by (try dsimp only); omega)) ?_); rintro _ w ⟨rfl, Hc⟩
  replace H : Hp _ w _ ([_]) := H.call Hc
  clear Hc
  refine l_op (o_val r_mv ?_); refine l_op (o_val (r_ext rfl rfl) ?_); refine l_op (o_val (r_ext rfl rfl) ?_); refine l_op (o_val r_as ?_); refine l_op (o_val r_as ?_); first | refine l_end ?_ | refine l_nil ?_
  repeat refine c_seq ?_
  refine c_region ?_; refine l_op (o_val r_mv ?_); refine l_op (o_val r_as ?_); first | refine l_end ?_ | refine l_nil ?_
  refine c_ret ?_; try dsimp only [Exit.then, Exit.inBlock]
  refine e_ret1 (v := V64 (num (x1.l) 0 8)) Tryz.results41 rfl ?_
  refine ⟨_, rfl, ?_⟩
  exact ⟨y2, _, rfl, by rw [hxl5], hyn4, hyl6, fun w hs => (hxy7 w hs).2, H⟩
theorem signedR_ret (w0 : World) (rb : Nat) (s : Sl) (hs : s.ok w0) (hap : s.l ≠ [] → Apart s.a (keys [.blk rb (rdrE (⟨s, false⟩ : Rdr)) 95])) (h8 : 8 ≤ s.len) (hu : (num (s.l.take 8) 0 8).toNat ≤ 9223372036854775807) (hO : Own w0 [.blk rb (rdrE (⟨s, false⟩ : Rdr)) 95]) :
    Ret Tryz.prog 40 [.pointer (some ⟨rb, 0, none⟩)] w0 fun v w' => ∃ (y : Sl) (n : Int), v = VI n ∧ n = ((num (s.l.take 8) 0 8).toNat : Int) ∧ y.len = s.len - 8 ∧ y.l = s.l.drop 8 ∧ (∀ w, s.ok w → y.ok w) ∧ Hp w0 w' (keys [.blk rb (rdrE (⟨s, false⟩ : Rdr)) 95]) [.blk rb (rdrE (⟨y, false⟩ : Rdr)) 95] := by
  refine ret_mk Tryz.func40 rfl Tryz.ntmps40 (by simp) ?_
  have H : Hp w0 w0 (keys [.blk rb (rdrE (⟨s, false⟩ : Rdr)) 95]) [.blk rb (rdrE (⟨s, false⟩ : Rdr)) 95] := hO.start
  have hsl := hs.ln
  have hsc := hs.le
  have hsm := hs.mx
  repeat refine c_seq ?_
  refine c_region ?_; refine l_op (o_val r_as ?_); first | refine l_end ?_ | refine l_nil ?_
  repeat refine c_seq ?_
  refine c_region ?_; refine l_op (o_val r_mv ?_); refine l_op (o_callR Tryz.func41 rfl rfl rfl (numberR_ret _ rb s (hs.up H hap) hap (by (try simp only [Sl.cut]); omega) (H.ownP (LL := [.blk rb (rdrE (⟨s, false⟩ : Rdr)) 95]) (L1 := [.blk rb (rdrE (⟨s, false⟩ : Rdr)) 95]) (Lr := []) (.refl _) rfl)) ?_); rintro _ w ⟨y1, u2, rfl, hu3, hyn4, hyl5, hxy6, Hc⟩
  replace H := H.callP (L1 := [.blk rb (rdrE (⟨s, false⟩ : Rdr)) 95]) (Lr := []) (LL := [.blk rb (rdrE (⟨s, false⟩ : Rdr)) 95]) (.refl _) rfl Hc (.refl _)
  clear Hc
  replace H : Hp _ w _ ([.blk rb (rdrE (⟨y1, false⟩ : Rdr)) 95]) := H
  try simp only [Sl.cut] at hyn4
  try simp only [Sl.cut] at hyl5
  refine l_op (o_val r_as ?_); first | refine l_end ?_ | refine l_nil ?_
  repeat refine c_seq ?_
  refine c_region ?_; refine l_op (o_val r_mv ?_); refine l_op (o_val r_mv ?_); refine l_op (o_val (r_nilc rfl) ?_); refine l_op (o_val (r_fa rfl fo95_1) ?_); refine l_op (o_val (r_l1 (v := .bool false) H (i := 0) rfl rfl ct4 (rdrE_c1 _)) ?_); refine l_op (o_val r_mv ?_); refine l_yes rfl rfl rfl (o_val r_mv ?_); refine l_yes rfl rfl rfl (o_val (r_bin (a := (u2.toNat : Int)) (b := 9223372036854775807) rfl rfl (fun _ => b_gtrB false (decide_eq_false (by rw [hu3]; omega)))) ?_); refine l_op (o_val (r_pick rfl) ?_); refine l_op (o_val (r_nilc rfl) ?_); refine l_op (o_val (r_fa rfl fo95_1) ?_); refine l_op (o_s1P (C' := rdrE (⟨y1, false⟩ : Rdr)) (u := .bool false) H (i := 0) rfl rfl rfl cs4 rfl (rdrE_p1 _ false) (fun w H => ?_)); replace H : Hp _ w _ [_] := H
  first | refine l_end ?_ | refine l_nil ?_
  rw [← hu3] at hu
  repeat refine c_seq ?_
  refine c_region ?_; refine l_op (o_val r_mv ?_); refine l_op (o_val (r_conv Tryz.underlying36 Tryz.underlying2 rfl (w_i64_64 (by omega))) ?_); refine l_op (o_val r_as ?_); first | refine l_end ?_ | refine l_nil ?_
  refine c_ret ?_; try dsimp only [Exit.then, Exit.inBlock]
  refine e_ret1 (v := VI (u2.toNat : Int)) Tryz.results40 rfl ?_
  refine ⟨_, rfl, ?_⟩
  exact ⟨y1, _, rfl, by rw [hu3], hyn4, hyl5, hxy6, H⟩
theorem idR_ret (w0 : World) (rb : Nat) (s : Sl) (hs : s.ok w0) (hap : s.l ≠ [] → Apart s.a (keys [.blk rb (rdrE (⟨s, false⟩ : Rdr)) 95])) (h8 : 32 ≤ s.len) (hO : Own w0 [.blk rb (rdrE (⟨s, false⟩ : Rdr)) 95]) :
    Ret Tryz.prog 39 [.pointer (some ⟨rb, 0, none⟩)] w0 fun v w' => ∃ (y : Sl) (k : Id32), v = .agg (k.1.map V8).toArray ∧ k.1 = s.l.take 32 ∧ y.len = s.len - 32 ∧ y.l = s.l.drop 32 ∧ (∀ w, s.ok w → y.ok w) ∧ Hp w0 w' (keys [.blk rb (rdrE (⟨s, false⟩ : Rdr)) 95]) [.blk rb (rdrE (⟨y, false⟩ : Rdr)) 95] := by
  refine ret_mk Tryz.func39 rfl Tryz.ntmps39 (by simp) ?_
  have H : Hp w0 w0 (keys [.blk rb (rdrE (⟨s, false⟩ : Rdr)) 95]) [.blk rb (rdrE (⟨s, false⟩ : Rdr)) 95] := hO.start
  have hsl := hs.ln
  have hsc := hs.le
  have hsm := hs.mx
  repeat refine c_seq ?_
  refine c_region ?_; refine l_op (o_alloc H zc23 (fun b1 w H hb1 => ?_)); replace H : Hp _ w _ ([.blk rb (rdrE (⟨s, false⟩ : Rdr)) 95, .blk b1 ((List.replicate 32 (0 : UInt8)).map V8) 23]) := H
  first | refine l_end ?_ | refine l_nil ?_
  repeat refine c_seq ?_
  refine c_region ?_; refine l_op (o_val r_mv ?_); refine l_op (o_callR Tryz.func45 rfl rfl rfl (cutR_ret _ rb s 32 (by (try simp only [Sl.cut]); omega) (hs.up H hap).ln (hs.up H hap).le (H.ownP (LL := [.blk rb (rdrE (⟨s, false⟩ : Rdr)) 95, .blk b1 ((List.replicate 32 (0 : UInt8)).map V8) 23]) (L1 := [.blk rb (rdrE (⟨s, false⟩ : Rdr)) 95]) (Lr := [.blk b1 ((List.replicate 32 (0 : UInt8)).map V8) 23]) (.refl _) rfl)) ?_); rintro _ w ⟨x2, y3, rfl, hxn4, hyn5, hxl6, hyl7, hxy8, Hc⟩
  replace H := H.callP (L1 := [.blk rb (rdrE (⟨s, false⟩ : Rdr)) 95]) (Lr := [.blk b1 ((List.replicate 32 (0 : UInt8)).map V8) 23]) (LL := [.blk rb (rdrE (⟨s, false⟩ : Rdr)) 95, .blk b1 ((List.replicate 32 (0 : UInt8)).map V8) 23]) (.refl _) rfl Hc ((perm_front (j := 1) rfl).trans (.cons _ (.refl _)))
  clear Hc
  replace H : Hp _ w _ ([.blk rb (rdrE (⟨y3, false⟩ : Rdr)) 95, _]) := H
  try simp only [Sl.cut] at hyn5
  try simp only [Sl.cut] at hyl7
  have hxn32 : x2.l.length = 32 := by rw [hxl6, List.length_take]; omega
  refine l_op (o_val (r_sap Tryz.underlying23 rfl (by (try simp only [Sl.cut]); omega)) ?_); have ah11 := ((hxy8 _ (hs.up H hap)).1).addr (by (try simp only [Sl.cut]); omega)
  obtain ⟨ab9, ao10, ah11⟩ := ah11
  refine l_op (o_val (r_ldSA (s := x2) (k := 32) (hxy8 _ (hs.up H hap)).1 ah11 rfl rt23 (by decide) (by (try simp only [Sl.cut]); omega)) ?_); refine l_op (o_stA (l' := (x2.l).take 32) H (i := 1) rfl rfl rfl cs23 (show (List.replicate 32 (0 : UInt8)).length = 32 from (List.length_replicate ..)) (show ((x2.l).take 32).length = 32 from (by simp only [List.length_take]; omega)) (fun w H => ?_)); replace H : Hp _ w _ ([_, .blk b1 (((x2.l).take 32).map V8) 23]) := H
  first | refine l_end ?_ | refine l_nil ?_
  refine c_ret ?_; try dsimp only [Exit.then, Exit.inBlock]
  refine e_retA (l := (x2.l).take 32) Tryz.results39 H (i := 1) rfl rfl rt23 (show ((x2.l).take 32).length = 32 from (by simp only [List.length_take]; omega)) ?_
  refine ⟨_, rfl, ?_⟩
  exact ⟨y3, ⟨_, (show ((x2.l).take 32).length = 32 from (by simp only [List.length_take]; omega))⟩, rfl, by show (x2.l).take 32 = _; rw [hxl6, List.take_take]; rfl, hyn5, hyl7, fun w hs => (hxy8 w hs).2, H.sub (.cons_cons _ (List.nil_sublist _))⟩
end Go.Proofs.YthigalfaanccnaaGreat
namespace Go.Proofs.YthigalfaanccnaaGreat
open Go
section
variable {P : Program} {ops : Array Oper} {Q : Exit → Act → World → Prop} {n l m : Nat} {K : Act → World → Prop} {σ : Nat → Value} {w : World}
  {ty : TypeId} {pos : String} {aft : Array Edge} {g : Option (Nat × Bool)} {d : Nat} {rest : List Oper}
theorem uponIn_wide {o : Oper} {a : Act} {r : Result Next} (h : o.upon P a K Q r) : o.uponIn Fence.wide m P a K Q r := by
  cases r with
  | ok x w' =>
    cases x <;> simp only [Oper.upon, Oper.uponIn] at h ⊢ <;>
      first
        | exact h
        | exact ⟨fun h => (by cases h), callsIn_wide.2 h⟩
        | exact ⟨fun h => (by cases h), fun c cs _ => let ⟨v, w', r, s⟩ := h c cs; ⟨v, w', r, stepsIn_wide.2 s⟩⟩
        | exact h.elim
  | halt x w' => cases x <;> simp only [Oper.upon, Oper.uponIn] at h ⊢ <;> exact h
/-- an operation of a list in which 'yield' is called. -/
theorem y_op {op : Op} {dst : Option Tmp} {a : Act} (h : Oper.wp P ⟨dst, op, ty, pos, aft, none⟩ a w (wpListIn Fence.wide m P ops Q rest) Q) : wpListIn Fence.wide m P ops Q (⟨dst, op, ty, pos, aft, none⟩ :: rest) a w := by
  unfold wpListIn
  rw [if_pos (by simp [Region.wanted])]
  exact ⟨fun _ _ => trivial, uponIn_wide h⟩
theorem y_end {y : Code} {a : Act} (h : y.wp P Q a w) : wpListIn Fence.wide m P ops (Exit.then (y.wp P Q) Q) [] a w := h
/-- 'yield' is called. -/
theorem y_yield {x y : Operand} {ats : Array TypeId} {v : Value} {b : Bool} {R : World → Prop} (hx : ev n σ x = .func (.yield l) #[] #[]) (hnf : ∀ f, x ≠ .func f) (hy : ev n σ y = v)
    (hY : YieldAt Fence.wide (m - 1) P l #[v] w fun e W' => e = .returned (.bool b) ∧ R W')
    (h : ∀ W', R W' → wpListIn Fence.wide m P ops Q rest (mk n (up σ d (.bool b))) W') :
    wpListIn Fence.wide m P ops Q (⟨some d, .call ⟨.value x, #[y], ats⟩, ty, pos, aft, none⟩ :: rest) (mk n σ) w := by
  obtain ⟨fn, tmps, assign, body, hrun, hR⟩ := hY
  unfold wpListIn
  rw [if_pos (by simp [Region.wanted])]
  refine ⟨fun _ _ => trivial, ?_⟩
  have e : (execOp (mk n σ).eval ⟨some d, .call ⟨.value x, #[y], ats⟩, ty, pos, aft, none⟩).run P w = .ok (.round l fn tmps assign body) w := by
    rw [mk_evalf]
    cases x with
    | func f => exact absurd rfl (hnf f)
    | _ => simp [execOp, resolve, hx, hy, Deferred.ofValue, invoke, hrun]
  rw [show Fence.wide.round = none from rfl, Oper.semAt_none, e, Oper.uponIn_round]
  refine ⟨fun h => (by cases h), hR.mono fun e W' he => ?_⟩
  obtain ⟨he, hr⟩ := he
  subst he
  show wpListIn Fence.wide m P ops Q rest ((mk n σ).put (some d) (.bool b)) W'
  rw [mk_put]
  exact h W' hr
end
end Go.Proofs.YthigalfaanccnaaGreat
namespace Go.Proofs.YthigalfaanccnaaGreat
open Go
set_option maxRecDepth 100000
theorem keysItTen {ι α : Type} {w0 w1 : World} {S : List Nat} {bb b l c : Nat} {enc : α → Value} {M : List (List UInt8 × Value × Nat)} {F : List UInt8 → Option α} (hM : MOk M c) (hF : MIs enc M F) (Lv : ι → List Ch) (I : List (List UInt8) → ι → Prop) (x0 : ι) (h0 : I [] x0) (H0 : Hp w0 w1 S (Ch.blk bb ([.map (some b)]) 68 :: Ch.obj b (mobj kS M c) :: Lv x0)) (hY : ∀ (it : Nat) (vis : List (List UInt8)) (x : ι) (k : List UInt8) (a : α) (W : World), I vis x → F k = some a → k ∉ vis → (∀ j ∈ vis, (F j).isSome = true) → vis.Nodup → Hp w0 W S (Ch.obj it (itO b M c (vis ++ [k])) :: Ch.blk bb ([.map (some b)]) 68 :: Ch.obj b (mobj kS M c) :: Lv x) → YieldAt Fence.wide 0 Tryz.prog l #[kS k] W fun e W' => e = .returned (.bool true) ∧ ∃ x', I (vis ++ [k]) x' ∧ Hp w0 W' S (Ch.obj it (itO b M c (vis ++ [k])) :: Ch.blk bb ([.map (some b)]) 68 :: Ch.obj b (mobj kS M c) :: Lv x')) :
    Ret Tryz.prog 93 [.func (.yield l) #[] #[], .pointer (some ⟨bb, 0, none⟩)] w1 fun v w' => ∃ vis x, I vis x ∧ vis.Nodup ∧ (∀ k, k ∈ vis ↔ (F k).isSome = true) ∧ Hp w0 w' S (Ch.blk bb ([.map (some b)]) 68 :: Ch.obj b (mobj kS M c) :: Lv x) := by
  refine ret_mk Tryz.func93 rfl Tryz.ntmps93 (by simp) ?_
  have H := H0
  repeat refine c_seq ?_
  refine c_region ?_; refine l_op (o_val (r_ld H (i := 0) rfl rfl ct68 rfl) ?_); refine l_op (o_range (kv := kS) H (i := 1) rfl Tryz.underlying68 rfl (fun b1 w H hb1 => ?_)); replace H := H.rot
  replace H : Hp _ w _ (Ch.obj b1 (itO b M c ([])) :: Ch.blk bb ([.map (some b)]) 68 :: Ch.obj b (mobj kS M c) :: Lv x0) := H
  first | refine l_end ?_ | refine l_nil ?_
  repeat refine c_seq ?_
  refine c_block ?_; repeat refine c_seq ?_
  refine c_loop2 (fun (vis : List (List UInt8)) (x : ι) => [(0, .func (.yield l) #[] #[]), (5, .pointer (some ⟨b1, 0, none⟩))])
    (fun (vis : List (List UInt8)) (x : ι) w => (vis.Nodup ∧ (∀ k ∈ vis, (F k).isSome = true) ∧ I vis x) ∧ Hp w0 w S (Ch.obj b1 (itO b M c vis) :: Ch.blk bb ([.map (some b)]) 68 :: Ch.obj b (mobj kS M c) :: Lv x))
    (fun (vis : List (List UInt8)) (x : ι) => M.length - vis.length) ([]) x0 ⟨rfl, rfl, trivial⟩ ⟨⟨List.nodup_nil, fun _ h => (by cases h), h0⟩, H⟩ ?_
  clear H
  rintro vis x τ w ⟨⟨hvn, hv, hI⟩, H⟩
  repeat refine c_seq ?_
  refine c_region ?_; refine l_op (o_next (kv := kS) (enc := enc) H (i := 2) (j := 0) rfl rfl hM hF hv rfl (fun hall2 w H => ?_) (fun kk3 va4 hkf5 hkn6 w H => ?_))
  ·
   refine l_op (o_val (r_ext rfl rfl) ?_); first | refine l_end ?_ | refine l_nil ?_
   repeat refine c_seq ?_
   refine c_no rfl ?_; refine c_exit ?_; try simp only [Exit.then, Exit.inBlock, ↓reduceIte]
   refine e_norm ?_; refine e_ret0 Tryz.results93 ?_
   refine ⟨_, rfl, ?_⟩
   exact ⟨vis, x, hI, hvn, fun k => ⟨hv k, hall2 k⟩, H.sub (.cons _ (.cons_cons _ (.cons_cons _ (List.Sublist.refl _))))⟩
  ·
   replace H : Hp _ w _ (Ch.obj b1 (itO b M c (vis ++ [kk3])) :: Ch.blk bb ([.map (some b)]) 68 :: Ch.obj b (mobj kS M c) :: Lv x) := H
   refine l_op (o_val (r_ext rfl rfl) ?_); first | refine l_end ?_ | refine l_nil ?_
   repeat refine c_seq ?_
   refine c_yes rfl ?_; refine c_skip ?_; repeat refine c_seq ?_
   refine c_block ?_; repeat refine c_seq ?_
   refine c_region ?_; refine l_op (o_val (r_entry (kv := kS) (enc := enc) H (i := 2) (j := 0) rfl rfl hM hF hkf5 rfl) ?_); refine l_op (o_val (r_ext rfl rfl) ?_); refine l_op (o_val r_as ?_); first | refine l_end ?_ | refine l_nil ?_
   repeat refine c_seq ?_
   have hvs := vis_snoc hvn hv hkf5 hkn6
   have hvl := vis_le hF hvs.1 hvs.2
   rw [List.length_append, List.length_singleton] at hvl
   refine (wpIn_wide (n := 1)).1 ?_; refine wpIn_region_lit ?_; refine y_op (o_val r_mv ?_); refine y_op (o_val r_mv ?_); have H1 := H
   have hy := hY _ vis x kk3 va4 _ hI hkf5 hkn6 hv hvn H1
   refine y_yield (v := kS kk3) (b := true) rfl (fun f e => by cases e) rfl hy ?_; rintro w ⟨x', hI', H2⟩
   clear H H1 hy; have H := H2; clear H2
   refine y_op (o_val (r_not rfl) ?_); refine y_end ?_; repeat refine c_seq ?_
   refine c_no rfl ?_; refine c_skip ?_; refine round_end (vis ++ [kk3], x') ?_ ?_ ?_
   · exact ⟨rfl, rfl, trivial⟩
   · refine ⟨?_, ?_⟩
     · try dsimp only
       exact ⟨hvs.1, hvs.2, hI'⟩
     · exact H
   · show M.length - (vis ++ [kk3]).length < M.length - vis.length; rw [List.length_append, List.length_singleton]; omega
end Go.Proofs.YthigalfaanccnaaGreat
namespace Go.Proofs.YthigalfaanccnaaGreat
open Go
/-- a frame that has something to do at its end. -/
def mkD (n : Nat) (σ : Nat → Value) (ds : List Deferred) : Act := { mk n σ with defers := ds }
section
variable {P : Program} {Q : Exit → Act → World → Prop} {n l m i d : Nat} {K : Act → World → Prop} {σ : Nat → Value} {w w0 : World} {S : List Nat} {L : List Ch}
  {ty : TypeId} {pos : String} {aft : Array Edge} {g : Option (Nat × Bool)} {rest : List Oper} {ds : List Deferred} {ops : Array Oper}
theorem mkD_evalf : (mkD n σ ds).eval = ev n σ := by
  rw [← mk_evalf]; funext x; cases x <;> rfl
theorem mkD_put {v : Value} : (mkD n σ ds).put (some d) v = mkD n (up σ d v) ds := by
  show (mkD n σ ds).put (some d) v = { mk n (up σ d v) with defers := ds }
  rw [← mk_put]; rfl
theorem Hp.putObj {r : Nat} {o o' : Obj} (H : Hp w0 w S L) (hi : L[i]? = some (.obj r o)) : Hp w0 (w.putObj r o') S (L.set i (.obj r o')) := by
  have hr : w.heap[r]? = some o := H.has _ (List.mem_of_getElem? hi)
  have hlt := (Array.getElem?_eq_some_iff.1 hr).1
  refine H.turn hi (c' := .obj r o') (World.putObj_heap_same hlt) (fun b hb => .inl hb) rfl rfl rfl (by simp [World.putObj]) (fun b _ hne => World.putObj_heap_other fun e => hne (by rw [e]; rfl))
theorem d_val {op : Op} {v : Value} {w' : World} (hrun : (execOp (ev n σ) ⟨some d, op, ty, pos, aft, g⟩).run P w = .ok (.value v) w') (h : K (mkD n (up σ d v) ds) w') : Oper.wp P ⟨some d, op, ty, pos, aft, g⟩ (mkD n σ ds) w K Q := by
  unfold Oper.wp
  rw [mkD_evalf, hrun, Oper.upon_value, mkD_put]
  exact h
theorem marks_calls {f : FuncId} {fn : Func} {c : Code} {args : List Value} {R : Ending → World → Prop} (hf : P.funcs[f]? = some fn) (hb : fn.body = some c) (hn : fn.ntmps = n) (hle : args.length ≤ n)
    (h : c.wp P (bodyPostM Fence.wide 1 P fn R) (mk n (fun t => args.getD t undef)) w) : Calls P f args.toArray w R := by
  refine callsIn_wide.1 (callsIn_of_wp_marks (F := Fence.wide) (n := 1) hf hb trivial ?_)
  rw [hn, enter_mk args n hle]
  exact wpIn_wide.2 h
theorem ret_mkM {f : FuncId} {fn : Func} {c : Code} {args : List Value} {R : Value → World → Prop} (hf : P.funcs[f]? = some fn) (hb : fn.body = some c) (hn : fn.ntmps = n) (hle : args.length ≤ n)
    (h : c.wp P (bodyPostM Fence.wide 1 P fn fun e w' => ∃ v, e = .returned v ∧ R v w') (mk n (fun t => args.getD t undef)) w) : Ret P f args w R := marks_calls hf hb hn hle h
theorem i_end {y : Code} {a : Act} (h : y.wpIn (Fence.wide.inRound l) m P Q a w) : wpList P ops (Exit.then (y.wpIn (Fence.wide.inRound l) m P Q) Q) [] a w := h
def markD (D : Nat) : List Deferred := [{ target := .collected D, args := #[] }]
theorem m_ret1 {fn : Func} {R : Ending → World → Prop} {D : Nat} {t : Tmp} {v : Value} (h : fn.results = #[.tmp t]) (hv : ev n σ (.tmp t) = v) (H : Hp w0 w S L) (hi : L[i]? = some (.obj D (.deferred (some []))))
    (hR : ∀ w', Hp w0 w' S (L.eraseIdx i) → R (.returned v) w') : bodyPostM Fence.wide 1 P fn R .ret (mkD n σ (markD D)) w := by
  have hD : w.heap[D]? = some (.deferred (some [])) := H.has _ (List.mem_of_getElem? hi)
  have H2 := H.putObj (o' := .deferred none) hi
  refine ⟨by simp, .inl ⟨D, _, rfl, run_takeDeferred hD, ?_⟩⟩
  have hs : (L.set i (.obj D (.deferred none))).eraseIdx i = L.eraseIdx i := by
    rw [List.eraseIdx_set_eq]
  have H3 := H2.sub (List.eraseIdx_sublist _ i)
  rw [hs] at H3
  refine ⟨_, results_tmp h _ _ _, ?_⟩
  have e : (mkD n σ (markD D)).tmps.getD t undef = v := by rw [← hv]; exact mk_tmp n σ t
  rw [e]
  exact hR _ H3
theorem enters_callFunc {f : FuncId} {fn : Func} (hf : P.funcs[f]? = some fn) (hb : fn.body.isSome = true) (hname : (fn.name == "runtime.NumGoroutine") = false) (args : Array Value) (w : World) : (callFunc f args).run P w = .ok (.enter f args) w := by
  have hn : fn.body ≠ none := by cases hh : fn.body <;> simp_all
  have hnm : fn.name ≠ "runtime.NumGoroutine" := by intro e; simp [e] at hname
  simp [callFunc, hf, hnm, hn]
theorem c_rangeK {ι κ α : Type} {FX : List Ch} {Got : κ → α → Prop} {All : List κ → Prop} {I : List κ → ι → Prop} {x0 : ι} {itC : Nat → List κ → Ch} {kv : κ → Value} {gf : FuncId} {fnI : Func} {pb : Value} {op : Operand} {p : Tmp} {assign body : Code}
    (hf : P.funcs[gf]? = some fnI) (hb : fnI.body.isSome = true) (hname : (fnI.name == "runtime.NumGoroutine") = false)
    (hIt : ∀ (Lv : ι → List Ch) (l : Nat) (w1 : World), Hp w0 w1 S (FX ++ Lv x0) →
      (∀ (it : Nat) (vis : List κ) (x : ι) (k : κ) (a : α) (W : World), I vis x → Got k a → k ∉ vis → Hp w0 W S (itC it (vis ++ [k]) :: (FX ++ Lv x)) →
        YieldAt Fence.wide 0 P l #[kv k] W fun e W' => e = .returned (.bool true) ∧ ∃ x', I (vis ++ [k]) x' ∧ Hp w0 W' S (itC it (vis ++ [k]) :: (FX ++ Lv x'))) →
      Ret P gf [.func (.yield l) #[] #[], pb] w1 fun _ w' => ∃ vis x, I vis x ∧ All vis ∧ Hp w0 w' S (FX ++ Lv x))
    (hg : ev n σ op = .func (.func gf) #[] #[pb]) (Lv : ι → List Ch) (H : Hp w0 w S (FX ++ Lv x0))
    (hround : ∀ (l : Nat) (T : List Ch) (vis : List κ) (x : ι) (k : κ) (a : α) (W : World), I vis x → Got k a → k ∉ vis → Hp w0 W S (FX ++ (Lv x ++ T)) →
      assign.wpIn (Fence.wide.inRound l) 0 P (Exit.then (fun a₁ W₁ => ∃ Lb, Hp w0 W₁ S (Lb ++ T) ∧ ∀ T' W₂, Hp w0 W₂ S (Lb ++ T') →
        body.wpIn (Fence.wide.inRound l) 0 P (fun e _ W₃ => e = .normal ∧ ∃ x', I (vis ++ [k]) x' ∧ Hp w0 W₃ S (FX ++ (Lv x' ++ T'))) a₁ W₂) (fun _ _ _ => False)) (mk n (up σ p (kv k))) W)
    (hdone : ∀ (D : Nat) (vis : List κ) (x : ι) (w' : World), I vis x → All vis → Hp w0 w' S (Ch.obj D (.deferred (some [])) :: (FX ++ Lv x)) → Q .normal (mkD n σ (markD D)) w') :
    (Code.rangeFunc op #[p] assign body).wp P Q (mk n σ) w := by
  refine (wpIn_wide (n := 1)).1 (wpIn_rangeFunc ?_); intro fn _
  have hDn : w0.heap.size ≤ w.heap.size := H.size
  have H1 := (H.new (.deferred (some [])) (.obj w.heap.size (.deferred (some []))) rfl (heap_alloc_new' w _))
  generalize hrec : (fun (st : LoopState) (pe : Option Code) => ({ state := st, pending := pe, fn, tmps := (mk n σ).tmps, params := #[p], assign, body, defers := w.heap.size } : Loop)) = rec
  have H2 := H1.new (.loop (rec .ready none)) (.obj (w.heap.size + 1) (.loop (rec .ready none))) (by simp [Ch.key]) (by have := heap_alloc_new' (w.alloc (.deferred (some []))) (.loop (rec .ready none)); simpa [Ch.ok] using this)
  generalize hW1 : (w.alloc (.deferred (some []))).alloc (.loop (rec .ready none)) = W1 at H2
  generalize hD : w.heap.size = D at *
  have P1 : ∀ (x : ι) (o : Obj), (FX ++ (Lv x ++ [Ch.obj D (.deferred (some [])), Ch.obj (D + 1) o])).Perm (FX ++ Lv x ++ [Ch.obj D (.deferred (some []))] ++ [Ch.obj (D + 1) o]) := fun x o => by
    rw [List.append_assoc, List.append_assoc]; exact .refl _
  have H3 : Hp w0 W1 S (FX ++ (fun x => Lv x ++ [Ch.obj D (.deferred (some [])), Ch.obj (D + 1) (.loop (rec .ready none))]) x0) := H2.permL (P1 x0 _).symm
  refine ⟨D + 1, markD D, W1, { target := .fn (.func gf) #[pb], args := #[.func (.yield (D + 1)) #[] #[]] }, W1, gf, #[.func (.yield (D + 1)) #[] #[]] ++ #[pb], W1, ?_, ?_, fun _ _ => trivial, ?_, fun h => (by cases h), ?_⟩
  · subst hD; rw [← hW1, ← hrec]; exact run_enterLoop_outer _ _ _ _ _
  · rw [mk_evalf]
    have hc : ev n σ (.const (.func (.yield (D + 1)) #[] #[])) = .func (.yield (D + 1)) #[] #[] := rfl
    cases op <;> simp [resolve, hg, hc, Deferred.ofValue]
  · simp [invoke, enters_callFunc hf hb hname]
  · refine callsIn_wide.2 ?_
    refine Calls.mono (hIt (fun x => Lv x ++ [Ch.obj D (.deferred (some [])), Ch.obj (D + 1) (.loop (rec .ready none))]) (D + 1) W1 H3 ?_) ?_
    · intro it vis x k a W hI hgot hk HW
      -- one round
      have HWp : Hp w0 W S (FX ++ (Lv x ++ [Ch.obj D (.deferred (some [])), Ch.obj (D + 1) (.loop (rec .ready none)), itC it (vis ++ [k])])) := HW.permL (by
        have := (List.perm_append_comm (l₁ := [itC it (vis ++ [k])]) (l₂ := FX ++ (Lv x ++ [Ch.obj D (.deferred (some [])), Ch.obj (D + 1) (.loop (rec .ready none))])))
        rw [List.append_assoc, List.append_assoc] at this
        exact this)
      have hi : (FX ++ (Lv x ++ [Ch.obj D (.deferred (some [])), Ch.obj (D + 1) (.loop (rec .ready none)), itC it (vis ++ [k])]))[FX.length + ((Lv x).length + 1)]? = some (Ch.obj (D + 1) (.loop (rec .ready none))) := by
        rw [List.getElem?_append_right (by omega), Nat.add_sub_cancel_left, List.getElem?_append_right (by omega), Nat.add_sub_cancel_left]; rfl
      have hl : W.heap[D + 1]? = some (.loop (rec .ready none)) := HWp.has _ (List.mem_of_getElem? hi)
      have hy := run_yield (P := P) (args := #[kv k]) hl (by rw [← hrec]; rfl)
      refine ⟨_, _, _, _, hy, roundIn_of_wpIn trivial ?_⟩
      have hact : ({ tmps := ((rec .ready none).params.zip #[kv k]).foldl (fun tmps (x : Tmp × Value) => tmps.setIfInBounds x.1 x.2) (rec .ready none).tmps, defers := [] } : Act) = mk n (up σ p (kv k)) := by
        rw [← mk_put, ← hrec]
        simp [Act.put, mk_defers]
      rw [hact]
      have ha : (rec .ready none).assign = assign := by rw [← hrec]
      have hbd : (rec .ready none).body = body := by rw [← hrec]
      rw [ha, hbd]
      refine wpIn_mono (hround (D + 1) _ vis x k a W hI hgot hk HWp) ?_; intro e a₁ W₁ hq
      cases e with
      | normal =>
        obtain ⟨Lb, HLb, hbody⟩ := hq
        have hi1 : (Lb ++ [Ch.obj D (.deferred (some [])), Ch.obj (D + 1) (.loop (rec .ready none)), itC it (vis ++ [k])])[Lb.length + 1]? = some (Ch.obj (D + 1) (.loop (rec .ready none))) := by
          rw [List.getElem?_append_right (by omega), Nat.add_sub_cancel_left]; rfl
        have hl1 : W₁.heap[D + 1]? = some (.loop (rec .ready none)) := HLb.has _ (List.mem_of_getElem? hi1)
        have hbg := run_beginRound (P := P) hl1 (by rw [← hrec])
        have H4 := HLb.putObj (o' := .loop { rec .ready none with state := .busy }) hi1
        rw [show (Lb ++ [Ch.obj D (.deferred (some [])), Ch.obj (D + 1) (.loop (rec .ready none)), itC it (vis ++ [k])]).set (Lb.length + 1) (.obj (D + 1) (.loop { rec .ready none with state := .busy })) = Lb ++ [Ch.obj D (.deferred (some [])), Ch.obj (D + 1) (.loop { rec .ready none with state := .busy }), itC it (vis ++ [k])] from by
          rw [List.set_append_right _ _ (by omega), Nat.add_sub_cancel_left]; rfl] at H4
        refine ⟨_, hbg, wpIn_mono (hbody _ _ H4) ?_⟩
        rintro e a₂ W₃ ⟨rfl, x', hI', H5⟩
        have hi2 : (FX ++ (Lv x' ++ [Ch.obj D (.deferred (some [])), Ch.obj (D + 1) (.loop { rec .ready none with state := .busy }), itC it (vis ++ [k])]))[FX.length + ((Lv x').length + 1)]? = some (Ch.obj (D + 1) (.loop { rec .ready none with state := .busy })) := by
          rw [List.getElem?_append_right (by omega), Nat.add_sub_cancel_left, List.getElem?_append_right (by omega), Nat.add_sub_cancel_left]; rfl
        have hl2 : W₃.heap[D + 1]? = some (.loop { rec .ready none with state := .busy }) := H5.has _ (List.mem_of_getElem? hi2)
        have hen := run_endRound (P := P) none hl2
        have H6 := H5.putObj (o' := .loop (rec .ready none)) hi2
        rw [List.set_append_right _ _ (by omega), Nat.add_sub_cancel_left, List.set_append_right _ _ (by omega), Nat.add_sub_cancel_left] at H6
        have hrr : ({ ({ rec .ready none with state := .busy } : Loop) with state := if (none : Option Code).isNone then .ready else .done, pending := none } : Loop) = rec .ready none := by rw [← hrec]; rfl
        rw [hrr] at hen
        refine ⟨_, _, hen, rfl, x', hI', H6.permL ?_⟩
        have := (List.perm_append_comm (l₁ := FX ++ (Lv x' ++ [Ch.obj D (.deferred (some [])), Ch.obj (D + 1) (.loop (rec .ready none))])) (l₂ := [itC it (vis ++ [k])]))
        rw [List.append_assoc, List.append_assoc] at this
        exact this
      | exit _ => exact hq.elim
      | ret => exact hq.elim
      | goto _ => exact hq.elim
      | panic _ => exact hq.elim
      | outgrown => exact hq.elim
    · rintro e W2 ⟨v, rfl, vis, x, hI, hA, HW⟩
      have hi : (FX ++ (Lv x ++ [Ch.obj D (.deferred (some [])), Ch.obj (D + 1) (.loop (rec .ready none))]))[FX.length + ((Lv x).length + 1)]? = some (Ch.obj (D + 1) (.loop (rec .ready none))) := by
        rw [List.getElem?_append_right (by omega), Nat.add_sub_cancel_left, List.getElem?_append_right (by omega), Nat.add_sub_cancel_left]; rfl
      have hl : W2.heap[D + 1]? = some (.loop (rec .ready none)) := HW.has _ (List.mem_of_getElem? hi)
      have hen := run_endLoop (P := P) hl (by rw [← hrec]; simp)
      have H6 := HW.putObj (o' := .loop { rec .ready none with state := .exhausted }) hi
      rw [List.set_append_right _ _ (by omega), Nat.add_sub_cancel_left, List.set_append_right _ _ (by omega), Nat.add_sub_cancel_left] at H6
      have hpn : (rec .ready none).pending = none := by rw [← hrec]
      refine ⟨none, _, hen.trans (congrArg (fun z => Result.ok z (W2.putObj (D + 1) (.loop { rec .ready none with state := .exhausted }))) hpn), ?_⟩
      · show Q .normal { tmps := (mk n σ).tmps, defers := markD D ++ (mk n σ).defers } _
        rw [mk_defers, List.append_nil]
        refine hdone D vis x _ hI hA ?_; have hp := (List.perm_append_comm (l₁ := FX ++ Lv x) (l₂ := [Ch.obj D (.deferred (some []))]))
        refine (H6.sub ?_).permL hp
        rw [List.append_assoc]
        exact List.Sublist.append_left (List.Sublist.append_left (.cons_cons _ (.cons _ (.refl _))) _) _
end
end Go.Proofs.YthigalfaanccnaaGreat
namespace Go.Proofs.YthigalfaanccnaaGreat
open Go
set_option maxRecDepth 100000
def tnV (t : Tn) : Value := .agg (tnE t).toArray
theorem ofbe_be8 (v : Nat) : ∀ n, v < 256 ^ n → ofbe (be v n) = v := by
  have hb : ∀ n x (b : UInt8), be (x * 256 + b.toNat) (n + 1) = be x n ++ [b] := by
    intro n
    induction n with
    | zero => intro x b; simp [be]
    | succ n ih =>
      intro x b
      rw [be, ih x b, be, List.cons_append]
      congr 2
      have := u8_lt b
      rw [Nat.pow_succ, Nat.mul_comm (256 ^ n) 256, ← Nat.div_div_eq_div_mul]
      congr 1; omega
  intro n
  induction n generalizing v with
  | zero => intro h; simp at h; subst h; rfl
  | succ n ih =>
    intro h
    have e : v = v / 256 * 256 + (UInt8.ofNat v).toNat := by rw [UInt8.toNat_ofNat']; omega
    rw [e, hb, ofbe_snoc, ih (v / 256) (by rw [Nat.pow_succ] at h; omega)]
theorem num_be8 (v : Nat) (h : v < 18446744073709551616) : num (be v 8) 0 8 = UInt64.ofNat v := by
  rw [num, List.drop_zero, List.take_of_length_le (by rw [be_len]; omega), ofbe_be8 v 8 (by omega)]
theorem recB_hd (r : Id32) (d : Int) : (recB r d).getD 0 0 = 77 := rfl
theorem recB_tail (r : Id32) (d : Int) : ((recB r d).drop 1).take 88 = r.1 ++ (be d.toNat 8 ++ (be 0 8 ++ (zId.1 ++ be 0 8))) := by
  have h := recB_len r d
  have e : recB r d = 77 :: (r.1 ++ (be d.toNat 8 ++ (be 0 8 ++ (zId.1 ++ be 0 8)))) := by simp [recB]
  rw [e] at h ⊢
  rw [List.drop_succ_cons, List.drop_zero, List.take_of_length_le (by rw [List.length_cons] at h; omega)]
theorem take32 (k : Id32) (l : List UInt8) : (k.1 ++ l).take 32 = k.1 := List.take_left' k.2
theorem drop32 (k : Id32) (l : List UInt8) : (k.1 ++ l).drop 32 = l := List.drop_left' k.2
theorem take8 (n : Nat) (l : List UInt8) : (be n 8 ++ l).take 8 = be n 8 := List.take_left' (be_len _ _)
theorem drop8 (n : Nat) (l : List UInt8) : (be n 8 ++ l).drop 8 = l := List.drop_left' (be_len _ _)
theorem take0_ret (w0 : World) (bb tb : Nat) (r : Id32) (d : Int) (hd0 : 0 ≤ d) (hd1 : d ≤ 9223372036854775807) (s : Sl) (hs : s.ok w0) (hap : s.l ≠ [] → Apart s.a (keys [.blk bb (bdE (⟨⟨zId, 0, 0, ⟨none, 0, 0, []⟩, ⟨none, 0, 0, []⟩, ⟨none, 0, 0, []⟩, zId⟩, 0, some tb⟩ : Bd)) 70])) (hl : s.l = recB r d) (h89 : s.len = 89) (hO : Own w0 [.blk bb (bdE (⟨⟨zId, 0, 0, ⟨none, 0, 0, []⟩, ⟨none, 0, 0, []⟩, ⟨none, 0, 0, []⟩, zId⟩, 0, some tb⟩ : Bd)) 70]) :
    Ret Tryz.prog 21 [.pointer (some ⟨bb, 0, none⟩), s.v] w0 fun v w' => v = .bool true ∧ Hp w0 w' (keys [.blk bb (bdE (⟨⟨zId, 0, 0, ⟨none, 0, 0, []⟩, ⟨none, 0, 0, []⟩, ⟨none, 0, 0, []⟩, zId⟩, 0, some tb⟩ : Bd)) 70]) [.blk bb (bdE (⟨⟨r, d, 0, ⟨none, 0, 0, []⟩, ⟨none, 0, 0, []⟩, ⟨none, 0, 0, []⟩, zId⟩, 1, some tb⟩ : Bd)) 70] := by
  refine ret_mk Tryz.func21 rfl Tryz.ntmps21 (by simp) ?_
  have H : Hp w0 w0 (keys [.blk bb (bdE (⟨⟨zId, 0, 0, ⟨none, 0, 0, []⟩, ⟨none, 0, 0, []⟩, ⟨none, 0, 0, []⟩, zId⟩, 0, some tb⟩ : Bd)) 70]) [.blk bb (bdE (⟨⟨zId, 0, 0, ⟨none, 0, 0, []⟩, ⟨none, 0, 0, []⟩, ⟨none, 0, 0, []⟩, zId⟩, 0, some tb⟩ : Bd)) 70] := hO.start
  have hsl := hs.ln
  have hsc := hs.le
  have hsm := hs.mx
  have hL : ((s.l.drop 1).take (s.len - 1)) = r.1 ++ (be d.toNat 8 ++ (be 0 8 ++ (zId.1 ++ be 0 8))) := by rw [hl, h89]; exact recB_tail r d
  repeat refine c_seq ?_
  refine c_region ?_; refine l_op (o_val r_as ?_); first | refine l_end ?_ | refine l_nil ?_
  repeat refine c_seq ?_
  refine c_region ?_; refine l_op (o_val r_mv ?_); refine l_op (o_val (r_lens el50 rfl) ?_); refine l_op (o_val (r_bin (a := (s.len : Int)) (b := 0) rfl rfl (fun _ => b_eqlB false (decide_eq_false (by omega)))) ?_); first | refine l_end ?_ | refine l_nil ?_
  repeat refine c_seq ?_
  refine c_no rfl ?_; refine c_skip ?_; repeat refine c_seq ?_
  refine c_region ?_; refine l_op (o_val r_mv ?_); refine l_op (o_val (r_slS (s := s) 1 s.len s.cap (lv := some (VI 1)) (hv := none) (mv := none) rfl el50 rfl rfl rfl (fun w => by exact sbl 1 (by omega) (by (try simp only [Sl.cut]); omega) w)) ?_); refine l_op (o_val (r_bldG (Z := rdrE (⟨⟨none, 0, 0, []⟩, false⟩ : Rdr)) (E := rdrE (⟨(Sl.cut s 1 s.len s.cap), false⟩ : Rdr)) (pv := [(0, (Sl.cut s 1 s.len s.cap).v)]) bd95 rfl rfl (.consP rfl (rdrE_p0 _ (Sl.cut s 1 s.len s.cap)) rfl (.nil _))) ?_); refine l_op (o_box (v := .agg (rdrE (⟨(Sl.cut s 1 s.len s.cap), false⟩ : Rdr)).toArray) H rfl (fun b1 w H hb1 => ?_)); replace H : Hp _ w _ ([.blk bb (bdE (⟨(⟨zId, 0, (0 : UInt64), ⟨none, 0, 0, []⟩, ⟨none, 0, 0, []⟩, ⟨none, 0, 0, []⟩, zId⟩ : Sta), 0, (some tb)⟩ : Bd)) 70, .blk b1 (rdrE (⟨(Sl.cut s 1 s.len s.cap), false⟩ : Rdr)) 95]) := H
  refine l_op (o_val r_as ?_); first | refine l_end ?_ | refine l_nil ?_
  repeat refine c_seq ?_
  refine c_region ?_; refine l_op (o_val r_mv ?_); have ah4 := ((hs.up H hap)).addr (by (try simp only [Sl.cut]); omega)
  obtain ⟨ab2, ao3, ah4⟩ := ah4
  refine l_op (o_val (r_isN 0 rfl rfl el50 ah4 (by omega) (by (try simp only [Sl.cut]); omega)) ?_); refine l_op (o_val (r_ldB (s := s) (k := 0) (hs.up H hap) ah4 rfl ct5 (by (try simp only [Sl.cut]); omega)) ?_); first | refine l_end ?_ | refine l_nil ?_
  repeat refine c_seq ?_
  refine c_block ?_; repeat refine c_seq ?_
  refine c_region ?_; refine l_op (o_val (r_bin (a := (((s.l).getD 0 0).toNat : Int)) (b := 77) rfl rfl (fun _ => b_eqlB true (decide_eq_true (by rw [hl, recB_hd]; rfl)))) ?_); refine l_op (o_val r_as ?_); first | refine l_end ?_ | refine l_nil ?_
  repeat refine c_seq ?_
  refine c_yes rfl ?_; repeat refine c_seq ?_
  refine c_region ?_; refine l_op (o_val r_mv ?_); refine l_op (o_val (r_nilc rfl) ?_); refine l_op (o_val (r_fa rfl fo70_1) ?_); refine l_op (o_val (r_l1 (v := VI 0) H (i := 0) rfl rfl ct3 (bdE_c1 _)) ?_); refine l_op (o_val (r_bin (a := 0) (b := 1) rfl rfl (fun _ => b_add (by omega) (by omega))) ?_); refine l_op (o_val (r_nilc rfl) ?_); refine l_op (o_val (r_fa rfl fo70_1) ?_); refine l_op (o_s1P (C' := bdE (⟨(⟨zId, 0, (0 : UInt64), ⟨none, 0, 0, []⟩, ⟨none, 0, 0, []⟩, ⟨none, 0, 0, []⟩, zId⟩ : Sta), 0 + 1, (some tb)⟩ : Bd)) (u := VI (0 + 1)) H (i := 0) rfl rfl rfl cs3 rfl (bdE_p1 _ (0 + 1)) (fun w H => ?_)); replace H : Hp _ w _ ([.blk bb (bdE (⟨(⟨zId, 0, (0 : UInt64), ⟨none, 0, 0, []⟩, ⟨none, 0, 0, []⟩, ⟨none, 0, 0, []⟩, zId⟩ : Sta), 0 + 1, (some tb)⟩ : Bd)) 70, _]) := H
  first | refine l_end ?_ | refine l_nil ?_
  repeat refine c_seq ?_
  refine c_region ?_; refine l_op (o_val r_mv ?_); refine l_op (o_val r_mv ?_); refine l_op (o_val r_mv ?_); refine l_op (o_val r_mv ?_); refine l_op (o_val r_mv ?_); refine l_op (o_callR Tryz.func39 rfl rfl rfl (idR_ret _ b1 (Sl.cut s 1 s.len s.cap) ((hs.up H hap).cut (l := 1) (h := s.len) (m := s.cap) (by omega) (by (try simp only [Sl.cut]); omega) (by omega) (by (try simp only [Sl.cut]); omega)) (apart1 (hs.cut (l := 1) (h := s.len) (m := s.cap) (by omega) (by omega) (by omega) (by omega)) hb1) (by (try simp only [Sl.cut]); omega) (H.ownP (LL := [.blk b1 (rdrE (⟨(Sl.cut s 1 s.len s.cap), false⟩ : Rdr)) 95, .blk bb (bdE (⟨(⟨zId, 0, (0 : UInt64), ⟨none, 0, 0, []⟩, ⟨none, 0, 0, []⟩, ⟨none, 0, 0, []⟩, zId⟩ : Sta), 0 + 1, (some tb)⟩ : Bd)) 70]) (L1 := [.blk b1 (rdrE (⟨(Sl.cut s 1 s.len s.cap), false⟩ : Rdr)) 95]) (Lr := [.blk bb (bdE (⟨(⟨zId, 0, (0 : UInt64), ⟨none, 0, 0, []⟩, ⟨none, 0, 0, []⟩, ⟨none, 0, 0, []⟩, zId⟩ : Sta), 0 + 1, (some tb)⟩ : Bd)) 70]) ((perm_front (j := 1) rfl).trans (.cons _ (.refl _))) rfl)) ?_); rintro _ w ⟨y5, k6, rfl, hk7, hyn8, hyl9, hxy10, Hc⟩
  replace H := H.callP (L1 := [.blk b1 (rdrE (⟨(Sl.cut s 1 s.len s.cap), false⟩ : Rdr)) 95]) (Lr := [.blk bb (bdE (⟨(⟨zId, 0, (0 : UInt64), ⟨none, 0, 0, []⟩, ⟨none, 0, 0, []⟩, ⟨none, 0, 0, []⟩, zId⟩ : Sta), 0 + 1, (some tb)⟩ : Bd)) 70]) (LL := [.blk b1 (rdrE (⟨(Sl.cut s 1 s.len s.cap), false⟩ : Rdr)) 95, .blk bb (bdE (⟨(⟨zId, 0, (0 : UInt64), ⟨none, 0, 0, []⟩, ⟨none, 0, 0, []⟩, ⟨none, 0, 0, []⟩, zId⟩ : Sta), 0 + 1, (some tb)⟩ : Bd)) 70]) ((perm_front (j := 1) rfl).trans (.cons _ (.refl _))) rfl Hc (.refl _)
  clear Hc
  replace H : Hp _ w _ ([_, .blk b1 (rdrE (⟨y5, false⟩ : Rdr)) 95]) := H
  try simp only [Sl.cut] at hyn8
  try simp only [Sl.cut] at hyl9
  have hq11 := hyl9
  try simp only [Sl.cut] at hq11
  have hkk := hk7
  try simp only [Sl.cut] at hkk
  rw [hL, drop32] at hq11
  rw [hL, take32] at hkk
  have hke : r = k6 := (Subtype.ext hkk).symm
  clear hkk
  subst hke
  refine l_op (o_val r_mv ?_); have hub12 : (num (y5.l.take 8) 0 8).toNat ≤ 9223372036854775807 := by
    rw [hq11, take8, num_be8 _ (by omega), ofNat_nat _ (by omega)]; omega
  refine l_op (o_callR Tryz.func40 rfl rfl rfl (signedR_ret _ b1 y5 (hxy10 _ ((hs.up H hap).cut (l := 1) (h := s.len) (m := s.cap) (by omega) (by (try simp only [Sl.cut]); omega) (by omega) (by (try simp only [Sl.cut]); omega))) (apart1 (hxy10 _ (hs.cut (l := 1) (h := s.len) (m := s.cap) (by omega) (by omega) (by omega) (by omega))) hb1) (by (try simp only [Sl.cut]); omega) hub12 (H.ownP (LL := [.blk b1 (rdrE (⟨y5, false⟩ : Rdr)) 95, .blk bb (bdE (⟨(⟨zId, 0, (0 : UInt64), ⟨none, 0, 0, []⟩, ⟨none, 0, 0, []⟩, ⟨none, 0, 0, []⟩, zId⟩ : Sta), 0 + 1, (some tb)⟩ : Bd)) 70]) (L1 := [.blk b1 (rdrE (⟨y5, false⟩ : Rdr)) 95]) (Lr := [.blk bb (bdE (⟨(⟨zId, 0, (0 : UInt64), ⟨none, 0, 0, []⟩, ⟨none, 0, 0, []⟩, ⟨none, 0, 0, []⟩, zId⟩ : Sta), 0 + 1, (some tb)⟩ : Bd)) 70]) ((perm_front (j := 1) rfl).trans (.cons _ (.refl _))) rfl)) ?_); rintro _ w ⟨y13, n14, rfl, hn15, hyn16, hyl17, hxy18, Hc⟩
  replace H := H.callP (L1 := [.blk b1 (rdrE (⟨y5, false⟩ : Rdr)) 95]) (Lr := [.blk bb (bdE (⟨(⟨zId, 0, (0 : UInt64), ⟨none, 0, 0, []⟩, ⟨none, 0, 0, []⟩, ⟨none, 0, 0, []⟩, zId⟩ : Sta), 0 + 1, (some tb)⟩ : Bd)) 70]) (LL := [.blk b1 (rdrE (⟨y5, false⟩ : Rdr)) 95, .blk bb (bdE (⟨(⟨zId, 0, (0 : UInt64), ⟨none, 0, 0, []⟩, ⟨none, 0, 0, []⟩, ⟨none, 0, 0, []⟩, zId⟩ : Sta), 0 + 1, (some tb)⟩ : Bd)) 70]) ((perm_front (j := 1) rfl).trans (.cons _ (.refl _))) rfl Hc (.refl _)
  clear Hc
  replace H : Hp _ w _ ([_, .blk b1 (rdrE (⟨y13, false⟩ : Rdr)) 95]) := H
  try simp only [Sl.cut] at hyn16
  try simp only [Sl.cut] at hyl17
  have hq19 := hyl17
  rw [hq11, drop8] at hq19
  rw [hq11, take8, num_be8 _ (by omega), ofNat_nat _ (by omega)] at hn15
  have hne : d = n14 := by omega
  clear hn15
  subst hne
  refine l_op (o_val r_mv ?_); refine l_op (o_callR Tryz.func41 rfl rfl rfl (numberR_ret _ b1 y13 (hxy18 _ (hxy10 _ ((hs.up H hap).cut (l := 1) (h := s.len) (m := s.cap) (by omega) (by (try simp only [Sl.cut]); omega) (by omega) (by (try simp only [Sl.cut]); omega)))) (apart1 (hxy18 _ (hxy10 _ (hs.cut (l := 1) (h := s.len) (m := s.cap) (by omega) (by omega) (by omega) (by omega)))) hb1) (by (try simp only [Sl.cut]); omega) (H.ownP (LL := [.blk b1 (rdrE (⟨y13, false⟩ : Rdr)) 95, .blk bb (bdE (⟨(⟨zId, 0, (0 : UInt64), ⟨none, 0, 0, []⟩, ⟨none, 0, 0, []⟩, ⟨none, 0, 0, []⟩, zId⟩ : Sta), 0 + 1, (some tb)⟩ : Bd)) 70]) (L1 := [.blk b1 (rdrE (⟨y13, false⟩ : Rdr)) 95]) (Lr := [.blk bb (bdE (⟨(⟨zId, 0, (0 : UInt64), ⟨none, 0, 0, []⟩, ⟨none, 0, 0, []⟩, ⟨none, 0, 0, []⟩, zId⟩ : Sta), 0 + 1, (some tb)⟩ : Bd)) 70]) ((perm_front (j := 1) rfl).trans (.cons _ (.refl _))) rfl)) ?_); rintro _ w ⟨y20, u21, rfl, hu22, hyn23, hyl24, hxy25, Hc⟩
  replace H := H.callP (L1 := [.blk b1 (rdrE (⟨y13, false⟩ : Rdr)) 95]) (Lr := [.blk bb (bdE (⟨(⟨zId, 0, (0 : UInt64), ⟨none, 0, 0, []⟩, ⟨none, 0, 0, []⟩, ⟨none, 0, 0, []⟩, zId⟩ : Sta), 0 + 1, (some tb)⟩ : Bd)) 70]) (LL := [.blk b1 (rdrE (⟨y13, false⟩ : Rdr)) 95, .blk bb (bdE (⟨(⟨zId, 0, (0 : UInt64), ⟨none, 0, 0, []⟩, ⟨none, 0, 0, []⟩, ⟨none, 0, 0, []⟩, zId⟩ : Sta), 0 + 1, (some tb)⟩ : Bd)) 70]) ((perm_front (j := 1) rfl).trans (.cons _ (.refl _))) rfl Hc (.refl _)
  clear Hc
  replace H : Hp _ w _ ([_, .blk b1 (rdrE (⟨y20, false⟩ : Rdr)) 95]) := H
  try simp only [Sl.cut] at hyn23
  try simp only [Sl.cut] at hyl24
  have hq26 := hyl24
  rw [hq19, drop8] at hq26
  rw [hq19, take8, num_be8 _ (by omega)] at hu22
  have hue : 0 = u21 := hu22.symm
  clear hu22
  subst hue
  refine l_op (o_val r_mv ?_); refine l_op (o_callR Tryz.func39 rfl rfl rfl (idR_ret _ b1 y20 (hxy25 _ (hxy18 _ (hxy10 _ ((hs.up H hap).cut (l := 1) (h := s.len) (m := s.cap) (by omega) (by (try simp only [Sl.cut]); omega) (by omega) (by (try simp only [Sl.cut]); omega))))) (apart1 (hxy25 _ (hxy18 _ (hxy10 _ (hs.cut (l := 1) (h := s.len) (m := s.cap) (by omega) (by omega) (by omega) (by omega))))) hb1) (by (try simp only [Sl.cut]); omega) (H.ownP (LL := [.blk b1 (rdrE (⟨y20, false⟩ : Rdr)) 95, .blk bb (bdE (⟨(⟨zId, 0, (0 : UInt64), ⟨none, 0, 0, []⟩, ⟨none, 0, 0, []⟩, ⟨none, 0, 0, []⟩, zId⟩ : Sta), 0 + 1, (some tb)⟩ : Bd)) 70]) (L1 := [.blk b1 (rdrE (⟨y20, false⟩ : Rdr)) 95]) (Lr := [.blk bb (bdE (⟨(⟨zId, 0, (0 : UInt64), ⟨none, 0, 0, []⟩, ⟨none, 0, 0, []⟩, ⟨none, 0, 0, []⟩, zId⟩ : Sta), 0 + 1, (some tb)⟩ : Bd)) 70]) ((perm_front (j := 1) rfl).trans (.cons _ (.refl _))) rfl)) ?_); rintro _ w ⟨y27, k28, rfl, hk29, hyn30, hyl31, hxy32, Hc⟩
  replace H := H.callP (L1 := [.blk b1 (rdrE (⟨y20, false⟩ : Rdr)) 95]) (Lr := [.blk bb (bdE (⟨(⟨zId, 0, (0 : UInt64), ⟨none, 0, 0, []⟩, ⟨none, 0, 0, []⟩, ⟨none, 0, 0, []⟩, zId⟩ : Sta), 0 + 1, (some tb)⟩ : Bd)) 70]) (LL := [.blk b1 (rdrE (⟨y20, false⟩ : Rdr)) 95, .blk bb (bdE (⟨(⟨zId, 0, (0 : UInt64), ⟨none, 0, 0, []⟩, ⟨none, 0, 0, []⟩, ⟨none, 0, 0, []⟩, zId⟩ : Sta), 0 + 1, (some tb)⟩ : Bd)) 70]) ((perm_front (j := 1) rfl).trans (.cons _ (.refl _))) rfl Hc (.refl _)
  clear Hc
  replace H : Hp _ w _ ([_, .blk b1 (rdrE (⟨y27, false⟩ : Rdr)) 95]) := H
  try simp only [Sl.cut] at hyn30
  try simp only [Sl.cut] at hyl31
  have hq33 := hyl31
  try simp only [Sl.cut] at hq33
  have hkk := hk29
  try simp only [Sl.cut] at hkk
  rw [hq26, drop32] at hq33
  rw [hq26, take32] at hkk
  have hke : zId = k28 := (Subtype.ext hkk).symm
  clear hkk
  subst hke
  refine l_op (o_val (r_nilc rfl) ?_); refine l_op (o_val (r_fa rfl fo70_0) ?_); refine l_op (o_val (r_fa rfl fo41_0) ?_); refine l_op (o_skP (C' := bdE (⟨(⟨r, 0, (0 : UInt64), ⟨none, 0, 0, []⟩, ⟨none, 0, 0, []⟩, ⟨none, 0, 0, []⟩, zId⟩ : Sta), 0 + 1, (some tb)⟩ : Bd)) (V := (r.1).map V8) H (i := 0) rfl rfl rfl cs23 (by first | (simp [Value.oneCell', List.all_map]; done) | (simp only [List.all_map]; simp [Value.oneCell', Function.comp_def])) ((bdE_p0 _ _).comp (staE_p0 _ r)) (fun w H => ?_)); replace H : Hp _ w _ ([.blk bb (bdE (⟨(⟨r, 0, (0 : UInt64), ⟨none, 0, 0, []⟩, ⟨none, 0, 0, []⟩, ⟨none, 0, 0, []⟩, zId⟩ : Sta), 0 + 1, (some tb)⟩ : Bd)) 70, _]) := H
  refine l_op (o_val (r_nilc rfl) ?_); refine l_op (o_val (r_fa rfl fo70_0) ?_); refine l_op (o_val (r_fa rfl fo41_1) ?_); refine l_op (o_s1P (C' := bdE (⟨(⟨r, d, (0 : UInt64), ⟨none, 0, 0, []⟩, ⟨none, 0, 0, []⟩, ⟨none, 0, 0, []⟩, zId⟩ : Sta), 0 + 1, (some tb)⟩ : Bd)) (u := VI d) H (i := 0) rfl rfl rfl cs2 rfl ((bdE_p0 _ _).comp (staE_p1 _ d)) (fun w H => ?_)); replace H : Hp _ w _ ([.blk bb (bdE (⟨(⟨r, d, (0 : UInt64), ⟨none, 0, 0, []⟩, ⟨none, 0, 0, []⟩, ⟨none, 0, 0, []⟩, zId⟩ : Sta), 0 + 1, (some tb)⟩ : Bd)) 70, _]) := H
  refine l_op (o_val (r_nilc rfl) ?_); refine l_op (o_val (r_fa rfl fo70_0) ?_); refine l_op (o_val (r_fa rfl fo41_2) ?_); refine l_op (o_s1P (C' := bdE (⟨(⟨r, d, (0 : UInt64), ⟨none, 0, 0, []⟩, ⟨none, 0, 0, []⟩, ⟨none, 0, 0, []⟩, zId⟩ : Sta), 0 + 1, (some tb)⟩ : Bd)) (u := V64 (0 : UInt64)) H (i := 0) rfl rfl rfl cs36 rfl ((bdE_p0 _ _).comp (staE_p2 _ (0 : UInt64))) (fun w H => ?_)); replace H : Hp _ w _ [_, _] := H
  refine l_op (o_val (r_nilc rfl) ?_); refine l_op (o_val (r_fa rfl fo70_0) ?_); refine l_op (o_val (r_fa rfl fo41_6) ?_); refine l_op (o_skP (C' := bdE (⟨(⟨r, d, (0 : UInt64), ⟨none, 0, 0, []⟩, ⟨none, 0, 0, []⟩, ⟨none, 0, 0, []⟩, zId⟩ : Sta), 0 + 1, (some tb)⟩ : Bd)) (V := (zId.1).map V8) H (i := 0) rfl rfl rfl cs23 (by first | (simp [Value.oneCell', List.all_map]; done) | (simp only [List.all_map]; simp [Value.oneCell', Function.comp_def])) ((bdE_p0 _ _).comp (staE_p6 _ zId)) (fun w H => ?_)); replace H : Hp _ w _ [_, _] := H
  first | refine l_end ?_ | refine l_nil ?_
  repeat refine c_seq ?_
  refine c_region ?_; refine l_op (o_val r_mv ?_); have hub34 : (num (y27.l.take 8) 0 8).toNat ≤ 9223372036854775807 := by
    rw [hq33, List.take_of_length_le (by rw [be_len]; omega), num_be8 _ (by omega), ofNat_nat _ (by omega)]; omega
  refine l_op (o_callR Tryz.func40 rfl rfl rfl (signedR_ret _ b1 y27 (hxy32 _ (hxy25 _ (hxy18 _ (hxy10 _ ((hs.up H hap).cut (l := 1) (h := s.len) (m := s.cap) (by omega) (by (try simp only [Sl.cut]); omega) (by omega) (by (try simp only [Sl.cut]); omega)))))) (apart1 (hxy32 _ (hxy25 _ (hxy18 _ (hxy10 _ (hs.cut (l := 1) (h := s.len) (m := s.cap) (by omega) (by omega) (by omega) (by omega)))))) hb1) (by (try simp only [Sl.cut]); omega) hub34 (H.ownP (LL := [.blk b1 (rdrE (⟨y27, false⟩ : Rdr)) 95, .blk bb (bdE (⟨(⟨r, d, (0 : UInt64), ⟨none, 0, 0, []⟩, ⟨none, 0, 0, []⟩, ⟨none, 0, 0, []⟩, zId⟩ : Sta), 0 + 1, (some tb)⟩ : Bd)) 70]) (L1 := [.blk b1 (rdrE (⟨y27, false⟩ : Rdr)) 95]) (Lr := [.blk bb (bdE (⟨(⟨r, d, (0 : UInt64), ⟨none, 0, 0, []⟩, ⟨none, 0, 0, []⟩, ⟨none, 0, 0, []⟩, zId⟩ : Sta), 0 + 1, (some tb)⟩ : Bd)) 70]) ((perm_front (j := 1) rfl).trans (.cons _ (.refl _))) rfl)) ?_); rintro _ w ⟨y35, n36, rfl, hn37, hyn38, hyl39, hxy40, Hc⟩
  replace H := H.callP (L1 := [.blk b1 (rdrE (⟨y27, false⟩ : Rdr)) 95]) (Lr := [.blk bb (bdE (⟨(⟨r, d, (0 : UInt64), ⟨none, 0, 0, []⟩, ⟨none, 0, 0, []⟩, ⟨none, 0, 0, []⟩, zId⟩ : Sta), 0 + 1, (some tb)⟩ : Bd)) 70]) (LL := [.blk b1 (rdrE (⟨y27, false⟩ : Rdr)) 95, .blk bb (bdE (⟨(⟨r, d, (0 : UInt64), ⟨none, 0, 0, []⟩, ⟨none, 0, 0, []⟩, ⟨none, 0, 0, []⟩, zId⟩ : Sta), 0 + 1, (some tb)⟩ : Bd)) 70]) ((perm_front (j := 1) rfl).trans (.cons _ (.refl _))) rfl Hc (.refl _)
  clear Hc
  replace H : Hp _ w _ ([_, .blk b1 (rdrE (⟨y35, false⟩ : Rdr)) 95]) := H
  try simp only [Sl.cut] at hyn38
  try simp only [Sl.cut] at hyl39
  first | refine l_end ?_ | refine l_nil ?_
  repeat refine c_seq ?_
  refine c_region ?_; refine l_op (o_val r_mv ?_); refine l_op (o_val (r_nilc rfl) ?_); refine l_op (o_val (r_fa rfl fo95_1) ?_); refine l_op (o_val (r_l1 (v := .bool false) H (i := 1) rfl rfl ct4 (rdrE_c1 _)) ?_); refine l_op (o_val (r_not rfl) ?_); refine l_op (o_val r_mv ?_); refine l_yes rfl rfl rfl (o_val r_mv ?_); refine l_yes rfl rfl rfl (o_val (r_nilc rfl) ?_); refine l_yes rfl rfl rfl (o_val (r_fa rfl fo95_0) ?_); refine l_yes rfl rfl rfl (o_val (r_l1 (v := y35.v) H (i := 1) rfl rfl ct50 (rdrE_c0 _)) ?_); refine l_yes rfl rfl rfl (o_val (r_lens el50 rfl) ?_); refine l_yes rfl rfl rfl (o_val (r_bin (a := (y35.len : Int)) (b := 0) rfl rfl (fun _ => b_eqlB true (decide_eq_true (by omega)))) ?_); refine l_op (o_val (r_pick rfl) ?_); refine l_op (o_val r_as ?_); first | refine l_end ?_ | refine l_nil ?_
  refine c_ret ?_; try dsimp only [Exit.then, Exit.inBlock]
  refine e_ret1 (v := .bool true) Tryz.results21 rfl ?_
  refine ⟨_, rfl, ?_⟩
  exact ⟨rfl, H.sub (.cons_cons _ (List.nil_sublist _))⟩
end Go.Proofs.YthigalfaanccnaaGreat
