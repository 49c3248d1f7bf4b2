/- Lemmas for the statement ModelDooms, part 4: rules of operations, walks through functions, plain laws. -/
import Derived.Test.YtmiabahejnjhiaaGreatDoorModelDoomsG3
import Derived.LoopN
namespace Go.Proofs.YtmiabahejnjhiaaGreatDoor
open Go
set_option maxRecDepth 100000
theorem Gl.ok_nil {α : Type} {enc : α → List Value} {sz : Nat} (w : World) : (⟨none, 0, 0, []⟩ : Gl α).ok enc sz w := ⟨.inl rfl, rfl, Nat.le_refl _, Nat.zero_le _, fun c hc => (by cases hc)⟩
def rMay (r : UInt8) : Bool := decide (((r &&& ~~~(15 : UInt8)).toNat : Int) = 0)
def rCov (a b : UInt8) : Bool := decide (((b &&& ~~~a).toNat : Int) = 0)
def nm1 (c : UInt8) : Bool := (decide (97 ≤ c.toNat) && decide (c.toNat ≤ 122)) || (decide (48 ≤ c.toNat) && decide (c.toNat ≤ 57)) || decide (c.toNat = 45)
theorem nm1_iff (c : UInt8) : nm1 c = true ↔ (97 ≤ c.toNat ∧ c.toNat ≤ 122) ∨ (48 ≤ c.toNat ∧ c.toNat ≤ 57) ∨ c.toNat = 45 := by simp [nm1, or_assoc]
/-- may these bytes be a tenant's name? -/
def nameMay (l : List UInt8) : Bool := decide (1 ≤ l.length) && decide (l.length ≤ 16) && decide (97 ≤ (l.getD 0 0).toNat) && decide ((l.getD 0 0).toNat ≤ 122) && l.all nm1
theorem nameMay_iff (l : List UInt8) : nameMay l = true ↔ 1 ≤ l.length ∧ l.length ≤ 16 ∧ 97 ≤ (l.getD 0 0).toNat ∧ (l.getD 0 0).toNat ≤ 122 ∧ ∀ i, i < l.length → nm1 (l.getD i 0) = true := by
  simp only [nameMay, Bool.and_eq_true, decide_eq_true_eq, List.all_eq_true, and_assoc]
  refine ⟨fun ⟨h1, h2, h3, h4, h5⟩ => ⟨h1, h2, h3, h4, fun i hi => h5 _ ?_⟩, fun ⟨h1, h2, h3, h4, h5⟩ => ⟨h1, h2, h3, h4, fun c hc => ?_⟩⟩
  · rw [List.getD_eq_getElem?_getD, List.getElem?_eq_getElem hi]; exact List.getElem_mem hi
  · obtain ⟨i, hi, rfl⟩ := List.getElem_of_mem hc
    have := h5 i hi
    rwa [List.getD_eq_getElem?_getD, List.getElem?_eq_getElem hi] at this
theorem rmay_ret (w0 : World) (r : UInt8) :
    Ret Tryz.prog 39 [V8 r] w0 fun v w' => v = .bool (rMay r) ∧ w' = w0 := by
  refine ret_mk Tryz.func39 rfl Tryz.ntmps39 (by simp) ?_
  have H := Hp.refl w0 []
  refine rG ?_; refine aZ ?_; refine eN ?_
  refine rG ?_; refine mV ?_; refine lV (r_bin rfl (c8 15 (by decide)) (fun _ => b_andNot_u8)) ?_; refine lV (r_bin (a := ((r &&& ~~~(15 : UInt8)).toNat : Int)) (b := 0) rfl rfl (fun _ => b_eql)) ?_; refine aZ ?_; refine eN ?_
  refine cR ?_
  refine e_ret1 (v := .bool (decide (((r &&& ~~~(15 : UInt8)).toNat : Int) = 0))) Tryz.results39 rfl ?_
  refine ⟨_, rfl, ?_⟩
  exact ⟨rfl, rfl⟩
theorem rcov_ret (w0 : World) (a b : UInt8) :
    Ret Tryz.prog 46 [V8 a, V8 b] w0 fun v w' => v = .bool (rCov a b) ∧ w' = w0 := by
  refine ret_mk Tryz.func46 rfl Tryz.ntmps46 (by simp) ?_
  have H := Hp.refl w0 []
  refine rG ?_; refine aZ ?_; refine eN ?_
  refine rG ?_; refine mV ?_; refine mV ?_; refine lV (r_bin rfl rfl (fun _ => b_andNot_u8)) ?_; refine lV (r_bin (a := ((b &&& ~~~a).toNat : Int)) (b := 0) rfl rfl (fun _ => b_eql)) ?_; refine aZ ?_; refine eN ?_
  refine cR ?_
  refine e_ret1 (v := .bool (decide (((b &&& ~~~a).toNat : Int) = 0))) Tryz.results46 rfl ?_
  refine ⟨_, rfl, ?_⟩
  exact ⟨rfl, rfl⟩
theorem nmay_ret (w0 : World) (l : List UInt8) (hl : l.length ≤ 1099511627776) :
    Ret Tryz.prog 40 [.string ⟨(l).toArray⟩] w0 fun v w' => v = .bool (nameMay l) ∧ Hp w0 w' [] [] := by
  refine ret_mk Tryz.func40 rfl Tryz.ntmps40 (by simp) ?_
  have H := Hp.refl w0 []
  refine rG ?_; refine aZ ?_; refine eN ?_
  refine rG ?_; refine mV ?_; refine lV (r_lenstr (s := ⟨(l).toArray⟩) Tryz.underlying9 rfl) ?_; refine lV (r_bin (a := ((l).length : Int)) (b := 1) rfl rfl (fun _ => b_lss)) ?_; refine mV ?_
  by_cases hc1 : ((l).length : Int) < 1
  ·
   refine l_no rfl rfl (by exact bT hc1) rfl ?_; refine l_no rfl rfl (by exact bT hc1) rfl ?_; refine l_no rfl rfl (by exact bT hc1) rfl ?_; refine lV (r_pick (b := true) (bT hc1)) ?_; refine mV ?_; refine l_no rfl rfl rfl rfl ?_; refine l_no rfl rfl rfl rfl ?_; refine l_no rfl rfl rfl rfl ?_; refine lV (r_pick rfl) ?_; refine mV ?_; refine l_no rfl rfl rfl rfl ?_; refine l_no rfl rfl rfl rfl ?_; refine l_no rfl rfl rfl rfl ?_; refine lV (r_pick rfl) ?_; refine eN ?_
   refine qY ?_; refine rG ?_; refine aZ ?_; refine eN ?_
   refine cR ?_
   refine e_ret1 (v := .bool false) Tryz.results40 rfl ?_
   refine ⟨_, rfl, ?_⟩
   refine ⟨?_, H⟩
   have e : nameMay l = false := Bool.eq_false_iff.2 fun h => by
     have h2 := (nameMay_iff l).1 h
     exact absurd h2 oM
   rw [e]
  ·
   refine l_yes rfl rfl (by exact bF hc1) (o_val r_mv ?_); refine l_yes rfl rfl (by exact bF hc1) (o_val (r_lenstr (s := ⟨(l).toArray⟩) Tryz.underlying9 rfl) ?_); refine l_yes rfl rfl (by exact bF hc1) (o_val (r_bin (a := ((l).length : Int)) (b := 16) rfl rfl (fun _ => b_gtr)) ?_); refine lV (r_pick (b := false) (bF hc1)) ?_; refine mV ?_
   by_cases hc2 : 16 < ((l).length : Int)
   ·
    refine l_no rfl rfl (by exact bT hc2) rfl ?_; refine l_no rfl rfl (by exact bT hc2) rfl ?_; refine l_no rfl rfl (by exact bT hc2) rfl ?_; refine lV (r_pick (b := true) (bT hc2)) ?_; refine mV ?_; refine l_no rfl rfl rfl rfl ?_; refine l_no rfl rfl rfl rfl ?_; refine l_no rfl rfl rfl rfl ?_; refine lV (r_pick rfl) ?_; refine eN ?_
    refine qY ?_; refine rG ?_; refine aZ ?_; refine eN ?_
    refine cR ?_
    refine e_ret1 (v := .bool false) Tryz.results40 rfl ?_
    refine ⟨_, rfl, ?_⟩
    refine ⟨?_, H⟩
    have e : nameMay l = false := Bool.eq_false_iff.2 fun h => by
      have h2 := (nameMay_iff l).1 h
      exact absurd h2 oM
    rw [e]
   ·
    refine l_yes rfl rfl (by exact bF hc2) (o_val r_mv ?_); refine l_yes rfl rfl (by exact bF hc2) (o_val (r_idxS (l := l) 0 Tryz.underlying9 rfl rfl oM oM) ?_); refine l_yes rfl rfl (by exact bF hc2) (o_val (r_bin (a := (((l).getD 0 0).toNat : Int)) (b := 97) rfl rfl (fun _ => b_lss)) ?_); refine lV (r_pick (b := false) (bF hc2)) ?_; refine mV ?_
    by_cases hc3 : (((l).getD 0 0).toNat : Int) < 97
    ·
     refine l_no rfl rfl (by exact bT hc3) rfl ?_; refine l_no rfl rfl (by exact bT hc3) rfl ?_; refine l_no rfl rfl (by exact bT hc3) rfl ?_; refine lV (r_pick (b := true) (bT hc3)) ?_; refine eN ?_
     refine qY ?_; refine rG ?_; refine aZ ?_; refine eN ?_
     refine cR ?_
     refine e_ret1 (v := .bool false) Tryz.results40 rfl ?_
     refine ⟨_, rfl, ?_⟩
     refine ⟨?_, H⟩
     have e : nameMay l = false := Bool.eq_false_iff.2 fun h => by
       have h2 := (nameMay_iff l).1 h
       exact absurd h2 oM
     rw [e]
    ·
     refine l_yes rfl rfl (by exact bF hc3) (o_val r_mv ?_); refine l_yes rfl rfl (by exact bF hc3) (o_val (r_idxS (l := l) 0 Tryz.underlying9 rfl rfl oM oM) ?_); refine l_yes rfl rfl (by exact bF hc3) (o_val (r_bin (a := (((l).getD 0 0).toNat : Int)) (b := 122) rfl rfl (fun _ => b_gtr)) ?_); refine lV (r_pick (b := false) (bF hc3)) ?_; refine eN ?_
     by_cases hc4 : 122 < (((l).getD 0 0).toNat : Int)
     ·
      repeat refine c_seq ?_
      refine c_yes (by exact bT hc4) ?_; refine rG ?_; refine aZ ?_; refine eN ?_
      refine cR ?_
      refine e_ret1 (v := .bool false) Tryz.results40 rfl ?_
      refine ⟨_, rfl, ?_⟩
      refine ⟨?_, H⟩
      have e : nameMay l = false := Bool.eq_false_iff.2 fun h => by
        have h2 := (nameMay_iff l).1 h
        exact absurd h2 oM
      rw [e]
     ·
      repeat refine c_seq ?_
      refine c_no (by exact bF hc4) ?_; refine c_skip ?_; refine rG ?_; refine mV ?_; refine lV (r_lenstr (s := ⟨(l).toArray⟩) Tryz.underlying9 rfl) ?_; refine mV ?_; refine eN ?_
      refine qB ?_; repeat refine c_seq ?_
      refine c_loop (fun (i : Nat) => [(0, .string ⟨(l).toArray⟩), (24, VI ((l).length : Int)), (25, VI (i : Int))])
        (fun (i : Nat) w => (i ≤ l.length ∧ ∀ j, j < i → nm1 (l.getD j 0) = true) ∧ Hp w0 w [] ([]))
        (fun (i : Nat) => l.length - i) 0 ⟨rfl, rfl, rfl, trivial⟩ ⟨⟨Nat.zero_le _, fun j hj => absurd hj oM⟩, H⟩ ?_
      clear H
      rintro i τ w ⟨⟨hi, hall⟩, H⟩
      refine rG ?_; refine lV (r_bin (a := (i : Int)) (b := ((l).length : Int)) rfl rfl (fun _ => b_lss)) ?_; refine eN ?_
      by_cases hc5 : (i : Int) < ((l).length : Int)
      ·
       repeat refine c_seq ?_
       refine c_yes (by exact bT hc5) ?_; refine c_skip ?_; refine qB ?_; refine rG ?_; refine mV ?_; refine aZ ?_; refine eN ?_
       refine rG ?_; refine mV ?_; refine mV ?_; refine lV (r_idxS (l := l) i Tryz.underlying9 rfl rfl oM oM) ?_; refine aZ ?_; refine eN ?_
       refine qB ?_; refine rG ?_; refine mV ?_; refine lV (r_bin (a := (((l).getD i 0).toNat : Int)) (b := 97) rfl rfl (fun _ => b_geq)) ?_; refine mV ?_
       by_cases hc6 : 97 ≤ (((l).getD i 0).toNat : Int)
       ·
        refine l_yes rfl rfl (by exact bT hc6) (o_val r_mv ?_); refine l_yes rfl rfl (by exact bT hc6) (o_val (r_bin (a := (((l).getD i 0).toNat : Int)) (b := 122) rfl rfl (fun _ => b_leq)) ?_); refine lV (r_pick (b := true) (bT hc6)) ?_; refine aZ ?_; refine eN ?_
        by_cases hc7 : (((l).getD i 0).toNat : Int) ≤ 122
        ·
         repeat refine c_seq ?_
         refine c_yes (by exact bT hc7) ?_; refine c_skip ?_; repeat refine c_seq ?_
         refine c_yes (by exact bT hc7) ?_; refine c_skip ?_; refine rG ?_; refine lV (r_bin (a := (i : Int)) (b := 1) rfl rfl (fun _ => b_add oM oM)) ?_; refine mV ?_; refine eN ?_
         refine round_end (i + 1) ?_ ?_ ?_
         · exact ⟨rfl, rfl, show VI ((i : Int) + 1) = VI ((i + 1 : Nat) : Int) from congrArg VI oM, trivial⟩
         · refine ⟨?_, ?_⟩
           · try dsimp only
             exact ⟨by omega, fun j hj => by
               by_cases hji : j < i
               · exact hall j hji
               · have e : j = i := by omega
                 rw [e]; exact (nm1_iff _).2 oM⟩
           · exact H
         · show l.length - (i + 1 : Nat) < l.length - i; omega
        ·
         repeat refine c_seq ?_
         refine c_no (by exact bF hc7) ?_; refine rG ?_; refine mV ?_; refine lV (r_bin (a := (((l).getD i 0).toNat : Int)) (b := 48) rfl rfl (fun _ => b_geq)) ?_; refine mV ?_
         by_cases hc8 : 48 ≤ (((l).getD i 0).toNat : Int)
         ·
          refine l_yes rfl rfl (by exact bT hc8) (o_val r_mv ?_); refine l_yes rfl rfl (by exact bT hc8) (o_val (r_bin (a := (((l).getD i 0).toNat : Int)) (b := 57) rfl rfl (fun _ => b_leq)) ?_); refine lV (r_pick (b := true) (bT hc8)) ?_; refine aZ ?_; refine eN ?_
          by_cases hc9 : (((l).getD i 0).toNat : Int) ≤ 57
          ·
           repeat refine c_seq ?_
           refine c_yes (by exact bT hc9) ?_; refine c_skip ?_; repeat refine c_seq ?_
           refine c_yes (by exact bT hc9) ?_; refine c_skip ?_; refine rG ?_; refine lV (r_bin (a := (i : Int)) (b := 1) rfl rfl (fun _ => b_add oM oM)) ?_; refine mV ?_; refine eN ?_
           refine round_end (i + 1) ?_ ?_ ?_
           · exact ⟨rfl, rfl, show VI ((i : Int) + 1) = VI ((i + 1 : Nat) : Int) from congrArg VI oM, trivial⟩
           · refine ⟨?_, ?_⟩
             · try dsimp only
               exact ⟨by omega, fun j hj => by
                 by_cases hji : j < i
                 · exact hall j hji
                 · have e : j = i := by omega
                   rw [e]; exact (nm1_iff _).2 oM⟩
             · exact H
           · show l.length - (i + 1 : Nat) < l.length - i; omega
          ·
           repeat refine c_seq ?_
           refine c_no (by exact bF hc9) ?_; refine rG ?_; refine mV ?_; refine lV (r_bin (a := (((l).getD i 0).toNat : Int)) (b := 45) rfl rfl (fun _ => b_eql)) ?_; refine aZ ?_; refine eN ?_
           by_cases hc10 : (((l).getD i 0).toNat : Int) = 45
           ·
            repeat refine c_seq ?_
            refine c_yes (by exact bT hc10) ?_; refine c_skip ?_; refine rG ?_; refine lV (r_bin (a := (i : Int)) (b := 1) rfl rfl (fun _ => b_add oM oM)) ?_; refine mV ?_; refine eN ?_
            refine round_end (i + 1) ?_ ?_ ?_
            · exact ⟨rfl, rfl, show VI ((i : Int) + 1) = VI ((i + 1 : Nat) : Int) from congrArg VI oM, trivial⟩
            · refine ⟨?_, ?_⟩
              · try dsimp only
                exact ⟨by omega, fun j hj => by
                  by_cases hji : j < i
                  · exact hall j hji
                  · have e : j = i := by omega
                    rw [e]; exact (nm1_iff _).2 oM⟩
              · exact H
            · show l.length - (i + 1 : Nat) < l.length - i; omega
           ·
            repeat refine c_seq ?_
            refine c_no (by exact bF hc10) ?_; refine rG ?_; refine aZ ?_; refine eN ?_
            refine cR ?_
            refine e_ret1 (v := .bool false) Tryz.results40 rfl ?_
            refine ⟨_, rfl, ?_⟩
            refine ⟨?_, H⟩
            have e : nameMay l = false := Bool.eq_false_iff.2 fun h => by
              have h2 := (nameMay_iff l).1 h
              have h3 := (nm1_iff _).1 (h2.2.2.2.2 i oM)
              exact absurd h2 oM
            rw [e]
         ·
          refine l_no rfl rfl (by exact bF hc8) rfl ?_; refine l_no rfl rfl (by exact bF hc8) rfl ?_; refine lV (r_pick (b := false) (bF hc8)) ?_; refine aZ ?_; refine eN ?_
          refine qN ?_; refine rG ?_; refine mV ?_; refine lV (r_bin (a := (((l).getD i 0).toNat : Int)) (b := 45) rfl rfl (fun _ => b_eql)) ?_; refine aZ ?_; refine eN ?_
          by_cases hc11 : (((l).getD i 0).toNat : Int) = 45
          ·
           repeat refine c_seq ?_
           refine c_yes (by exact bT hc11) ?_; refine c_skip ?_; refine rG ?_; refine lV (r_bin (a := (i : Int)) (b := 1) rfl rfl (fun _ => b_add oM oM)) ?_; refine mV ?_; refine eN ?_
           refine round_end (i + 1) ?_ ?_ ?_
           · exact ⟨rfl, rfl, show VI ((i : Int) + 1) = VI ((i + 1 : Nat) : Int) from congrArg VI oM, trivial⟩
           · refine ⟨?_, ?_⟩
             · try dsimp only
               exact ⟨by omega, fun j hj => by
                 by_cases hji : j < i
                 · exact hall j hji
                 · have e : j = i := by omega
                   rw [e]; exact (nm1_iff _).2 oM⟩
             · exact H
           · show l.length - (i + 1 : Nat) < l.length - i; omega
          ·
           repeat refine c_seq ?_
           refine c_no (by exact bF hc11) ?_; refine rG ?_; refine aZ ?_; refine eN ?_
           refine cR ?_
           refine e_ret1 (v := .bool false) Tryz.results40 rfl ?_
           refine ⟨_, rfl, ?_⟩
           refine ⟨?_, H⟩
           have e : nameMay l = false := Bool.eq_false_iff.2 fun h => by
             have h2 := (nameMay_iff l).1 h
             have h3 := (nm1_iff _).1 (h2.2.2.2.2 i oM)
             exact absurd h2 oM
           rw [e]
       ·
        refine l_no rfl rfl (by exact bF hc6) rfl ?_; refine l_no rfl rfl (by exact bF hc6) rfl ?_; refine lV (r_pick (b := false) (bF hc6)) ?_; refine aZ ?_; refine eN ?_
        refine qN ?_; refine rG ?_; refine mV ?_; refine lV (r_bin (a := (((l).getD i 0).toNat : Int)) (b := 48) rfl rfl (fun _ => b_geq)) ?_; refine mV ?_
        by_cases hc12 : 48 ≤ (((l).getD i 0).toNat : Int)
        ·
         refine l_yes rfl rfl (by exact bT hc12) (o_val r_mv ?_); refine l_yes rfl rfl (by exact bT hc12) (o_val (r_bin (a := (((l).getD i 0).toNat : Int)) (b := 57) rfl rfl (fun _ => b_leq)) ?_); refine lV (r_pick (b := true) (bT hc12)) ?_; refine aZ ?_; refine eN ?_
         by_cases hc13 : (((l).getD i 0).toNat : Int) ≤ 57
         ·
          repeat refine c_seq ?_
          refine c_yes (by exact bT hc13) ?_; refine c_skip ?_; repeat refine c_seq ?_
          refine c_yes (by exact bT hc13) ?_; refine c_skip ?_; refine rG ?_; refine lV (r_bin (a := (i : Int)) (b := 1) rfl rfl (fun _ => b_add oM oM)) ?_; refine mV ?_; refine eN ?_
          refine round_end (i + 1) ?_ ?_ ?_
          · exact ⟨rfl, rfl, show VI ((i : Int) + 1) = VI ((i + 1 : Nat) : Int) from congrArg VI oM, trivial⟩
          · refine ⟨?_, ?_⟩
            · try dsimp only
              exact ⟨by omega, fun j hj => by
                by_cases hji : j < i
                · exact hall j hji
                · have e : j = i := by omega
                  rw [e]; exact (nm1_iff _).2 oM⟩
            · exact H
          · show l.length - (i + 1 : Nat) < l.length - i; omega
         ·
          repeat refine c_seq ?_
          refine c_no (by exact bF hc13) ?_; refine rG ?_; refine mV ?_; refine lV (r_bin (a := (((l).getD i 0).toNat : Int)) (b := 45) rfl rfl (fun _ => b_eql)) ?_; refine aZ ?_; refine eN ?_
          by_cases hc14 : (((l).getD i 0).toNat : Int) = 45
          ·
           repeat refine c_seq ?_
           refine c_yes (by exact bT hc14) ?_; refine c_skip ?_; refine rG ?_; refine lV (r_bin (a := (i : Int)) (b := 1) rfl rfl (fun _ => b_add oM oM)) ?_; refine mV ?_; refine eN ?_
           refine round_end (i + 1) ?_ ?_ ?_
           · exact ⟨rfl, rfl, show VI ((i : Int) + 1) = VI ((i + 1 : Nat) : Int) from congrArg VI oM, trivial⟩
           · refine ⟨?_, ?_⟩
             · try dsimp only
               exact ⟨by omega, fun j hj => by
                 by_cases hji : j < i
                 · exact hall j hji
                 · have e : j = i := by omega
                   rw [e]; exact (nm1_iff _).2 oM⟩
             · exact H
           · show l.length - (i + 1 : Nat) < l.length - i; omega
          ·
           repeat refine c_seq ?_
           refine c_no (by exact bF hc14) ?_; refine rG ?_; refine aZ ?_; refine eN ?_
           refine cR ?_
           refine e_ret1 (v := .bool false) Tryz.results40 rfl ?_
           refine ⟨_, rfl, ?_⟩
           refine ⟨?_, H⟩
           have e : nameMay l = false := Bool.eq_false_iff.2 fun h => by
             have h2 := (nameMay_iff l).1 h
             have h3 := (nm1_iff _).1 (h2.2.2.2.2 i oM)
             exact absurd h2 oM
           rw [e]
        ·
         refine l_no rfl rfl (by exact bF hc12) rfl ?_; refine l_no rfl rfl (by exact bF hc12) rfl ?_; refine lV (r_pick (b := false) (bF hc12)) ?_; refine aZ ?_; refine eN ?_
         refine qN ?_; refine rG ?_; refine mV ?_; refine lV (r_bin (a := (((l).getD i 0).toNat : Int)) (b := 45) rfl rfl (fun _ => b_eql)) ?_; refine aZ ?_; refine eN ?_
         by_cases hc15 : (((l).getD i 0).toNat : Int) = 45
         ·
          repeat refine c_seq ?_
          refine c_yes (by exact bT hc15) ?_; refine c_skip ?_; refine rG ?_; refine lV (r_bin (a := (i : Int)) (b := 1) rfl rfl (fun _ => b_add oM oM)) ?_; refine mV ?_; refine eN ?_
          refine round_end (i + 1) ?_ ?_ ?_
          · exact ⟨rfl, rfl, show VI ((i : Int) + 1) = VI ((i + 1 : Nat) : Int) from congrArg VI oM, trivial⟩
          · refine ⟨?_, ?_⟩
            · try dsimp only
              exact ⟨by omega, fun j hj => by
                by_cases hji : j < i
                · exact hall j hji
                · have e : j = i := by omega
                  rw [e]; exact (nm1_iff _).2 oM⟩
            · exact H
          · show l.length - (i + 1 : Nat) < l.length - i; omega
         ·
          repeat refine c_seq ?_
          refine c_no (by exact bF hc15) ?_; refine rG ?_; refine aZ ?_; refine eN ?_
          refine cR ?_
          refine e_ret1 (v := .bool false) Tryz.results40 rfl ?_
          refine ⟨_, rfl, ?_⟩
          refine ⟨?_, H⟩
          have e : nameMay l = false := Bool.eq_false_iff.2 fun h => by
            have h2 := (nameMay_iff l).1 h
            have h3 := (nm1_iff _).1 (h2.2.2.2.2 i oM)
            exact absurd h2 oM
          rw [e]
      ·
       repeat refine c_seq ?_
       refine c_no (by exact bF hc5) ?_; refine c_exit ?_; refine rG ?_; refine aZ ?_; refine eN ?_
       refine cR ?_
       refine e_ret1 (v := .bool true) Tryz.results40 rfl ?_
       refine ⟨_, rfl, ?_⟩
       refine ⟨?_, H⟩
       rw [(nameMay_iff l).2 ⟨by omega, by omega, by omega, by omega, fun j hj => hall j oM⟩]
abbrev Cav := UInt8 × Int
def cavE (c : Cav) : List Value := [V8 c.1, VI c.2]
/-- a token, as a world has it. -/
structure Tok where
  serial : UInt64
  tenant : List UInt8
  rights : UInt8
  from_ : Int
  until_ : Int
  cs : Gl Cav
  tag : List UInt8
def timeB (v : Int) : List UInt8 := be (zigU v).toNat 8
def headB (serial : UInt64) (tenant : List UInt8) (rights : UInt8) (from_ until_ : Int) : List UInt8 := be serial.toNat 8 ++ cnt tenant.length ++ tenant ++ [rights] ++ timeB from_ ++ timeB until_
def Tok.head (t : Tok) : List UInt8 := headB t.serial t.tenant t.rights t.from_ t.until_
theorem time_ret (w0 : World) (s : Sl) (hs : s.ok w0) (hm : s.len ≤ 1048576) (n : Int) :
    Ret Tryz.prog 73 [s.v, VI n] w0 fun v w' => ∃ a c, v = .slice (hd a) (s.len + 8) c ∧ Hp w0 w' [] [.own a (s.len + 8) c ((s.l ++ timeB n).map V8) 5 1] := by
  refine ret_mk Tryz.func73 rfl Tryz.ntmps73 (by simp) ?_
  have H := Hp.refl w0 []
  refine rG ?_; refine aZ ?_; refine eN ?_
  refine rG ?_; refine mV ?_; refine mV ?_; refine l_op (o_callR Tryz.func116 rfl rfl rfl (zig_ret _ (n)) ?_); rintro _ w ⟨rfl, Hc⟩
  replace H : Hp _ w _ ([]) := H.call Hc
  clear Hc
  refine l_op (o_callR Tryz.func70 rfl rfl rfl (put_ret _ s (hs.up H (fun _ => apart_nil _)) (zigU (n)) 8 oM oM (.inl rfl) (by (try dsimp only); omega)) ?_); rintro _ w ⟨a1, c2, rfl, Hc⟩
  replace H : Hp _ w _ ([.own a1 (s.len + 8) c2 ((s.l ++ be (zigU (n)).toNat 8).map V8) 5 1]) := H.call Hc
  clear Hc
  refine mV ?_; refine lV (r_ext rfl rfl) ?_; refine lV (r_ext rfl rfl) ?_; refine aZ ?_; refine aZ ?_; refine eN ?_
  refine rG ?_; refine mV ?_; refine aZ ?_; refine eN ?_
  refine cR ?_
  refine e_ret1 (v := .slice (hd a1) (s.len + 8) c2) Tryz.results73 rfl ?_
  refine ⟨_, rfl, ?_⟩
  exact ⟨_, _, rfl, H⟩
theorem head_ret (w0 : World) (t : Tok) (_hc : t.cs.ok cavE 2 w0) (_htag : t.tag.length = 32) (hn : t.tenant.length ≤ 65536) :
    Ret Tryz.prog 31 [.agg ([V64 t.serial, .string ⟨(t.tenant).toArray⟩, V8 t.rights, VI t.from_, VI t.until_, t.cs.v] ++ (t.tag).map V8).toArray] w0 fun v w' => ∃ a n c, v = .slice (hd a) n c ∧ n ≤ t.tenant.length + 64 ∧ t.head.length = n ∧ Hp w0 w' [] [.own a n c (t.head.map V8) 5 1] := by
  refine ret_mk Tryz.func31 rfl Tryz.ntmps31 (by simp) ?_
  have H := Hp.refl w0 []
  refine rG ?_; refine l_op (o_box (v := .agg ([V64 t.serial, .string ⟨(t.tenant).toArray⟩, V8 t.rights, VI t.from_, VI t.until_, t.cs.v] ++ (t.tag).map V8).toArray) H rfl (fun b1 w H hb1 => ?_)); replace H : Hp _ w _ ([.blk b1 ([V64 t.serial, .string ⟨(t.tenant).toArray⟩, V8 t.rights, VI t.from_, VI t.until_, t.cs.v] ++ (t.tag).map V8) 40]) := H
  refine aZ ?_; refine eN ?_
  refine rG ?_; refine lV (r_fa rfl fo40_0) ?_; refine lV (r_ld (v := V64 t.serial) H (i := 0) rfl rfl ct25 rfl) ?_; refine l_op (o_callR Tryz.func70 rfl rfl rfl (put0_ret _ (t.serial) 8 oM oM (.inl rfl)) ?_); rintro _ w ⟨a2, c3, rfl, Hc⟩
  replace H : Hp _ w _ ([_, .own a2 8 c3 ((be (t.serial).toNat 8).map V8) 5 1]) := H.call Hc
  clear Hc
  refine mV ?_; refine lV (r_ext rfl rfl) ?_; refine lV (r_ext rfl rfl) ?_; refine aZ ?_; refine aZ ?_; refine eN ?_
  refine rG ?_; refine mV ?_; refine lV (r_fa rfl fo40_1) ?_; refine lV (r_ld (v := .string ⟨(t.tenant).toArray⟩) H (i := 0) rfl rfl ct9 rfl) ?_; refine l_op (o_s2B (l := t.tenant) H Tryz.underlying9 Tryz.underlying33 Tryz.underlying5 rfl oM (fun b4 c5 ob6 w H hb4 hr7 => ?_)); replace H : Hp _ w _ ([_, _, .obj b4 ob6]) := H
  refine l_op (o_callR Tryz.func72 rfl rfl rfl (text_ret _ ⟨hd a2, 8, c3, be (t.serial).toNat 8⟩ (⟨some ⟨b4, 0, none⟩, (t.tenant).length, c5, t.tenant⟩ : Sl) (H.slOwn (i := 1) rfl) (hr7 _ (H.has (.obj b4 ob6) (by simp))) (by (try simp only []); omega) (by (try simp only []); omega)) ?_); rintro _ w ⟨a8, n9, c10, rfl, hn11, Hc⟩
  replace H : Hp _ w _ ([_, _, _, .own a8 n9 c10 ((be (t.serial).toNat 8 ++ cnt ((t.tenant).length) ++ t.tenant).map V8) 5 1]) := H.call Hc
  clear Hc
  try dsimp only at hn11
  refine mV ?_; refine lV (r_ext rfl rfl) ?_; refine lV (r_ext rfl rfl) ?_; refine aZ ?_; refine eN ?_
  repeat refine c_seq ?_
  refine heldS H (H.sub (.cons_cons _ (.cons_cons _ (.cons_cons _ (List.nil_sublist _))))) mixed fun H HS => ?_
  refine tK 0 rfl (fun w HS => r_mv) HS ?_; refine tK 1 rfl (fun w HS => r_fa rfl fo40_2) HS ?_; refine tK 2 rfl (fun w HS => r_ld (v := V8 t.rights) HS (i := 0) rfl rfl ct37 rfl) HS ?_; refine tK 5 rfl (fun w HS => r_fa rfl fo40_3) HS ?_; refine tK 6 rfl (fun w HS => r_ld (v := VI t.from_) HS (i := 0) rfl rfl ct2 rfl) HS ?_; refine tK 8 rfl (fun w HS => r_fa rfl fo40_4) HS ?_; refine tK 9 rfl (fun w HS => r_ld (v := VI t.until_) HS (i := 0) rfl rfl ct2 rfl) HS ?_; refine tU 3 rfl (o_bslB ([t.rights]) H sl33 zc5 rfl rfl (by decide) (fun b12 w H hb12 => ?_)); replace H : Hp _ w _ ([_, _, _, _, .own (some b12) 1 1 (([t.rights]).map V8) 5 1]) := H
  replace HS := H.sub (.cons_cons _ (.cons_cons _ (.cons_cons _ (List.nil_sublist _))))
  refine ⟨HS, ?_⟩
  refine tU 4 rfl (o_appB (s := ⟨hd (some b12), 1, 1, [t.rights]⟩) (l' := be (t.serial).toNat 8 ++ cnt ((t.tenant).length) ++ t.tenant ++ ([t.rights])) (len' := n9 + 1) rfl rfl H (i := 3) rfl sl33 Tryz.underlying33 rfl rfl (H.slOwn (i := 4) rfl) oM (fun a13 c14 w H => ?_)); replace H : Hp _ w _ ([_, _, _, .own a13 (n9 + 1) c14 ((be (t.serial).toNat 8 ++ cnt ((t.tenant).length) ++ t.tenant ++ ([t.rights])).map V8) 5 1, _]) := H
  replace HS := H.sub (.cons_cons _ (.cons_cons _ (.cons_cons _ (List.nil_sublist _))))
  refine ⟨HS, ?_⟩
  refine tU 7 rfl (o_callR Tryz.func73 rfl rfl rfl (time_ret _ ⟨hd a13, n9 + 1, c14, be (t.serial).toNat 8 ++ cnt ((t.tenant).length) ++ t.tenant ++ ([t.rights])⟩ (H.slOwn (i := 3) rfl) (by (try simp only []); omega) (t.from_)) ?_); rintro _ w ⟨a15, c16, rfl, Hc⟩
  replace H : Hp _ w _ ([_, _, _, _, _, .own a15 (n9 + 1 + 8) c16 ((be (t.serial).toNat 8 ++ cnt ((t.tenant).length) ++ t.tenant ++ ([t.rights]) ++ timeB (t.from_)).map V8) 5 1]) := H.call Hc
  clear Hc
  replace HS := H.sub (.cons_cons _ (.cons_cons _ (.cons_cons _ (List.nil_sublist _))))
  refine ⟨HS, ?_⟩
  refine tU 10 rfl (o_callR Tryz.func73 rfl rfl rfl (time_ret _ ⟨hd a15, n9 + 1 + 8, c16, be (t.serial).toNat 8 ++ cnt ((t.tenant).length) ++ t.tenant ++ ([t.rights]) ++ timeB (t.from_)⟩ (H.slOwn (i := 5) rfl) (by (try simp only []); omega) (t.until_)) ?_); rintro _ w ⟨a17, c18, rfl, Hc⟩
  replace H : Hp _ w _ ([_, _, _, _, _, _, .own a17 (n9 + 1 + 8 + 8) c18 ((be (t.serial).toNat 8 ++ cnt ((t.tenant).length) ++ t.tenant ++ ([t.rights]) ++ timeB (t.from_) ++ timeB (t.until_)).map V8) 5 1]) := H.call Hc
  clear Hc
  replace HS := H.sub (.cons_cons _ (.cons_cons _ (.cons_cons _ (List.nil_sublist _))))
  refine ⟨HS, ?_⟩
  refine tK 11 rfl (fun w HS => r_as) HS ?_; refine t_done (by kernel_rfl) ?_
  clear HS
  refine cR ?_
  refine e_ret1 (v := .slice (hd a17) (n9 + 1 + 8 + 8) c18) Tryz.results31 rfl ?_
  refine ⟨_, rfl, ?_⟩
  have e : be (t.serial).toNat 8 ++ cnt ((t.tenant).length) ++ t.tenant ++ ([t.rights]) ++ timeB (t.from_) ++ timeB (t.until_) = t.head := by simp [Tok.head, headB]
  rw [e] at H
  have hh := (H.ownLen (i := 6) rfl).1
  exact ⟨_, _, _, rfl, by omega, by simpa using hh, H.sub (.cons _ (.cons _ (.cons _ (.cons _ (.cons _ (.cons _ (.cons_cons _ (List.nil_sublist _))))))))⟩
end Go.Proofs.YtmiabahejnjhiaaGreatDoor
namespace Go.Proofs.YtmiabahejnjhiaaGreatDoor
open Go
set_option maxRecDepth 100000
theorem b_neg_i64 {P : Program} {w : World} {a : Int} (h1 : -9223372036854775808 ≤ -a) (h2 : -a ≤ 9223372036854775807) : (Op.unary .neg (VI a)).run P w = .ok (VI (-a)) w := by
  have := wrap_i64 (n := -a) h1 h2
  simp [Op.unary, Op.intArith, this]
theorem zig_pos (v : Int) (h0 : 0 ≤ v) (h1 : v ≤ 9223372036854775807) : zigU v = 2 * UInt64.ofInt v := by
  have e : v / 2 ^ (63 : Int).toNat = 0 := by
    have : (2 : Int) ^ (63 : Int).toNat = 9223372036854775808 := rfl
    rw [this]; omega
  have z : UInt64.ofInt 0 = 0 := rfl
  rw [zigU, e, z, UInt64.xor_zero]
  apply UInt64.toNat_inj.1
  have e1 : (UInt64.ofNat 1).toNat % 64 = 1 := rfl
  have e2 : (2 : UInt64).toNat = 2 := rfl
  rw [UInt64.toNat_shiftLeft, UInt64.toNat_mul, e1, e2, Nat.shiftLeft_eq, Nat.mul_comm]
theorem xor_ones (x : UInt64) : x ^^^ UInt64.ofInt (-1) = ~~~x := by
  apply UInt64.toBitVec_inj.1
  have : (UInt64.ofInt (-1)).toBitVec = BitVec.allOnes 64 := by decide
  rw [UInt64.toBitVec_xor, this, BitVec.xor_allOnes, UInt64.toBitVec_not]
theorem zig_neg (v : Int) (h0 : v < 0) (h1 : -9223372036854775808 ≤ v) : zigU v = 2 * UInt64.ofInt (-(v + 1)) + 1 := by
  have e : v / 2 ^ (63 : Int).toNat = -1 := by
    have : (2 : Int) ^ (63 : Int).toNat = 9223372036854775808 := rfl
    rw [this]; omega
  rw [zigU, e, xor_ones]
  apply UInt64.toNat_inj.1
  have e1 : (UInt64.ofNat 1).toNat % 64 = 1 := rfl
  have e2 : (2 : UInt64).toNat = 2 := rfl
  have e3 : (1 : UInt64).toNat = 1 := rfl
  have n1 : (UInt64.ofInt v).toNat = (v % 18446744073709551616).toNat := by simp only [UInt64.ofInt, UInt64.toNat_ofNat']; omega
  have n2 : (UInt64.ofInt (-(v + 1))).toNat = (-(v + 1)).toNat := by simp only [UInt64.ofInt, UInt64.toNat_ofNat']; omega
  rw [UInt64.toNat_not, UInt64.toNat_shiftLeft, UInt64.toNat_add, UInt64.toNat_mul, e1, e2, e3, Nat.shiftLeft_eq, n1, n2]
  simp only [UInt64.size]
  omega
theorem zig1_ret (w0 : World) (n : Int) (h1 : -9223372036854775808 ≤ n) (h2 : n ≤ 9223372036854775807) :
    Ret Tryz.prog 28 [VI n] w0 fun v w' => v = V64 (zigU n) ∧ Hp w0 w' [] [] := by
  refine ret_mk Tryz.func28 rfl Tryz.ntmps28 (by simp) ?_
  have H := Hp.refl w0 []
  refine rG ?_; refine lV (r_asV (c64 0 (by decide))) ?_; refine eN ?_
  refine rG ?_; refine mV ?_; refine lV (r_bin (a := n) (b := 0) rfl rfl (fun _ => b_lss)) ?_; refine eN ?_
  by_cases hc1 : n < 0
  ·
   repeat refine c_seq ?_
   refine c_yes (by exact bT hc1) ?_; refine rG ?_; refine mV ?_; refine lV (r_bin (a := n) (b := 1) rfl rfl (fun _ => b_add oM oM)) ?_; refine lV (r_un (a := n + 1) rfl (fun _ => b_neg_i64 oM oM)) ?_; refine lV (r_conv Tryz.underlying2 Tryz.underlying25 rfl (w_u64_I _)) ?_; refine lV (r_bin (c64 2 (by decide)) rfl (fun _ => b_mul_u64)) ?_; refine lV (r_bin rfl (c64 1 (by decide)) (fun _ => b_add_u64)) ?_; refine aZ ?_; refine eN ?_
   refine cR ?_
   refine e_ret1 (v := V64 (((2 : UInt64) * (UInt64.ofInt (-(n + 1)))) + (1 : UInt64))) Tryz.results28 rfl ?_
   refine ⟨_, rfl, ?_⟩
   refine ⟨?_, H⟩
   rw [zig_neg n oM oM]
  ·
   repeat refine c_seq ?_
   refine c_no (by exact bF hc1) ?_; refine c_skip ?_; refine rG ?_; refine mV ?_; refine lV (r_conv Tryz.underlying2 Tryz.underlying25 rfl (w_u64_I _)) ?_; refine lV (r_bin (c64 2 (by decide)) rfl (fun _ => b_mul_u64)) ?_; refine aZ ?_; refine eN ?_
   refine cR ?_
   refine e_ret1 (v := V64 ((2 : UInt64) * (UInt64.ofInt n))) Tryz.results28 rfl ?_
   refine ⟨_, rfl, ?_⟩
   refine ⟨?_, H⟩
   rw [zig_pos n oM oM]
theorem cnt1_byte (v : UInt64) : (v % 128 + 128).toUInt8 = v.toUInt8 ||| 128 := by
  apply UInt8.toNat_inj.1
  have e1 : (128 : UInt64).toNat = 128 := rfl
  have e2 : (128 : UInt8).toNat = 128 := rfl
  rw [UInt64.toNat_toUInt8, UInt64.toNat_add, UInt64.toNat_mod, UInt8.toNat_or, UInt64.toNat_toUInt8, e1, e2]
  have h : v.toNat % 256 ||| 128 = v.toNat % 128 + 128 := by
    have hx : v.toNat % 256 = (v.toNat % 256 / 128) * 128 + v.toNat % 128 := by omega
    have hb : v.toNat % 256 / 128 = 0 ∨ v.toNat % 256 / 128 = 1 := by omega
    have hlt : v.toNat % 128 < 2 ^ 7 := Nat.mod_lt _ (by decide)
    have key : v.toNat % 128 ||| 128 = 128 + v.toNat % 128 := by
      rw [Nat.or_comm]; exact (Nat.shiftLeft_add_eq_or_of_lt hlt 1).symm
    rcases hb with h0 | h0
    · rw [hx, h0, Nat.zero_mul, Nat.zero_add, key]; omega
    · have key2 : (128 + v.toNat % 128) ||| 128 = 128 + v.toNat % 128 := by
        rw [← key, Nat.or_assoc, Nat.or_self]
      rw [hx, h0, Nat.one_mul, key2]; omega
  rw [h]
  omega
theorem div128 (v : UInt64) : (v / 128).toNat = v.toNat / 128 := by rw [UInt64.toNat_div]; rfl
theorem count1_ret (w0 : World) (s : Sl) (hs : s.ok w0) (u : UInt64) (hm : s.len ≤ 1048576) :
    Ret Tryz.prog 69 [s.v, V64 u] w0 fun v w' => ∃ a n c, v = .slice (hd a) n c ∧ n ≤ s.len + 11 ∧ Hp w0 w' [] [.own a n c ((s.l ++ cnt u.toNat).map V8) 5 1] := by
  refine ret_mk Tryz.func69 rfl Tryz.ntmps69 (by simp) ?_
  have H := Hp.refl w0 []
  refine rG ?_; refine aZ ?_; refine eN ?_
  refine rG ?_; refine l_op (o_bslB (([] : List UInt8)) H sl33 zc5 rfl rfl (by decide) (fun b1 w H hb1 => ?_)); replace H : Hp _ w _ ([.own (some b1) 0 0 ((([] : List UInt8)).map V8) 5 1]) := H
  refine mV ?_; refine l_op (o_appB (s := s) (l' := s.l) (len' := s.len) rfl (Nat.zero_add _) H (i := 0) rfl sl33 Tryz.underlying33 rfl rfl (hs.up H (fun _ => apart_nil _)) oM (fun a2 c3 w H => ?_)); replace H : Hp _ w _ ([.own a2 s.len c3 ((s.l).map V8) 5 1]) := H
  refine aZ ?_; refine eN ?_
  refine qB ?_; repeat refine c_seq ?_
  refine c_loop5 (fun (x : UInt64) (l : List UInt8) (a : Option Nat) (ln : Nat) (c : Nat) => [(1, V64 x), (5, .slice (hd a) ln c)])
    (fun (x : UInt64) (l : List UInt8) (a : Option Nat) (ln : Nat) (c : Nat) w => (l ++ cnt x.toNat = s.l ++ cnt u.toNat ∧ ln ≤ s.len + 10 ∧ x.toNat < 2 ^ (64 - 7 * (ln - s.len)) ∧ s.len ≤ ln) ∧ Hp w0 w [] ([.own a ln c ((l).map V8) 5 1]))
    (fun (x : UInt64) (l : List UInt8) (a : Option Nat) (ln : Nat) (c : Nat) => x.toNat) u s.l a2 s.len c3 ⟨rfl, rfl, trivial⟩ ⟨⟨rfl, by omega, by rw [Nat.sub_self]; exact u.toNat_lt, Nat.le_refl _⟩, H⟩ ?_
  clear H
  rintro x l a ln c τ w ⟨⟨hl, hln, hx, hge⟩, H⟩
  refine rG ?_; refine mV ?_; refine lV (r_bin (a := (x.toNat : Int)) (b := 128) rfl rfl (fun _ => b_geq)) ?_; refine eN ?_
  by_cases hc4 : 128 ≤ (x.toNat : Int)
  ·
   repeat refine c_seq ?_
   refine c_yes (by exact bT hc4) ?_; refine c_skip ?_; refine qB ?_; refine rG ?_; refine mV ?_; refine mV ?_; refine lV (r_bin rfl (c64 128 (by decide)) (fun _ => b_rem_u64 (by decide))) ?_; refine lV (r_bin rfl (c64 128 (by decide)) (fun _ => b_add_u64)) ?_; refine lV (r_conv Tryz.underlying25 Tryz.underlying5 rfl (w_u8_64 _)) ?_; refine l_op (o_bslB ([((x % (128 : UInt64)) + (128 : UInt64)).toUInt8]) H sl33 zc5 rfl rfl (by decide) (fun b5 w H hb5 => ?_)); replace H : Hp _ w _ ([_, .own (some b5) 1 1 (([((x % (128 : UInt64)) + (128 : UInt64)).toUInt8]).map V8) 5 1]) := H
   refine l_op (o_appB (s := ⟨hd (some b5), 1, 1, [((x % (128 : UInt64)) + (128 : UInt64)).toUInt8]⟩) (l' := l ++ ([((x % (128 : UInt64)) + (128 : UInt64)).toUInt8])) (len' := ln + 1) rfl rfl H (i := 0) rfl sl33 Tryz.underlying33 rfl rfl (H.slOwn (i := 1) rfl) oM (fun a6 c7 w H => ?_)); replace H : Hp _ w _ ([.own a6 (ln + 1) c7 ((l ++ ([((x % (128 : UInt64)) + (128 : UInt64)).toUInt8])).map V8) 5 1, _]) := H
   refine aZ ?_; refine eN ?_
   refine rG ?_; refine mV ?_; refine lV (r_bin rfl (c64 128 (by decide)) (fun _ => b_quo_u64 (by decide))) ?_; refine aZ ?_; refine eN ?_
   have hb7 := cnt_bound x.toNat ln s.len hx oM hge hln
   refine round_end (x / (128 : UInt64), l ++ ([((x % (128 : UInt64)) + (128 : UInt64)).toUInt8]), a6, ln + 1, c7) ?_ ?_ ?_
   · exact ⟨show V64 (x / (128 : UInt64)) = V64 (x / (128 : UInt64) : UInt64) from congrArg V64 rfl, rfl, trivial⟩
   · refine ⟨?_, ?_⟩
     · try dsimp only
       exact ⟨by rw [cnt_more x oM, shr7, ← div128, ← cnt1_byte] at hl; simpa using hl, by omega, by rw [div128]; exact hb7.2, by omega⟩
     · exact H.sub (.cons_cons _ (List.nil_sublist _))
   · show (x / 128).toNat < x.toNat; rw [div128]; omega
  ·
   repeat refine c_seq ?_
   refine c_no (by exact bF hc4) ?_; refine c_exit ?_; refine rG ?_; refine mV ?_; refine mV ?_; refine lV (r_conv Tryz.underlying25 Tryz.underlying5 rfl (w_u8_64 _)) ?_; refine l_op (o_bslB ([x.toUInt8]) H sl33 zc5 rfl rfl (by decide) (fun b8 w H hb8 => ?_)); replace H : Hp _ w _ ([_, .own (some b8) 1 1 (([x.toUInt8]).map V8) 5 1]) := H
   refine l_op (o_appB (s := ⟨hd (some b8), 1, 1, [x.toUInt8]⟩) (l' := l ++ ([x.toUInt8])) (len' := ln + 1) rfl rfl H (i := 0) rfl sl33 Tryz.underlying33 rfl rfl (H.slOwn (i := 1) rfl) oM (fun a9 c10 w H => ?_)); replace H : Hp _ w _ ([.own a9 (ln + 1) c10 ((l ++ ([x.toUInt8])).map V8) 5 1, _]) := H
   refine aZ ?_; refine eN ?_
   refine cR ?_
   refine e_ret1 (v := .slice (hd a9) (ln + 1) c10) Tryz.results69 rfl ?_
   refine ⟨_, rfl, ?_⟩
   refine ⟨_, _, _, rfl, by omega, ?_⟩
   rw [cnt_less x oM] at hl
   rw [← hl]
   exact H.sub (.cons_cons _ (List.nil_sublist _))
theorem text1_ret (w0 : World) (s u : Sl) (hs : s.ok w0) (hu : u.ok w0) (hm : s.len ≤ 1048576) (hn : u.len ≤ 65536) :
    Ret Tryz.prog 27 [s.v, u.v] w0 fun v w' => ∃ a n c, v = .tuple #[.slice (hd a) n c, VI 0] ∧ n ≤ s.len + 11 + u.len ∧ Hp w0 w' [] [.own a n c ((s.l ++ cnt u.len ++ u.l).map V8) 5 1] := by
  refine ret_mk Tryz.func27 rfl Tryz.ntmps27 (by simp) ?_
  have H := Hp.refl w0 []
  refine rG ?_; refine aZ ?_; refine aZ ?_; refine eN ?_
  refine rG ?_; refine mV ?_; refine lV (r_lens el33 rfl) ?_; refine lV (r_bin (a := (u.len : Int)) (b := 65536) rfl rfl (fun _ => b_gtrB false (decide_eq_false oM))) ?_; refine eN ?_
  refine qN ?_; refine c_skip ?_; refine rG ?_; refine mV ?_; refine mV ?_; refine lV (r_lens el33 rfl) ?_; refine lV (r_conv (v := ((UInt64.ofNat u.len).toNat : Int)) Tryz.underlying3 Tryz.underlying25 rfl (w_u64_N u.len oM)) ?_; refine l_op (o_callR Tryz.func69 rfl rfl rfl (count1_ret _ s (hs.up H (fun _ => apart_nil _)) (UInt64.ofNat u.len) (by (try simp only [Sl.cut]); omega)) ?_); rintro _ w ⟨a1, n2, c3, rfl, hn4, Hc⟩
  replace H : Hp _ w _ ([.own a1 n2 c3 ((s.l ++ cnt (UInt64.ofNat u.len).toNat).map V8) 5 1]) := H.call Hc
  clear Hc
  try dsimp only at hn4
  refine mV ?_; refine l_op (o_appB (s := u) (l' := s.l ++ cnt (UInt64.ofNat u.len).toNat ++ u.l) (len' := n2 + u.len) rfl rfl H (i := 0) rfl sl33 Tryz.underlying33 rfl rfl (hu.up H (fun _ => apart_nil _)) oM (fun a5 c6 w H => ?_)); replace H : Hp _ w _ ([.own a5 (n2 + u.len) c6 ((s.l ++ cnt (UInt64.ofNat u.len).toNat ++ u.l).map V8) 5 1]) := H
  refine aZ ?_; refine aZ ?_; refine eN ?_
  refine cR ?_
  refine e_retN (vs := [.slice (hd a5) (n2 + u.len) c6, VI 0]) _ Tryz.results27 rfl (resT (v := .slice (hd a5) (n2 + u.len) c6) rfl (resT (v := VI 0) rfl (resZ))) ?_
  refine ⟨_, rfl, ?_⟩
  refine ⟨_, _, _, rfl, by omega, ?_⟩
  rw [ofNat_nat _ oM] at H
  exact H
end Go.Proofs.YtmiabahejnjhiaaGreatDoor
namespace Go.Proofs.YtmiabahejnjhiaaGreatDoor
open Go
set_option maxRecDepth 100000
/-- a number of both signs. -/
def zagU (u : UInt64) : Int := if u.toNat % 2 = 1 then -((u.toNat / 2 : Nat) : Int) - 1 else ((u.toNat / 2 : Nat) : Int)
end Go.Proofs.YtmiabahejnjhiaaGreatDoor
namespace Go.Proofs.YtmiabahejnjhiaaGreatDoor
open Go
set_option maxRecDepth 100000
theorem shr1 (u : UInt64) : (u >>> UInt64.ofNat 1).toNat = u.toNat / 2 := by
  have e : (UInt64.ofNat 1).toNat % 64 = 1 := rfl
  rw [UInt64.toNat_shiftRight, e, Nat.shiftRight_eq_div_pow]
theorem and1 (u : UInt64) : (u &&& 1).toNat = u.toNat % 2 := by
  have e : (1 : UInt64).toNat = 1 := rfl
  rw [UInt64.toNat_and, e, Nat.and_one_is_mod]
theorem b_zag {P : Program} {w : World} {t : TypeId} (u : UInt64) : (binOp .xor t (VI ((u.toNat / 2 : Nat) : Int)) (VI (-((u.toNat % 2 : Nat) : Int)))).run P w = .ok (VI (zagU u)) w := by
  have hu := u64_lt u
  have hn : (BitVec.ofInt 64 ((u.toNat / 2 : Nat) : Int)).toNat = u.toNat / 2 := by
    rw [BitVec.toNat_ofInt]; omega
  rw [b_xor_i64]
  by_cases h : u.toNat % 2 = 1
  · rw [h, zagU, if_pos h]
    have e : BitVec.ofInt 64 (-((1 : Nat) : Int)) = BitVec.allOnes 64 := by decide
    rw [e, BitVec.xor_allOnes, BitVec.toNat_not, hn, IntKind.wrap_i64]
    exact congrArg (fun z : Int => Result.ok (VI z) w) oM
  · have h0 : u.toNat % 2 = 0 := by omega
    rw [h0, zagU, if_neg h]
    have e : BitVec.ofInt 64 (-((0 : Nat) : Int)) = 0#64 := by decide
    rw [e, BitVec.xor_zero, hn, IntKind.wrap_i64]
    exact congrArg (fun z : Int => Result.ok (VI z) w) oM
theorem zag_ret (w0 : World) (u : UInt64) :
    Ret Tryz.prog 76 [V64 u] w0 fun v w' => v = VI (zagU u) ∧ Hp w0 w' [] [] := by
  refine ret_mk Tryz.func76 rfl Tryz.ntmps76 (by simp) ?_
  have H := Hp.refl w0 []
  refine rG ?_; refine aZ ?_; refine eN ?_
  refine rG ?_; refine mV ?_; refine lV (r_shift rfl rfl (.inr rfl) (fun _ => b_shr_u64N 1 oM)) ?_; refine lV (r_conv (v := ((u.toNat / 2 : Nat) : Int)) Tryz.underlying25 Tryz.underlying2 rfl ((congrArg (fun m : Nat => IntKind.i64.wrap (m : Int)) (shr1 u)).trans (wrap_i64 oM (by have := u64_lt u; omega)))) ?_; refine mV ?_; refine lV (r_bin rfl (c64 1 (by decide)) (fun _ => b_and_u64)) ?_; refine lV (r_conv (v := ((u.toNat % 2 : Nat) : Int)) Tryz.underlying25 Tryz.underlying2 rfl ((congrArg (fun m : Nat => IntKind.i64.wrap (m : Int)) (and1 u)).trans (wrap_i64 oM (by have := u64_lt u; omega)))) ?_; refine lV (r_un (a := ((u.toNat % 2 : Nat) : Int)) rfl (fun _ => b_neg_i64 oM oM)) ?_; refine lV (r_bin (a := ((u.toNat / 2 : Nat) : Int)) (b := -((u.toNat % 2 : Nat) : Int)) rfl rfl (fun _ => b_zag u)) ?_; refine aZ ?_; refine eN ?_
  refine cR ?_
  refine e_ret1 (v := VI (zagU u)) Tryz.results76 rfl ?_
  refine ⟨_, rfl, ?_⟩
  exact ⟨rfl, H⟩
end Go.Proofs.YtmiabahejnjhiaaGreatDoor
namespace Go.Proofs.YtmiabahejnjhiaaGreatDoor
open Go
set_option maxRecDepth 100000
/-- a slice from its n-th byte on. -/
def Sl.tl (x : Sl) (n : Nat) : Sl := ⟨sa x.a n x.cap 1, x.len - n, x.cap - n, x.l.drop n⟩
theorem tl_cut (x : Sl) (n : Nat) (h : x.l.length = x.len) : x.cut n x.len x.cap = x.tl n := by
  rw [Sl.cut, Sl.tl, List.take_of_length_le (by simp; omega)]
theorem Sl.ok.tl {w : World} {x : Sl} (hx : x.ok w) {n : Nat} (h : n ≤ x.len) : (x.tl n).ok w := by
  rw [← tl_cut x n hx.ln]; exact hx.cut h (Nat.le_refl _) hx.le (Nat.le_refl _)
theorem r_slTl {P : Program} {n : Nat} {σ : Nat → Value} {w : World} {ty : TypeId} {pos : String} {aft : Array Edge} {g : Option (Nat × Bool)} {d : Nat} {t : TypeId} {x : Operand} {lo hi mx : Option Operand} {s : Sl} (l : Nat) {lv hv mv : Option Value} (hl0 : s.l.length = s.len) (hx : ev n σ x = s.v) (ht : eltOf P t = some 1)
    (hl : lo.map (ev n σ) = lv) (hh : hi.map (ev n σ) = hv) (hm : mx.map (ev n σ) = mv) (hb : ∀ w, (Instr.sliceBounds true s.len s.cap lv hv mv).run P w = .ok (l, s.len, s.cap) w) :
    (execOp (ev n σ) ⟨some d, .slice t x lo hi mx, ty, pos, aft, g⟩).run P w = .ok (.value (s.tl l).v) w := by
  rw [← tl_cut s l hl0]
  exact r_slS l s.len s.cap hx ht hl hh hm hb
end Go.Proofs.YtmiabahejnjhiaaGreatDoor
namespace Go.Proofs.YtmiabahejnjhiaaGreatDoor
open Go
set_option maxRecDepth 100000
/-- numbers of a token are such as int64 has. -/
structure Tok.bd (t : Tok) : Prop where
  f : -9223372036854775808 ≤ t.from_ ∧ t.from_ ≤ 9223372036854775807
  u : -9223372036854775808 ≤ t.until_ ∧ t.until_ ≤ 9223372036854775807
  cs : ∀ c ∈ t.cs.l, -9223372036854775808 ≤ c.2 ∧ c.2 ≤ 9223372036854775807
theorem head14_ret (w0 : World) (t : Tok) (_hc : t.cs.ok cavE 2 w0) (_htag : t.tag.length = 32) (hn : t.tenant.length ≤ 65536) (hb : t.bd) :
    Ret Tryz.prog 14 [.agg ([V64 t.serial, .string ⟨(t.tenant).toArray⟩, V8 t.rights, VI t.from_, VI t.until_, t.cs.v] ++ (t.tag).map V8).toArray] w0 fun v w' => ∃ a n c, v = .slice (hd a) n c ∧ n ≤ t.tenant.length + 64 ∧ t.head.length = n ∧ Hp w0 w' [] [.own a n c (t.head.map V8) 5 1] := by
  refine ret_mk Tryz.func14 rfl Tryz.ntmps14 (by simp) ?_
  have H := Hp.refl w0 []
  have hbf := hb.f
  have hbu := hb.u
  refine rG ?_; refine l_op (o_box (v := .agg ([V64 t.serial, .string ⟨(t.tenant).toArray⟩, V8 t.rights, VI t.from_, VI t.until_, t.cs.v] ++ (t.tag).map V8).toArray) H rfl (fun b1 w H hb1 => ?_)); replace H : Hp _ w _ ([.blk b1 ([V64 t.serial, .string ⟨(t.tenant).toArray⟩, V8 t.rights, VI t.from_, VI t.until_, t.cs.v] ++ (t.tag).map V8) 40]) := H
  refine aZ ?_; refine eN ?_
  refine rG ?_; refine lV (r_fa rfl fo40_0) ?_; refine lV (r_ld (v := V64 t.serial) H (i := 0) rfl rfl ct25 rfl) ?_; refine l_op (o_callR Tryz.func25 rfl rfl rfl (eight_ret _ (t.serial)) ?_); rintro _ w ⟨a2, c3, rfl, Hc⟩
  replace H : Hp _ w _ ([_, .own a2 8 c3 ((be (t.serial).toNat 8).map V8) 5 1]) := H.call Hc
  clear Hc
  refine aZ ?_; refine eN ?_
  refine rG ?_; refine mV ?_; refine lV (r_fa rfl fo40_1) ?_; refine lV (r_ld (v := .string ⟨(t.tenant).toArray⟩) H (i := 0) rfl rfl ct9 rfl) ?_; refine l_op (o_s2B (l := t.tenant) H Tryz.underlying9 Tryz.underlying33 Tryz.underlying5 rfl oM (fun b4 c5 ob6 w H hb4 hr7 => ?_)); replace H : Hp _ w _ ([_, _, .obj b4 ob6]) := H
  refine l_op (o_callR Tryz.func27 rfl rfl rfl (text1_ret _ ⟨hd a2, 8, c3, be (t.serial).toNat 8⟩ (⟨some ⟨b4, 0, none⟩, (t.tenant).length, c5, t.tenant⟩ : Sl) (H.slOwn (i := 1) rfl) (hr7 _ (H.has (.obj b4 ob6) (by simp))) (by (try simp only []); omega) (by (try simp only []); omega)) ?_); rintro _ w ⟨a8, n9, c10, rfl, hn11, Hc⟩
  replace H : Hp _ w _ ([_, _, _, .own a8 n9 c10 ((be (t.serial).toNat 8 ++ cnt ((t.tenant).length) ++ t.tenant).map V8) 5 1]) := H.call Hc
  clear Hc
  try dsimp only at hn11
  refine mV ?_; refine lV (r_ext rfl rfl) ?_; refine lV (r_ext rfl rfl) ?_; refine aZ ?_; refine eN ?_
  refine rG ?_; refine mV ?_; refine lV (r_fa rfl fo40_2) ?_; refine lV (r_ld (v := V8 t.rights) H (i := 0) rfl rfl ct37 rfl) ?_; refine l_op (o_bslB ([t.rights]) H sl33 zc5 rfl rfl (by decide) (fun b12 w H hb12 => ?_)); replace H : Hp _ w _ ([_, _, _, _, .own (some b12) 1 1 (([t.rights]).map V8) 5 1]) := H
  refine l_op (o_appB (s := ⟨hd (some b12), 1, 1, [t.rights]⟩) (l' := be (t.serial).toNat 8 ++ cnt ((t.tenant).length) ++ t.tenant ++ ([t.rights])) (len' := n9 + 1) rfl rfl H (i := 3) rfl sl33 Tryz.underlying33 rfl rfl (H.slOwn (i := 4) rfl) oM (fun a13 c14 w H => ?_)); replace H : Hp _ w _ ([_, _, _, .own a13 (n9 + 1) c14 ((be (t.serial).toNat 8 ++ cnt ((t.tenant).length) ++ t.tenant ++ ([t.rights])).map V8) 5 1, _]) := H
  refine aZ ?_; refine eN ?_
  refine rG ?_; refine mV ?_; refine lV (r_fa rfl fo40_3) ?_; refine lV (r_ld (v := VI t.from_) H (i := 0) rfl rfl ct2 rfl) ?_; refine l_op (o_callR Tryz.func28 rfl rfl rfl (zig1_ret _ (t.from_) oM oM) ?_); rintro _ w ⟨rfl, Hc⟩
  replace H : Hp _ w _ ([_, _, _, _, _]) := H.call Hc
  clear Hc
  refine l_op (o_callR Tryz.func25 rfl rfl rfl (eight_ret _ (zigU (t.from_))) ?_); rintro _ w ⟨a15, c16, rfl, Hc⟩
  replace H : Hp _ w _ ([_, _, _, _, _, .own a15 8 c16 ((be (zigU (t.from_)).toNat 8).map V8) 5 1]) := H.call Hc
  clear Hc
  refine l_op (o_appB (s := ⟨hd a15, 8, c16, be (zigU (t.from_)).toNat 8⟩) (l' := be (t.serial).toNat 8 ++ cnt ((t.tenant).length) ++ t.tenant ++ ([t.rights]) ++ (be (zigU (t.from_)).toNat 8)) (len' := n9 + 1 + 8) rfl rfl H (i := 3) rfl sl33 Tryz.underlying33 rfl rfl (H.slOwn (i := 5) rfl) oM (fun a17 c18 w H => ?_)); replace H : Hp _ w _ ([_, _, _, .own a17 (n9 + 1 + 8) c18 ((be (t.serial).toNat 8 ++ cnt ((t.tenant).length) ++ t.tenant ++ ([t.rights]) ++ (be (zigU (t.from_)).toNat 8)).map V8) 5 1, _, _]) := H
  refine aZ ?_; refine eN ?_
  refine rG ?_; refine mV ?_; refine lV (r_fa rfl fo40_4) ?_; refine lV (r_ld (v := VI t.until_) H (i := 0) rfl rfl ct2 rfl) ?_; refine l_op (o_callR Tryz.func28 rfl rfl rfl (zig1_ret _ (t.until_) oM oM) ?_); rintro _ w ⟨rfl, Hc⟩
  replace H : Hp _ w _ ([_, _, _, _, _, _]) := H.call Hc
  clear Hc
  refine l_op (o_callR Tryz.func25 rfl rfl rfl (eight_ret _ (zigU (t.until_))) ?_); rintro _ w ⟨a19, c20, rfl, Hc⟩
  replace H : Hp _ w _ ([_, _, _, _, _, _, .own a19 8 c20 ((be (zigU (t.until_)).toNat 8).map V8) 5 1]) := H.call Hc
  clear Hc
  refine l_op (o_appB (s := ⟨hd a19, 8, c20, be (zigU (t.until_)).toNat 8⟩) (l' := be (t.serial).toNat 8 ++ cnt ((t.tenant).length) ++ t.tenant ++ ([t.rights]) ++ (be (zigU (t.from_)).toNat 8) ++ (be (zigU (t.until_)).toNat 8)) (len' := n9 + 1 + 8 + 8) rfl rfl H (i := 3) rfl sl33 Tryz.underlying33 rfl rfl (H.slOwn (i := 6) rfl) oM (fun a21 c22 w H => ?_)); replace H : Hp _ w _ ([_, _, _, .own a21 (n9 + 1 + 8 + 8) c22 ((be (t.serial).toNat 8 ++ cnt ((t.tenant).length) ++ t.tenant ++ ([t.rights]) ++ (be (zigU (t.from_)).toNat 8) ++ (be (zigU (t.until_)).toNat 8)).map V8) 5 1, _, _, _]) := H
  refine aZ ?_; refine eN ?_
  refine cR ?_
  refine e_ret1 (v := .slice (hd a21) (n9 + 1 + 8 + 8) c22) Tryz.results14 rfl ?_
  refine ⟨_, rfl, ?_⟩
  have e : be (t.serial).toNat 8 ++ cnt ((t.tenant).length) ++ t.tenant ++ ([t.rights]) ++ (be (zigU (t.from_)).toNat 8) ++ (be (zigU (t.until_)).toNat 8) = t.head := by simp [Tok.head, headB, timeB]
  rw [e] at H
  have hh := (H.ownLen (i := 3) rfl).1
  exact ⟨_, _, _, rfl, by omega, by simpa using hh, H.sub (.cons _ (.cons _ (.cons _ (.cons_cons _ (List.nil_sublist _)))))⟩
end Go.Proofs.YtmiabahejnjhiaaGreatDoor
namespace Go.Proofs.YtmiabahejnjhiaaGreatDoor
open Go
set_option maxRecDepth 100000
structure Opr where
  do_ : Int
  tenant : List UInt8
  of : Id32
  number : Int
  until_ : Int
  rights : UInt8
  body : Sl
  token : Sl
  now : Int
  draw : Id32
def oprE (x : Opr) : List Value := ([VI x.do_, .string ⟨(x.tenant).toArray⟩] : List Value) ++ ((x.of.1).map V8 ++ (([VI x.number, VI x.until_, V8 x.rights, x.body.v, x.token.v, VI x.now] : List Value) ++ ((x.draw.1).map V8)))
theorem oprE_len (x : Opr) : (oprE x).length = 72 := by
  show (([VI x.do_, .string ⟨(x.tenant).toArray⟩] : List Value) ++ ((x.of.1).map V8 ++ (([VI x.number, VI x.until_, V8 x.rights, x.body.v, x.token.v, VI x.now] : List Value) ++ ((x.draw.1).map V8)))).length = 72
  exact (by simp only [List.length_append, List.length_map, List.length_cons, List.length_nil, (show (x.of.1).length = 32 from x.of.2), (show (x.draw.1).length = 32 from x.draw.2)])
theorem oprE_c0 (x : Opr) : Cut3 (oprE x) (([] : List Value)) (([VI x.do_] : List Value)) (([.string ⟨(x.tenant).toArray⟩] : List Value) ++ ((x.of.1).map V8 ++ (([VI x.number, VI x.until_, V8 x.rights, x.body.v, x.token.v, VI x.now] : List Value) ++ ((x.draw.1).map V8)))) 0 1 :=
  ⟨by simp only [oprE, List.cons_append, List.nil_append], (by rfl), (by rfl)⟩
theorem oprE_p0 (x : Opr) (v : Int) : Put3 (oprE x) (oprE ⟨v, x.tenant, x.of, x.number, x.until_, x.rights, x.body, x.token, x.now, x.draw⟩) (([VI x.do_] : List Value)) (([VI v] : List Value)) 0 1 :=
  .of (oprE_c0 x) (by simp only [oprE, List.cons_append, List.nil_append]) (by rfl)
theorem oprE_c1 (x : Opr) : Cut3 (oprE x) (([VI x.do_] : List Value)) (([.string ⟨(x.tenant).toArray⟩] : List Value)) ((x.of.1).map V8 ++ (([VI x.number, VI x.until_, V8 x.rights, x.body.v, x.token.v, VI x.now] : List Value) ++ ((x.draw.1).map V8))) 1 1 :=
  ⟨by simp only [oprE, List.cons_append, List.nil_append], (by rfl), (by rfl)⟩
theorem oprE_p1 (x : Opr) (v : List UInt8) : Put3 (oprE x) (oprE ⟨x.do_, v, x.of, x.number, x.until_, x.rights, x.body, x.token, x.now, x.draw⟩) (([.string ⟨(x.tenant).toArray⟩] : List Value)) (([.string ⟨(v).toArray⟩] : List Value)) 1 1 :=
  .of (oprE_c1 x) (by simp only [oprE, List.cons_append, List.nil_append]) (by rfl)
theorem oprE_c2 (x : Opr) : Cut3 (oprE x) (([VI x.do_, .string ⟨(x.tenant).toArray⟩] : List Value)) ((x.of.1).map V8) (([VI x.number, VI x.until_, V8 x.rights, x.body.v, x.token.v, VI x.now] : List Value) ++ ((x.draw.1).map V8)) 2 32 :=
  ⟨by simp only [oprE, List.cons_append, List.nil_append], (by rfl), (by simp only [List.length_map, (show (x.of.1).length = 32 from x.of.2)])⟩
theorem oprE_p2 (x : Opr) (v : Id32) : Put3 (oprE x) (oprE ⟨x.do_, x.tenant, v, x.number, x.until_, x.rights, x.body, x.token, x.now, x.draw⟩) ((x.of.1).map V8) ((v.1).map V8) 2 32 :=
  .of (oprE_c2 x) (by simp only [oprE, List.cons_append, List.nil_append]) (by simp only [List.length_map, (show (v.1).length = 32 from v.2)])
theorem oprE_c3 (x : Opr) : Cut3 (oprE x) (([VI x.do_, .string ⟨(x.tenant).toArray⟩] : List Value) ++ ((x.of.1).map V8)) (([VI x.number] : List Value)) (([VI x.until_, V8 x.rights, x.body.v, x.token.v, VI x.now] : List Value) ++ ((x.draw.1).map V8)) 34 1 :=
  ⟨by simp only [oprE, List.cons_append, List.nil_append], (by simp only [List.length_append, List.length_map, List.length_cons, List.length_nil, (show (x.of.1).length = 32 from x.of.2)]), (by rfl)⟩
theorem oprE_p3 (x : Opr) (v : Int) : Put3 (oprE x) (oprE ⟨x.do_, x.tenant, x.of, v, x.until_, x.rights, x.body, x.token, x.now, x.draw⟩) (([VI x.number] : List Value)) (([VI v] : List Value)) 34 1 :=
  .of (oprE_c3 x) (by simp only [oprE, List.cons_append, List.nil_append]) (by rfl)
theorem oprE_c4 (x : Opr) : Cut3 (oprE x) (([VI x.do_, .string ⟨(x.tenant).toArray⟩] : List Value) ++ ((x.of.1).map V8 ++ (([VI x.number] : List Value)))) (([VI x.until_] : List Value)) (([V8 x.rights, x.body.v, x.token.v, VI x.now] : List Value) ++ ((x.draw.1).map V8)) 35 1 :=
  ⟨by simp only [oprE, List.append_assoc, List.cons_append, List.nil_append], (by simp only [List.length_append, List.length_map, List.length_cons, List.length_nil, (show (x.of.1).length = 32 from x.of.2)]), (by rfl)⟩
theorem oprE_c5 (x : Opr) : Cut3 (oprE x) (([VI x.do_, .string ⟨(x.tenant).toArray⟩] : List Value) ++ ((x.of.1).map V8 ++ (([VI x.number, VI x.until_] : List Value)))) (([V8 x.rights] : List Value)) (([x.body.v, x.token.v, VI x.now] : List Value) ++ ((x.draw.1).map V8)) 36 1 :=
  ⟨by simp only [oprE, List.append_assoc, List.cons_append, List.nil_append], (by simp only [List.length_append, List.length_map, List.length_cons, List.length_nil, (show (x.of.1).length = 32 from x.of.2)]), (by rfl)⟩
theorem oprE_c6 (x : Opr) : Cut3 (oprE x) (([VI x.do_, .string ⟨(x.tenant).toArray⟩] : List Value) ++ ((x.of.1).map V8 ++ (([VI x.number, VI x.until_, V8 x.rights] : List Value)))) (([x.body.v] : List Value)) (([x.token.v, VI x.now] : List Value) ++ ((x.draw.1).map V8)) 37 1 :=
  ⟨by simp only [oprE, List.append_assoc, List.cons_append, List.nil_append], (by simp only [List.length_append, List.length_map, List.length_cons, List.length_nil, (show (x.of.1).length = 32 from x.of.2)]), (by rfl)⟩
theorem oprE_p6 (x : Opr) (v : Sl) : Put3 (oprE x) (oprE ⟨x.do_, x.tenant, x.of, x.number, x.until_, x.rights, v, x.token, x.now, x.draw⟩) (([x.body.v] : List Value)) (([v.v] : List Value)) 37 1 :=
  .of (oprE_c6 x) (by simp only [oprE, List.append_assoc, List.cons_append, List.nil_append]) (by rfl)
theorem oprE_c7 (x : Opr) : Cut3 (oprE x) (([VI x.do_, .string ⟨(x.tenant).toArray⟩] : List Value) ++ ((x.of.1).map V8 ++ (([VI x.number, VI x.until_, V8 x.rights, x.body.v] : List Value)))) (([x.token.v] : List Value)) (([VI x.now] : List Value) ++ ((x.draw.1).map V8)) 38 1 :=
  ⟨by simp only [oprE, List.append_assoc, List.cons_append, List.nil_append], (by simp only [List.length_append, List.length_map, List.length_cons, List.length_nil, (show (x.of.1).length = 32 from x.of.2)]), (by rfl)⟩
theorem oprE_p7 (x : Opr) (v : Sl) : Put3 (oprE x) (oprE ⟨x.do_, x.tenant, x.of, x.number, x.until_, x.rights, x.body, v, x.now, x.draw⟩) (([x.token.v] : List Value)) (([v.v] : List Value)) 38 1 :=
  .of (oprE_c7 x) (by simp only [oprE, List.append_assoc, List.cons_append, List.nil_append]) (by rfl)
theorem oprE_c8 (x : Opr) : Cut3 (oprE x) (([VI x.do_, .string ⟨(x.tenant).toArray⟩] : List Value) ++ ((x.of.1).map V8 ++ (([VI x.number, VI x.until_, V8 x.rights, x.body.v, x.token.v] : List Value)))) (([VI x.now] : List Value)) ((x.draw.1).map V8) 39 1 :=
  ⟨by simp only [oprE, List.append_assoc, List.cons_append, List.nil_append], (by simp only [List.length_append, List.length_map, List.length_cons, List.length_nil, (show (x.of.1).length = 32 from x.of.2)]), (by rfl)⟩
theorem oprE_p8 (x : Opr) (v : Int) : Put3 (oprE x) (oprE ⟨x.do_, x.tenant, x.of, x.number, x.until_, x.rights, x.body, x.token, v, x.draw⟩) (([VI x.now] : List Value)) (([VI v] : List Value)) 39 1 :=
  .of (oprE_c8 x) (by simp only [oprE, List.append_assoc, List.cons_append, List.nil_append]) (by rfl)
theorem oprE_c9 (x : Opr) : Cut3 (oprE x) (([VI x.do_, .string ⟨(x.tenant).toArray⟩] : List Value) ++ ((x.of.1).map V8 ++ (([VI x.number, VI x.until_, V8 x.rights, x.body.v, x.token.v, VI x.now] : List Value)))) ((x.draw.1).map V8) (([] : List Value)) 40 32 :=
  ⟨by simp only [oprE, List.append_assoc, List.cons_append, List.nil_append, List.append_nil], (by simp only [List.length_append, List.length_map, List.length_cons, List.length_nil, (show (x.of.1).length = 32 from x.of.2)]), (by simp only [List.length_map, (show (x.draw.1).length = 32 from x.draw.2)])⟩
structure Ans where
  status : Int
  body : Sl
def ansE (x : Ans) : List Value := ([VI x.status, x.body.v] : List Value)
theorem ansE_len (x : Ans) : (ansE x).length = 2 := by
  show (([VI x.status, x.body.v] : List Value)).length = 2
  exact (by rfl)
theorem ansE_all (x : Ans) : (ansE x).all (·.oneCell') = true := by
  show (([VI x.status, x.body.v] : List Value)).all (·.oneCell') = true
  simp only [List.all_cons, List.all_nil]; simp [Value.oneCell', Sl.v]
theorem ansE_c0 (x : Ans) : Cut3 (ansE x) (([] : List Value)) (([VI x.status] : List Value)) (([x.body.v] : List Value)) 0 1 :=
  ⟨by simp only [ansE, List.cons_append, List.nil_append], (by rfl), (by rfl)⟩
theorem ansE_p0 (x : Ans) (v : Int) : Put3 (ansE x) (ansE ⟨v, x.body⟩) (([VI x.status] : List Value)) (([VI v] : List Value)) 0 1 :=
  .of (ansE_c0 x) (by simp only [ansE, List.cons_append, List.nil_append]) (by rfl)
theorem ansE_c1 (x : Ans) : Cut3 (ansE x) (([VI x.status] : List Value)) (([x.body.v] : List Value)) (([] : List Value)) 1 1 :=
  ⟨by simp only [ansE, List.cons_append, List.nil_append, List.append_nil], (by rfl), (by rfl)⟩
theorem ansE_p1 (x : Ans) (v : Sl) : Put3 (ansE x) (ansE ⟨x.status, v⟩) (([x.body.v] : List Value)) (([v.v] : List Value)) 1 1 :=
  .of (ansE_c1 x) (by simp only [ansE, List.cons_append, List.nil_append, List.append_nil]) (by rfl)
structure Wrk where
  s : Option Nat
  o : Opr
  t : Option Nat
  serial : UInt64
def wrkE (x : Wrk) : List Value := ([.pointer (x.s.map fun b => ⟨b, 0, none⟩)] : List Value) ++ (oprE x.o ++ (([.pointer (x.t.map fun b => ⟨b, 0, none⟩), V64 x.serial] : List Value)))
theorem wrkE_c0 (x : Wrk) : Cut3 (wrkE x) (([] : List Value)) (([.pointer (x.s.map fun b => ⟨b, 0, none⟩)] : List Value)) (oprE x.o ++ (([.pointer (x.t.map fun b => ⟨b, 0, none⟩), V64 x.serial] : List Value))) 0 1 :=
  ⟨by simp only [wrkE, List.cons_append, List.nil_append], (by rfl), (by rfl)⟩
theorem wrkE_p0 (x : Wrk) (v : Option Nat) : Put3 (wrkE x) (wrkE ⟨v, x.o, x.t, x.serial⟩) (([.pointer (x.s.map fun b => ⟨b, 0, none⟩)] : List Value)) (([.pointer (v.map fun b => ⟨b, 0, none⟩)] : List Value)) 0 1 :=
  .of (wrkE_c0 x) (by simp only [wrkE, List.cons_append, List.nil_append]) (by rfl)
theorem wrkE_c1 (x : Wrk) : Cut3 (wrkE x) (([.pointer (x.s.map fun b => ⟨b, 0, none⟩)] : List Value)) (oprE x.o) (([.pointer (x.t.map fun b => ⟨b, 0, none⟩), V64 x.serial] : List Value)) 1 72 :=
  ⟨by simp only [wrkE, List.cons_append, List.nil_append], (by rfl), (by simp only [oprE_len])⟩
theorem wrkE_p1 (x : Wrk) (v : Opr) : Put3 (wrkE x) (wrkE ⟨x.s, v, x.t, x.serial⟩) (oprE x.o) (oprE v) 1 72 :=
  .of (wrkE_c1 x) (by simp only [wrkE, List.cons_append, List.nil_append]) (by simp only [oprE_len])
theorem wrkE_c2 (x : Wrk) : Cut3 (wrkE x) (([.pointer (x.s.map fun b => ⟨b, 0, none⟩)] : List Value) ++ (oprE x.o)) (([.pointer (x.t.map fun b => ⟨b, 0, none⟩)] : List Value)) (([V64 x.serial] : List Value)) 73 1 :=
  ⟨by simp only [wrkE, List.cons_append, List.nil_append], (by simp only [List.length_append, List.length_cons, List.length_nil, oprE_len]), (by rfl)⟩
theorem wrkE_p2 (x : Wrk) (v : Option Nat) : Put3 (wrkE x) (wrkE ⟨x.s, x.o, v, x.serial⟩) (([.pointer (x.t.map fun b => ⟨b, 0, none⟩)] : List Value)) (([.pointer (v.map fun b => ⟨b, 0, none⟩)] : List Value)) 73 1 :=
  .of (wrkE_c2 x) (by simp only [wrkE, List.cons_append, List.nil_append]) (by rfl)
theorem wrkE_c3 (x : Wrk) : Cut3 (wrkE x) (([.pointer (x.s.map fun b => ⟨b, 0, none⟩)] : List Value) ++ (oprE x.o ++ (([.pointer (x.t.map fun b => ⟨b, 0, none⟩)] : List Value)))) (([V64 x.serial] : List Value)) (([] : List Value)) 74 1 :=
  ⟨by simp only [wrkE, List.append_assoc, List.cons_append, List.nil_append, List.append_nil], (by simp only [List.length_append, List.length_cons, List.length_nil, oprE_len]), (by rfl)⟩
theorem wrkE_p3 (x : Wrk) (v : UInt64) : Put3 (wrkE x) (wrkE ⟨x.s, x.o, x.t, v⟩) (([V64 x.serial] : List Value)) (([V64 v] : List Value)) 74 1 :=
  .of (wrkE_c3 x) (by simp only [wrkE, List.append_assoc, List.cons_append, List.nil_append, List.append_nil]) (by rfl)
theorem clone8_ret (w0 : World) (s : Sl) (hs : s.ok w0) (hn : s.a.isNone = false) (hm : s.len ≤ 1048576) :
    Ret Tryz.prog 57 [s.v] w0 fun v w' => ∃ a c, v = .slice (hd a) s.len c ∧ Hp w0 w' [] [.own a s.len c (s.l.map V8) 5 1] := by
  refine ret_mk Tryz.func57 rfl Tryz.ntmps57 (by simp) ?_
  have H := Hp.refl w0 []
  refine rG ?_; refine aZ ?_; refine eN ?_
  refine rG ?_; refine mV ?_; refine lV (r_slnil Tryz.underlying33 (by kernel_rfl) rfl rfl) ?_; have hk1 : (s.a.isNone) = false := hn
  refine eN ?_
  repeat refine c_seq ?_
  refine c_no (by exact congrArg Value.bool hk1) ?_; refine c_skip ?_; refine rG ?_; refine l_op (o_bslB (([] : List UInt8)) H sl33 zc5 rfl rfl (by decide) (fun b2 w H hb2 => ?_)); replace H : Hp _ w _ ([.own (some b2) 0 0 ((([] : List UInt8)).map V8) 5 1]) := H
  refine mV ?_; refine l_op (o_appB (s := s) (l' := s.l) (len' := s.len) rfl (Nat.zero_add _) H (i := 0) rfl sl33 Tryz.underlying33 rfl rfl (hs.up H (fun _ => apart_nil _)) oM (fun a3 c4 w H => ?_)); replace H : Hp _ w _ ([.own a3 s.len c4 ((s.l).map V8) 5 1]) := H
  refine aZ ?_; refine eN ?_
  refine cR ?_
  refine e_ret1 (v := .slice (hd a3) s.len c4) Tryz.results57 rfl ?_
  refine ⟨_, rfl, ?_⟩
  exact ⟨_, _, rfl, H⟩
theorem cln32_ret (w0 : World) :
    Ret Tryz.prog 32 [.slice none 0 0] w0 fun v w' => v = .slice none 0 0 ∧ Hp w0 w' [] [] := by
  refine ret_mk Tryz.func32 rfl Tryz.ntmps32 (by simp) ?_
  have H := Hp.refl w0 []
  refine rG ?_; refine aZ ?_; refine eN ?_
  refine rG ?_; refine mV ?_; refine lV (r_slnil Tryz.underlying26 (by kernel_rfl) rfl rfl) ?_; refine eN ?_
  refine qY ?_; refine rG ?_; refine aZ ?_; refine eN ?_
  refine cR ?_
  refine e_ret1 (v := .slice none 0 0) Tryz.results32 rfl ?_
  refine ⟨_, rfl, ?_⟩
  exact ⟨rfl, H.sub (List.nil_sublist _)⟩
theorem cln33_ret (w0 : World) :
    Ret Tryz.prog 33 [.slice none 0 0] w0 fun v w' => v = .slice none 0 0 ∧ Hp w0 w' [] [] := by
  refine ret_mk Tryz.func33 rfl Tryz.ntmps33 (by simp) ?_
  have H := Hp.refl w0 []
  refine rG ?_; refine aZ ?_; refine eN ?_
  refine rG ?_; refine mV ?_; refine lV (r_slnil Tryz.underlying27 (by kernel_rfl) rfl rfl) ?_; refine eN ?_
  refine qY ?_; refine rG ?_; refine aZ ?_; refine eN ?_
  refine cR ?_
  refine e_ret1 (v := .slice none 0 0) Tryz.results33 rfl ?_
  refine ⟨_, rfl, ?_⟩
  exact ⟨rfl, H.sub (List.nil_sublist _)⟩
theorem cln34_ret (w0 : World) :
    Ret Tryz.prog 34 [.slice none 0 0] w0 fun v w' => v = .slice none 0 0 ∧ Hp w0 w' [] [] := by
  refine ret_mk Tryz.func34 rfl Tryz.ntmps34 (by simp) ?_
  have H := Hp.refl w0 []
  refine rG ?_; refine aZ ?_; refine eN ?_
  refine rG ?_; refine mV ?_; refine lV (r_slnil Tryz.underlying28 (by kernel_rfl) rfl rfl) ?_; refine eN ?_
  refine qY ?_; refine rG ?_; refine aZ ?_; refine eN ?_
  refine cR ?_
  refine e_ret1 (v := .slice none 0 0) Tryz.results34 rfl ?_
  refine ⟨_, rfl, ?_⟩
  exact ⟨rfl, H.sub (List.nil_sublist _)⟩
theorem clne_ret (w0 : World) (lg : Gl Ent) (hlg : lg.ok entE 38 w0) (hln : lg.a.isNone = false) (hlm : lg.len ≤ 4096) :
    Ret Tryz.prog 34 [lg.v] w0 fun v w' => ∃ a c, v = .slice (hd a) lg.len c ∧ Hp w0 w' [] [.own a lg.len c (lg.l.flatMap entE) 60 38] := by
  refine ret_mk Tryz.func34 rfl Tryz.ntmps34 (by simp) ?_
  have H := Hp.refl w0 []
  refine rG ?_; refine aZ ?_; refine eN ?_
  refine rG ?_; refine mV ?_; refine lV (r_slnil Tryz.underlying28 (by kernel_rfl) rfl rfl) ?_; have hk1 : (lg.a.isNone) = false := hln
  refine eN ?_
  repeat refine c_seq ?_
  refine c_no (by exact congrArg Value.bool hk1) ?_; refine c_skip ?_; refine rG ?_; refine l_op (o_bslG0 (α := Ent) (enc := entE) H sl28 zc60 (by decide) (fun b2 w H hb2 => ?_)); replace H : Hp _ w _ ([.own (some b2) 0 0 ((([] : List Ent)).flatMap entE) 60 38]) := H
  refine mV ?_; refine l_op (o_appG (enc := entE) (s := lg) (l' := lg.l) (len' := lg.len) rfl (Nat.zero_add _) H (i := 0) rfl sl28 Tryz.underlying28 rfl rfl (hlg.up H) (by decide) (fun c _ => ent_all c) oM (by decide) (fun a3 c4 w H => ?_)); replace H : Hp _ w _ ([.own a3 lg.len c4 ((lg.l).flatMap entE) 60 38]) := H
  refine aZ ?_; refine eN ?_
  refine cR ?_
  refine e_ret1 (v := .slice (hd a3) lg.len c4) Tryz.results34 rfl ?_
  refine ⟨_, rfl, ?_⟩
  exact ⟨_, _, rfl, H⟩
theorem only_ret (w0 : World) (n : Int) :
    Ret Tryz.prog 18 [VI n] w0 fun v w' => v = .agg (ansE (⟨n, ⟨none, 0, 0, []⟩⟩ : Ans)).toArray ∧ Hp w0 w' [] [] := by
  refine ret_mk Tryz.func18 rfl Tryz.ntmps18 (by simp) ?_
  have H := Hp.refl w0 []
  refine rG ?_; refine l_op (o_alloc H zc43 (fun b1 w H hb1 => ?_)); replace H : Hp _ w _ ([.blk b1 (ansE (⟨0, ⟨none, 0, 0, []⟩⟩ : Ans)) 43]) := H
  refine eN ?_
  refine rG ?_; refine mV ?_; refine lV (r_bldG (Z := ansE (⟨0, ⟨none, 0, 0, []⟩⟩ : Ans)) (E := ansE (⟨n, ⟨none, 0, 0, []⟩⟩ : Ans)) (pv := [(0, VI n)]) bd43 rfl rfl (.consP rfl (ansE_p0 _ n) rfl (.nil _))) ?_; refine l_op (o_stW (C' := ansE (⟨n, ⟨none, 0, 0, []⟩⟩ : Ans)) H (i := 0) rfl rfl rfl cs43 (ansE_all _) (ansE_len _) (ansE_len _) (fun w H => ?_)); replace H : Hp _ w _ ([.blk b1 (ansE (⟨n, ⟨none, 0, 0, []⟩⟩ : Ans)) 43]) := H
  refine eN ?_
  refine cR ?_
  refine e_retc Tryz.results18 H (i := 0) rfl rfl rt43 (ansE_len _).symm ?_
  refine ⟨_, rfl, ?_⟩
  exact ⟨rfl, H.sub (List.nil_sublist _)⟩
theorem told_ret (w0 : World) (s : Sl) :
    Ret Tryz.prog 56 [s.v] w0 fun v w' => v = .agg (ansE (⟨200, s⟩ : Ans)).toArray ∧ Hp w0 w' [] [] := by
  refine ret_mk Tryz.func56 rfl Tryz.ntmps56 (by simp) ?_
  have H := Hp.refl w0 []
  refine rG ?_; refine l_op (o_alloc H zc43 (fun b1 w H hb1 => ?_)); replace H : Hp _ w _ ([.blk b1 (ansE (⟨0, ⟨none, 0, 0, []⟩⟩ : Ans)) 43]) := H
  refine eN ?_
  refine rG ?_; refine mV ?_; refine lV (r_bldG (Z := ansE (⟨0, ⟨none, 0, 0, []⟩⟩ : Ans)) (E := ansE (⟨200, s⟩ : Ans)) (pv := [(0, VI 200), (1, s.v)]) bd43 rfl rfl (.consP rfl (ansE_p0 _ 200) rfl (.consP rfl (ansE_p1 _ s) rfl (.nil _)))) ?_; refine l_op (o_stW (C' := ansE (⟨200, s⟩ : Ans)) H (i := 0) rfl rfl rfl cs43 (ansE_all _) (ansE_len _) (ansE_len _) (fun w H => ?_)); replace H : Hp _ w _ ([.blk b1 (ansE (⟨200, s⟩ : Ans)) 43]) := H
  refine eN ?_
  refine cR ?_
  refine e_retc Tryz.results56 H (i := 0) rfl rfl rt43 (ansE_len _).symm ?_
  refine ⟨_, rfl, ?_⟩
  exact ⟨rfl, H.sub (List.nil_sublist _)⟩
theorem rules17_ret (w0 : World) :
    Ret Tryz.prog 47 [VI 17] w0 fun v w' => v = .bool true ∧ Hp w0 w' [] [] := by
  refine ret_mk Tryz.func47 rfl Tryz.ntmps47 (by simp) ?_
  have H := Hp.refl w0 []
  refine rG ?_; refine aZ ?_; refine eN ?_
  refine rG ?_; refine mV ?_; refine lV (r_bin (a := 17) (b := 10) rfl rfl (fun _ => b_geqB true (decide_eq_true (by decide)))) ?_; refine mV ?_; refine l_yes rfl rfl rfl (o_val r_mv ?_); refine l_yes rfl rfl rfl (o_val (r_bin (a := 17) (b := 17) rfl rfl (fun _ => b_leqB true (decide_eq_true (by decide)))) ?_); refine lV (r_pick rfl) ?_; refine aZ ?_; refine eN ?_
  refine cR ?_
  refine e_ret1 (v := .bool true) Tryz.results47 rfl ?_
  refine ⟨_, rfl, ?_⟩
  exact ⟨rfl, H.sub (List.nil_sublist _)⟩
theorem needs17_ret (w0 : World) :
    Ret Tryz.prog 44 [VI 17] w0 fun v w' => v = .tuple #[V8 8, VI 0] ∧ Hp w0 w' [] [] := by
  refine ret_mk Tryz.func44 rfl Tryz.ntmps44 (by simp) ?_
  have H := Hp.refl w0 []
  refine rG ?_; refine lV (r_asV (c8 0 (by decide))) ?_; refine aZ ?_; refine eN ?_
  refine qB ?_; refine rG ?_; refine mV ?_; refine lV (r_bin (a := 17) (b := 2) rfl rfl (fun _ => b_eqlB false (decide_eq_false (by decide)))) ?_; refine aZ ?_; refine eN ?_
  refine qN ?_; refine rG ?_; refine mV ?_; refine lV (r_bin (a := 17) (b := 4) rfl rfl (fun _ => b_eqlB false (decide_eq_false (by decide)))) ?_; refine aZ ?_; refine eN ?_
  refine qN ?_; refine rG ?_; refine mV ?_; refine lV (r_bin (a := 17) (b := 5) rfl rfl (fun _ => b_eqlB false (decide_eq_false (by decide)))) ?_; refine aZ ?_; refine eN ?_
  refine qN ?_; refine rG ?_; refine mV ?_; refine lV (r_bin (a := 17) (b := 6) rfl rfl (fun _ => b_eqlB false (decide_eq_false (by decide)))) ?_; refine aZ ?_; refine eN ?_
  refine qN ?_; refine rG ?_; refine mV ?_; refine lV (r_bin (a := 17) (b := 9) rfl rfl (fun _ => b_eqlB false (decide_eq_false (by decide)))) ?_; refine aZ ?_; refine eN ?_
  refine qN ?_; refine rG ?_; refine mV ?_; refine lV (r_bin (a := 17) (b := 1) rfl rfl (fun _ => b_eqlB false (decide_eq_false (by decide)))) ?_; refine aZ ?_; refine eN ?_
  refine qN ?_; refine rG ?_; refine mV ?_; refine lV (r_bin (a := 17) (b := 3) rfl rfl (fun _ => b_eqlB false (decide_eq_false (by decide)))) ?_; refine aZ ?_; refine eN ?_
  refine qN ?_; refine rG ?_; refine mV ?_; refine lV (r_bin (a := 17) (b := 7) rfl rfl (fun _ => b_eqlB false (decide_eq_false (by decide)))) ?_; refine aZ ?_; refine eN ?_
  refine qN ?_; refine rG ?_; refine mV ?_; refine lV (r_bin (a := 17) (b := 8) rfl rfl (fun _ => b_eqlB false (decide_eq_false (by decide)))) ?_; refine aZ ?_; refine eN ?_
  refine qN ?_; refine rG ?_; refine mV ?_; refine l_op (o_callR Tryz.func47 rfl rfl rfl (rules17_ret _) ?_); rintro _ w ⟨rfl, Hc⟩
  replace H : Hp _ w _ ([]) := H.call Hc
  clear Hc
  refine aZ ?_; refine eN ?_
  refine qY ?_; refine rG ?_; refine lV (r_asV (c8 8 (by decide))) ?_; refine aZ ?_; refine eN ?_
  refine cR ?_
  refine e_retN (vs := [V8 (8 : UInt8), VI 0]) _ Tryz.results44 rfl (resT (v := V8 (8 : UInt8)) rfl (resT (v := VI 0) rfl (resZ))) ?_
  refine ⟨_, rfl, ?_⟩
  exact ⟨rfl, H.sub (List.nil_sublist _)⟩
theorem bsu_ret (w0 : World) (n : UInt64) :
    Ret Tryz.prog 43 [.slice none 0 0, V64 n] w0 fun v w' => v = .tuple #[VI 0, .bool false] ∧ Hp w0 w' [] [] := by
  refine ret_mk Tryz.func43 rfl Tryz.ntmps43 (by simp) ?_
  have H := Hp.refl w0 []
  refine rG ?_; refine aZ ?_; refine aZ ?_; refine eN ?_
  refine rG ?_; refine mV ?_; refine lV (r_lens el27 rfl) ?_; refine aZ ?_; refine eN ?_
  refine rG ?_; refine mV ?_; refine aZ ?_; refine aZ ?_; refine eN ?_
  refine qB ?_; repeat refine c_seq ?_
  refine c_loop (fun (i1 : Nat) => [(0, .slice none 0 0), (1, V64 n), (6, VI 0), (7, VI (i1 : Int)), (8, VI (i1 : Int))])
    (fun (i1 : Nat) w => (i1 = 0) ∧ Hp w0 w [] ([]))
    (fun (i1 : Nat) => 0) 0 ⟨rfl, rfl, rfl, rfl, rfl, trivial⟩ ⟨rfl, H⟩ ?_
  clear H
  rintro i1 τ w ⟨hi1, H⟩
  refine rG ?_; refine mV ?_; refine mV ?_; refine lV (r_bin (a := (i1 : Int)) (b := (i1 : Int)) rfl rfl (fun _ => b_lssB false (decide_eq_false oM))) ?_; refine eN ?_
  refine qN ?_; refine c_exit ?_; refine rG ?_; refine mV ?_; refine mV ?_; refine mV ?_; refine lV (r_bin (a := (i1 : Int)) (b := 0) rfl rfl (fun _ => b_lssB false (decide_eq_false oM))) ?_; refine mV ?_; refine l_no rfl rfl rfl rfl ?_; refine l_no rfl rfl rfl rfl ?_; refine l_no rfl rfl rfl rfl ?_; refine l_no rfl rfl rfl rfl ?_; refine l_no rfl rfl rfl rfl ?_; refine l_no rfl rfl rfl rfl ?_; refine l_no rfl rfl rfl rfl ?_; refine l_non rfl rfl rfl ?_; refine l_non rfl rfl rfl ?_; refine l_non rfl rfl rfl ?_; refine l_non rfl rfl rfl ?_; refine l_non rfl rfl rfl ?_; refine l_non rfl rfl rfl ?_; refine l_non rfl rfl rfl ?_; refine l_non rfl rfl rfl ?_; refine l_non rfl rfl rfl ?_; refine l_no rfl rfl rfl rfl ?_; refine lV (r_pick rfl) ?_; refine aZ ?_; refine aZ ?_; refine eN ?_
  refine cR ?_
  refine e_retN (vs := [VI (i1 : Int), .bool false]) _ Tryz.results43 rfl (resT (v := VI (i1 : Int)) rfl (resT (v := .bool false) rfl (resZ))) ?_
  refine ⟨_, rfl, ?_⟩
  subst hi1
  exact ⟨rfl, H⟩
theorem bst_ret (w0 : World) (l : List UInt8) (f : Value) :
    Ret Tryz.prog 48 [.slice none 0 0, .string ⟨(l).toArray⟩, f] w0 fun v w' => v = .tuple #[VI 0, .bool false] ∧ Hp w0 w' [] [] := by
  refine ret_mk Tryz.func48 rfl Tryz.ntmps48 (by simp) ?_
  have H := Hp.refl w0 []
  refine rG ?_; refine aZ ?_; refine aZ ?_; refine eN ?_
  refine rG ?_; refine mV ?_; refine lV (r_lens el26 rfl) ?_; refine aZ ?_; refine eN ?_
  refine rG ?_; refine mV ?_; refine aZ ?_; refine aZ ?_; refine eN ?_
  refine qB ?_; repeat refine c_seq ?_
  refine c_loop (fun (i1 : Nat) => [(0, .slice none 0 0), (1, .string ⟨(l).toArray⟩), (2, f), (8, VI 0), (9, VI (i1 : Int)), (10, VI (i1 : Int))])
    (fun (i1 : Nat) w => (i1 = 0) ∧ Hp w0 w [] ([]))
    (fun (i1 : Nat) => 0) 0 ⟨rfl, rfl, rfl, rfl, rfl, rfl, trivial⟩ ⟨rfl, H⟩ ?_
  clear H
  rintro i1 τ w ⟨hi1, H⟩
  refine rG ?_; refine mV ?_; refine mV ?_; refine lV (r_bin (a := (i1 : Int)) (b := (i1 : Int)) rfl rfl (fun _ => b_lssB false (decide_eq_false oM))) ?_; refine eN ?_
  refine qN ?_; refine c_exit ?_; refine rG ?_; refine mV ?_; refine mV ?_; refine mV ?_; refine lV (r_bin (a := (i1 : Int)) (b := 0) rfl rfl (fun _ => b_lssB false (decide_eq_false oM))) ?_; refine mV ?_; refine l_no rfl rfl rfl rfl ?_; refine l_no rfl rfl rfl rfl ?_; refine l_no rfl rfl rfl rfl ?_; refine l_no rfl rfl rfl rfl ?_; refine l_no rfl rfl rfl rfl ?_; refine l_no rfl rfl rfl rfl ?_; refine l_no rfl rfl rfl rfl ?_; refine l_no rfl rfl rfl rfl ?_; refine lV (r_pick rfl) ?_; refine aZ ?_; refine aZ ?_; refine eN ?_
  refine cR ?_
  refine e_retN (vs := [VI (i1 : Int), .bool false]) _ Tryz.results48 rfl (resT (v := VI (i1 : Int)) rfl (resT (v := .bool false) rfl (resZ))) ?_
  refine ⟨_, rfl, ?_⟩
  subst hi1
  exact ⟨rfl, H⟩
theorem may28_ret (w0 : World) (s : Sl) :
    Ret Tryz.prog 19 [.agg (oprE (⟨17, ([] : List UInt8), zId, 0, 0, (0 : UInt8), ⟨none, 0, 0, []⟩, s, 0, zId⟩ : Opr)).toArray] w0 fun v w' => v = .bool true ∧ Hp w0 w' [] [] := by
  refine ret_mk Tryz.func19 rfl Tryz.ntmps19 (by simp) ?_
  have H := Hp.refl w0 []
  have hz0 : ([] : List UInt8).length = 0 := rfl
  refine rG ?_; refine l_op (o_box (v := .agg (oprE (⟨17, ([] : List UInt8), zId, 0, 0, (0 : UInt8), ⟨none, 0, 0, []⟩, s, 0, zId⟩ : Opr)).toArray) H rfl (fun b1 w H hb1 => ?_)); replace H : Hp _ w _ ([.blk b1 (oprE (⟨17, ([] : List UInt8), zId, 0, 0, (0 : UInt8), ⟨none, 0, 0, []⟩, s, 0, zId⟩ : Opr)) 47]) := H
  refine aZ ?_; refine eN ?_
  refine rG ?_; refine lV (r_fa rfl fo47_0) ?_; refine lV (r_l1 (v := VI 17) H (i := 0) rfl rfl ct3 (oprE_c0 _)) ?_; refine lV (r_bin (a := 17) (b := 1) rfl rfl (fun _ => b_lssB false (decide_eq_false (by decide)))) ?_; refine mV ?_; refine l_yes rfl rfl rfl (o_val (r_fa rfl fo47_0) ?_); refine l_yes rfl rfl rfl (o_val (r_l1 (v := VI 17) H (i := 0) rfl rfl ct3 (oprE_c0 _)) ?_); refine l_yes rfl rfl rfl (o_val (r_bin (a := 17) (b := 17) rfl rfl (fun _ => b_gtrB false (decide_eq_false (by decide)))) ?_); refine lV (r_pick rfl) ?_; refine mV ?_; refine l_yes rfl rfl rfl (o_val (r_fa rfl fo47_8) ?_); refine l_yes rfl rfl rfl (o_val (r_l1 (v := VI 0) H (i := 0) rfl rfl ct2 (oprE_c8 _)) ?_); refine l_yes rfl rfl rfl (o_val (r_bin (a := 0) (b := 0) rfl rfl (fun _ => b_lssB false (decide_eq_false (by decide)))) ?_); refine lV (r_pick rfl) ?_; refine mV ?_; refine l_yes rfl rfl rfl (o_val (r_fa rfl fo47_3) ?_); refine l_yes rfl rfl rfl (o_val (r_l1 (v := VI 0) H (i := 0) rfl rfl ct2 (oprE_c3 _)) ?_); refine l_yes rfl rfl rfl (o_val (r_bin (a := 0) (b := 0) rfl rfl (fun _ => b_lssB false (decide_eq_false (by decide)))) ?_); refine lV (r_pick rfl) ?_; refine mV ?_; refine l_yes rfl rfl rfl (o_val (r_fa rfl fo47_4) ?_); refine l_yes rfl rfl rfl (o_val (r_l1 (v := VI 0) H (i := 0) rfl rfl ct2 (oprE_c4 _)) ?_); refine l_yes rfl rfl rfl (o_val (r_bin (a := 0) (b := 0) rfl rfl (fun _ => b_lssB false (decide_eq_false (by decide)))) ?_); refine lV (r_pick rfl) ?_; refine mV ?_; refine l_yes rfl rfl rfl (o_val (r_fa rfl fo47_6) ?_); refine l_yes rfl rfl rfl (o_val (r_l1 (v := .slice none 0 0) H (i := 0) rfl rfl ct33 (oprE_c6 _)) ?_); refine l_yes rfl rfl rfl (o_val (r_lens el33 rfl) ?_); refine l_yes rfl rfl rfl (o_val (r_bin (a := 0) (b := 4096) rfl rfl (fun _ => b_gtrB false (decide_eq_false (by decide)))) ?_); refine lV (r_pick rfl) ?_; refine mV ?_; refine l_yes rfl rfl rfl (o_val (r_fa rfl fo47_5) ?_); refine l_yes rfl rfl rfl (o_val (r_l1 (v := V8 (0 : UInt8)) H (i := 0) rfl rfl ct37 (oprE_c5 _)) ?_); refine l_yes rfl rfl rfl (o_callR Tryz.func39 rfl rfl rfl (rmay_ret _ ((0 : UInt8))) ?_); rintro _ w' ⟨rfl, hw2⟩
  rw [hw2]; clear hw2 w'
  have hk3 : (rMay ((0 : UInt8))) = true := (by decide)
  refine l_yes rfl rfl rfl (o_val (r_not rfl) ?_); refine lV (r_pick rfl) ?_; refine eN ?_
  repeat refine c_seq ?_
  refine c_no (by exact congrArg Value.bool (congrArg not hk3)) ?_; refine c_skip ?_; refine rG ?_; refine lV (r_fa rfl fo47_0) ?_; refine lV (r_l1 (v := VI 17) H (i := 0) rfl rfl ct3 (oprE_c0 _)) ?_; refine lV (r_bin (a := 17) (b := 12) rfl rfl (fun _ => b_eqlB false (decide_eq_false (by decide)))) ?_; refine mV ?_; refine l_yes rfl rfl rfl (o_val (r_fa rfl fo47_0) ?_); refine l_yes rfl rfl rfl (o_val (r_l1 (v := VI 17) H (i := 0) rfl rfl ct3 (oprE_c0 _)) ?_); refine l_yes rfl rfl rfl (o_val (r_bin (a := 17) (b := 13) rfl rfl (fun _ => b_eqlB false (decide_eq_false (by decide)))) ?_); refine lV (r_pick rfl) ?_; refine mV ?_; refine l_yes rfl rfl rfl (o_val (r_fa rfl fo47_0) ?_); refine l_yes rfl rfl rfl (o_val (r_l1 (v := VI 17) H (i := 0) rfl rfl ct3 (oprE_c0 _)) ?_); refine l_yes rfl rfl rfl (o_val (r_bin (a := 17) (b := 16) rfl rfl (fun _ => b_eqlB false (decide_eq_false (by decide)))) ?_); refine lV (r_pick rfl) ?_; refine mV ?_; refine l_yes rfl rfl rfl (o_val (r_fa rfl fo47_0) ?_); refine l_yes rfl rfl rfl (o_val (r_l1 (v := VI 17) H (i := 0) rfl rfl ct3 (oprE_c0 _)) ?_); refine l_yes rfl rfl rfl (o_val (r_bin (a := 17) (b := 17) rfl rfl (fun _ => b_eqlB true (decide_eq_true (by decide)))) ?_); refine lV (r_pick rfl) ?_; refine aZ ?_; refine eN ?_
  refine rG ?_; refine lV (r_fa rfl fo47_1) ?_; refine lV (r_l1 (v := .string ⟨(([] : List UInt8)).toArray⟩) H (i := 0) rfl rfl ct9 (oprE_c1 _)) ?_; refine l_op (o_callR Tryz.func40 rfl rfl rfl (nmay_ret _ (([] : List UInt8)) oM) ?_); rintro _ w ⟨rfl, Hc⟩
  replace H : Hp _ w _ ([_]) := H.call Hc
  clear Hc
  have hk4 : (nameMay (([] : List UInt8))) = false := (by rfl)
  refine mV ?_; refine l_yes rfl rfl (by exact congrArg Value.bool hk4) (o_val (r_fa rfl fo47_1) ?_); refine l_yes rfl rfl (by exact congrArg Value.bool hk4) (o_val (r_l1 (v := .string ⟨(([] : List UInt8)).toArray⟩) H (i := 0) rfl rfl ct9 (oprE_c1 _)) ?_); refine l_yes rfl rfl (by exact congrArg Value.bool hk4) (o_val (r_streq (a := ([] : List UInt8)) (b := ([] : List UInt8)) rfl rfl) ?_); refine l_yes rfl rfl (by exact congrArg Value.bool hk4) (o_val r_mv ?_); refine l_yes rfl rfl (by exact congrArg Value.bool (decide_eq_true (rfl : ([] : List UInt8) = ([] : List UInt8)))) (o_val r_mv ?_); refine l_yes rfl rfl (by exact congrArg Value.bool hk4) (o_val (r_pick (b := true) (congrArg Value.bool (decide_eq_true (rfl : ([] : List UInt8) = ([] : List UInt8))))) ?_); refine lV (r_pick (b := false) (congrArg Value.bool hk4)) ?_; refine aZ ?_; refine eN ?_
  refine cR ?_
  refine e_ret1 (v := .bool true) Tryz.results19 rfl ?_
  refine ⟨_, rfl, ?_⟩
  exact ⟨rfl, H.sub (List.nil_sublist _)⟩
theorem twin0_ret (w0 : World) (r : Id32) (d : Int) (h : Id32) :
    Ret Tryz.prog 17 [.agg (staE (⟨r, d, (0 : UInt64), ⟨none, 0, 0, []⟩, ⟨none, 0, 0, []⟩, ⟨none, 0, 0, []⟩, h⟩ : Sta)).toArray] w0 fun v w' => v = .agg (staE (⟨r, d, 0, ⟨none, 0, 0, []⟩, ⟨none, 0, 0, []⟩, ⟨none, 0, 0, []⟩, h⟩ : Sta)).toArray ∧ Hp w0 w' [] [] := by
  refine ret_mk Tryz.func17 rfl Tryz.ntmps17 (by simp) ?_
  have H := Hp.refl w0 []
  refine rG ?_; refine l_op (o_box (v := .agg (staE (⟨r, d, (0 : UInt64), ⟨none, 0, 0, []⟩, ⟨none, 0, 0, []⟩, ⟨none, 0, 0, []⟩, h⟩ : Sta)).toArray) H rfl (fun b1 w H hb1 => ?_)); replace H : Hp _ w _ ([.blk b1 (staE (⟨r, d, (0 : UInt64), ⟨none, 0, 0, []⟩, ⟨none, 0, 0, []⟩, ⟨none, 0, 0, []⟩, h⟩ : Sta)) 30]) := H
  refine l_op (o_alloc H zc30 (fun b2 w H hb2 => ?_)); replace H : Hp _ w _ ([_, .blk b2 (staE (⟨zId, 0, (0 : UInt64), ⟨none, 0, 0, []⟩, ⟨none, 0, 0, []⟩, ⟨none, 0, 0, []⟩, zId⟩ : Sta)) 30]) := H
  refine eN ?_
  repeat refine c_seq ?_
  refine heldH H mixed fun H => ?_
  have HS := H
  refine tK 0 rfl (fun w HS => r_fa rfl fo30_3) HS ?_; refine tK 1 rfl (fun w HS => r_l1 (v := .slice none 0 0) HS (i := 0) rfl rfl ct26 (staE_c3 _)) HS ?_; refine tK 3 rfl (fun w HS => r_fa rfl fo30_4) HS ?_; refine tK 4 rfl (fun w HS => r_l1 (v := .slice none 0 0) HS (i := 0) rfl rfl ct27 (staE_c4 _)) HS ?_; refine tK 6 rfl (fun w HS => r_fa rfl fo30_5) HS ?_; refine tK 7 rfl (fun w HS => r_l1 (v := .slice none 0 0) HS (i := 0) rfl rfl ct28 (staE_c5 _)) HS ?_; refine tU 2 rfl (o_callR Tryz.func32 rfl rfl rfl (cln32_ret _) ?_); rintro _ w ⟨rfl, Hc⟩
  replace H : Hp _ w _ ([_, _]) := H.call Hc
  clear Hc
  replace HS := H
  refine ⟨HS, ?_⟩
  refine tK 9 rfl (fun w HS => r_fa rfl fo30_3) HS ?_; refine tU 5 rfl (o_callR Tryz.func33 rfl rfl rfl (cln33_ret _) ?_); rintro _ w ⟨rfl, Hc⟩
  replace H : Hp _ w _ ([_, _]) := H.call Hc
  clear Hc
  replace HS := H
  refine ⟨HS, ?_⟩
  refine tU 8 rfl (o_callR Tryz.func34 rfl rfl rfl (cln34_ret _) ?_); rintro _ w ⟨rfl, Hc⟩
  replace H : Hp _ w _ ([_, _]) := H.call Hc
  clear Hc
  replace HS := H
  refine ⟨HS, ?_⟩
  refine tU 10 rfl (o_s1P (C' := staE (⟨r, d, (0 : UInt64), ⟨none, 0, 0, []⟩, ⟨none, 0, 0, []⟩, ⟨none, 0, 0, []⟩, h⟩ : Sta)) (u := .slice none 0 0) H (i := 0) rfl rfl rfl cs26 rfl (staE_p3 _ (⟨none, 0, 0, []⟩)) (fun w H => ?_)); replace H : Hp _ w _ [_, _] := H
  replace HS := H
  refine ⟨HS, ?_⟩
  refine tK 11 rfl (fun w HS => r_fa rfl fo30_4) HS ?_; refine tU 12 rfl (o_s1P (C' := staE (⟨r, d, (0 : UInt64), ⟨none, 0, 0, []⟩, ⟨none, 0, 0, []⟩, ⟨none, 0, 0, []⟩, h⟩ : Sta)) (u := .slice none 0 0) H (i := 0) rfl rfl rfl cs27 rfl (staE_p4 _ (⟨none, 0, 0, []⟩)) (fun w H => ?_)); replace H : Hp _ w _ [_, _] := H
  replace HS := H
  refine ⟨HS, ?_⟩
  refine tK 13 rfl (fun w HS => r_fa rfl fo30_5) HS ?_; refine tU 14 rfl (o_s1P (C' := staE (⟨r, d, (0 : UInt64), ⟨none, 0, 0, []⟩, ⟨none, 0, 0, []⟩, ⟨none, 0, 0, []⟩, h⟩ : Sta)) (u := .slice none 0 0) H (i := 0) rfl rfl rfl cs28 rfl (staE_p5 _ (⟨none, 0, 0, []⟩)) (fun w H => ?_)); replace H : Hp _ w _ [_, _] := H
  replace HS := H
  refine ⟨HS, ?_⟩
  refine t_done (by kernel_rfl) ?_
  clear HS
  refine rG ?_; refine lV (r_fa rfl fo30_3) ?_; refine lV (r_l1 (v := .slice none 0 0) H (i := 0) rfl rfl ct26 (staE_c3 _)) ?_; refine lV (r_lens el26 rfl) ?_; refine mV ?_; refine eN ?_
  refine qB ?_; repeat refine c_seq ?_
  refine c_loop (fun (i3 : Nat) => [(1, .pointer (some ⟨b1, 0, none⟩)), (2, .pointer (some ⟨b2, 0, none⟩)), (20, VI 0), (21, VI (i3 : Int))])
    (fun (i3 : Nat) w => (i3 = 0) ∧ Hp w0 w [] ([.blk b1 (staE (⟨r, d, (0 : UInt64), ⟨none, 0, 0, []⟩, ⟨none, 0, 0, []⟩, ⟨none, 0, 0, []⟩, h⟩ : Sta)) 30, .blk b2 (staE (⟨zId, 0, (0 : UInt64), ⟨none, 0, 0, []⟩, ⟨none, 0, 0, []⟩, ⟨none, 0, 0, []⟩, zId⟩ : Sta)) 30]))
    (fun (i3 : Nat) => 0) 0 ⟨rfl, rfl, rfl, rfl, trivial⟩ ⟨rfl, H⟩ ?_
  clear H
  rintro i3 τ w ⟨hi3, H⟩
  refine rG ?_; refine lV (r_bin (a := (i3 : Int)) (b := 0) rfl rfl (fun _ => b_lssB false (decide_eq_false oM))) ?_; refine eN ?_
  refine qN ?_; refine c_exit ?_; refine rG ?_; refine lV (r_ldA (C := staE (⟨r, d, (0 : UInt64), ⟨none, 0, 0, []⟩, ⟨none, 0, 0, []⟩, ⟨none, 0, 0, []⟩, h⟩ : Sta)) H (i := 0) rfl rfl rt30 (staE_len _)) ?_; refine l_op (o_stW (C' := staE (⟨r, d, (0 : UInt64), ⟨none, 0, 0, []⟩, ⟨none, 0, 0, []⟩, ⟨none, 0, 0, []⟩, h⟩ : Sta)) H (i := 1) rfl rfl rfl cs30 (staE_all _) (staE_len _) (staE_len _) (fun w H => ?_)); replace H : Hp _ w _ ([_, .blk b2 (staE (⟨r, d, (0 : UInt64), ⟨none, 0, 0, []⟩, ⟨none, 0, 0, []⟩, ⟨none, 0, 0, []⟩, h⟩ : Sta)) 30]) := H
  refine eN ?_
  refine cR ?_
  refine e_retc Tryz.results17 H (i := 1) rfl rfl rt30 (staE_len _).symm ?_
  refine ⟨_, rfl, ?_⟩
  exact ⟨rfl, H.sub (List.nil_sublist _)⟩
theorem twin1_ret (w0 : World) (r : Id32) (d : Int) (h : Id32) (lg : Gl Ent) (hlg : lg.ok entE 38 w0) (hln : lg.a.isNone = false) (hlm : lg.len ≤ 4096) :
    Ret Tryz.prog 17 [.agg (staE (⟨r, d, (0 : UInt64), ⟨none, 0, 0, []⟩, ⟨none, 0, 0, []⟩, lg, h⟩ : Sta)).toArray] w0 fun v w' => ∃ a c, v = .agg (staE (⟨r, d, 0, ⟨none, 0, 0, []⟩, ⟨none, 0, 0, []⟩, ⟨hd a, lg.len, c, lg.l⟩, h⟩ : Sta)).toArray ∧ Hp w0 w' [] [.own a lg.len c (lg.l.flatMap entE) 60 38] := by
  refine ret_mk Tryz.func17 rfl Tryz.ntmps17 (by simp) ?_
  have H := Hp.refl w0 []
  refine rG ?_; refine l_op (o_box (v := .agg (staE (⟨r, d, (0 : UInt64), ⟨none, 0, 0, []⟩, ⟨none, 0, 0, []⟩, lg, h⟩ : Sta)).toArray) H rfl (fun b1 w H hb1 => ?_)); replace H : Hp _ w _ ([.blk b1 (staE (⟨r, d, (0 : UInt64), ⟨none, 0, 0, []⟩, ⟨none, 0, 0, []⟩, lg, h⟩ : Sta)) 30]) := H
  refine l_op (o_alloc H zc30 (fun b2 w H hb2 => ?_)); replace H : Hp _ w _ ([_, .blk b2 (staE (⟨zId, 0, (0 : UInt64), ⟨none, 0, 0, []⟩, ⟨none, 0, 0, []⟩, ⟨none, 0, 0, []⟩, zId⟩ : Sta)) 30]) := H
  refine eN ?_
  repeat refine c_seq ?_
  refine heldZ H (fun j => Nat.ble 9 j) mixed fun H => ?_
  have HS := H
  refine zA 0 rfl (fun w => r_fa rfl fo30_3) ?_; refine zT 1 rfl (fun w HS => r_l1 (v := .slice none 0 0) HS (i := 0) rfl rfl ct26 (staE_c3 _)) HS ?_; refine zA 3 rfl (fun w => r_fa rfl fo30_4) ?_; refine zT 4 rfl (fun w HS => r_l1 (v := .slice none 0 0) HS (i := 0) rfl rfl ct27 (staE_c4 _)) HS ?_; refine zA 6 rfl (fun w => r_fa rfl fo30_5) ?_; refine zT 7 rfl (fun w HS => r_l1 (v := lg.v) HS (i := 0) rfl rfl ct28 (staE_c5 _)) HS ?_; refine zU 2 rfl (o_callR Tryz.func32 rfl rfl rfl (cln32_ret _) ?_); rintro _ w ⟨rfl, Hc⟩
  replace H : Hp _ w _ ([_, _]) := H.call Hc
  clear Hc
  replace HS := H
  refine ⟨fun _ _ => HS, ?_⟩
  refine zA 9 rfl (fun w => r_fa rfl fo30_3) ?_; refine zU 5 rfl (o_callR Tryz.func33 rfl rfl rfl (cln33_ret _) ?_); rintro _ w ⟨rfl, Hc⟩
  replace H : Hp _ w _ ([_, _]) := H.call Hc
  clear Hc
  replace HS := H
  refine ⟨fun _ _ => HS, ?_⟩
  refine zU 8 rfl (o_callR Tryz.func34 rfl rfl rfl (clne_ret _ lg (hlg.up H) hln hlm) ?_); rintro _ w ⟨a3, c4, rfl, Hc⟩
  replace H : Hp _ w _ ([_, _, .own a3 lg.len c4 ((lg.l).flatMap entE) 60 38]) := H.call Hc
  clear Hc
  replace HS := H.sub (.cons_cons _ (.cons_cons _ (List.nil_sublist _)))
  refine ⟨fun _ _ => HS, ?_⟩
  refine zU 10 rfl (o_s1P (C' := staE (⟨r, d, (0 : UInt64), ⟨none, 0, 0, []⟩, ⟨none, 0, 0, []⟩, lg, h⟩ : Sta)) (u := .slice none 0 0) H (i := 0) rfl rfl rfl cs26 rfl (staE_p3 _ (⟨none, 0, 0, []⟩)) (fun w H => ?_)); replace H : Hp _ w _ [_, _, _] := H
  refine ⟨fun h => Bool.noConfusion (h : true = false), ?_⟩
  clear HS
  refine zA 11 rfl (fun w => r_fa rfl fo30_4) ?_; refine zU 12 rfl (o_s1P (C' := staE (⟨r, d, (0 : UInt64), ⟨none, 0, 0, []⟩, ⟨none, 0, 0, []⟩, lg, h⟩ : Sta)) (u := .slice none 0 0) H (i := 0) rfl rfl rfl cs27 rfl (staE_p4 _ (⟨none, 0, 0, []⟩)) (fun w H => ?_)); replace H : Hp _ w _ [_, _, _] := H
  refine ⟨fun h => Bool.noConfusion (h : true = false), ?_⟩
  refine zA 13 rfl (fun w => r_fa rfl fo30_5) ?_; refine zU 14 rfl (o_s1P (C' := staE (⟨r, d, (0 : UInt64), ⟨none, 0, 0, []⟩, ⟨none, 0, 0, []⟩, ⟨hd a3, lg.len, c4, lg.l⟩, h⟩ : Sta)) (u := .slice (hd a3) lg.len c4) H (i := 0) rfl rfl rfl cs28 rfl (staE_p5 _ (⟨hd a3, lg.len, c4, lg.l⟩)) (fun w H => ?_)); replace H : Hp _ w _ ([.blk b1 (staE (⟨r, d, (0 : UInt64), ⟨none, 0, 0, []⟩, ⟨none, 0, 0, []⟩, ⟨hd a3, lg.len, c4, lg.l⟩, h⟩ : Sta)) 30, _, _]) := H
  refine ⟨fun h => Bool.noConfusion (h : true = false), ?_⟩
  refine z_done (by kernel_rfl) ?_; refine rG ?_; refine lV (r_fa rfl fo30_3) ?_; refine lV (r_l1 (v := .slice none 0 0) H (i := 0) rfl rfl ct26 (staE_c3 _)) ?_; refine lV (r_lens el26 rfl) ?_; refine mV ?_; refine eN ?_
  refine qB ?_; repeat refine c_seq ?_
  refine c_loop (fun (i5 : Nat) => [(1, .pointer (some ⟨b1, 0, none⟩)), (2, .pointer (some ⟨b2, 0, none⟩)), (20, VI 0), (21, VI (i5 : Int))])
    (fun (i5 : Nat) w => (i5 = 0) ∧ Hp w0 w [] ([.blk b1 (staE (⟨r, d, (0 : UInt64), ⟨none, 0, 0, []⟩, ⟨none, 0, 0, []⟩, ⟨hd a3, lg.len, c4, lg.l⟩, h⟩ : Sta)) 30, .blk b2 (staE (⟨zId, 0, (0 : UInt64), ⟨none, 0, 0, []⟩, ⟨none, 0, 0, []⟩, ⟨none, 0, 0, []⟩, zId⟩ : Sta)) 30, .own a3 lg.len c4 ((lg.l).flatMap entE) 60 38]))
    (fun (i5 : Nat) => 0) 0 ⟨rfl, rfl, rfl, rfl, trivial⟩ ⟨rfl, H⟩ ?_
  clear H
  rintro i5 τ w ⟨hi5, H⟩
  refine rG ?_; refine lV (r_bin (a := (i5 : Int)) (b := 0) rfl rfl (fun _ => b_lssB false (decide_eq_false oM))) ?_; refine eN ?_
  refine qN ?_; refine c_exit ?_; refine rG ?_; refine lV (r_ldA (C := staE (⟨r, d, (0 : UInt64), ⟨none, 0, 0, []⟩, ⟨none, 0, 0, []⟩, ⟨hd a3, lg.len, c4, lg.l⟩, h⟩ : Sta)) H (i := 0) rfl rfl rt30 (staE_len _)) ?_; refine l_op (o_stW (C' := staE (⟨r, d, (0 : UInt64), ⟨none, 0, 0, []⟩, ⟨none, 0, 0, []⟩, ⟨hd a3, lg.len, c4, lg.l⟩, h⟩ : Sta)) H (i := 1) rfl rfl rfl cs30 (staE_all _) (staE_len _) (staE_len _) (fun w H => ?_)); replace H : Hp _ w _ ([_, .blk b2 (staE (⟨r, d, (0 : UInt64), ⟨none, 0, 0, []⟩, ⟨none, 0, 0, []⟩, ⟨hd a3, lg.len, c4, lg.l⟩, h⟩ : Sta)) 30, _]) := H
  refine eN ?_
  refine cR ?_
  refine e_retc Tryz.results17 H (i := 1) rfl rfl rt30 (staE_len _).symm ?_
  refine ⟨_, rfl, ?_⟩
  exact ⟨_, _, rfl, H.sub (.cons _ (.cons _ (.cons_cons _ (List.nil_sublist _))))⟩
end Go.Proofs.YtmiabahejnjhiaaGreatDoor
namespace Go.Proofs.YtmiabahejnjhiaaGreatDoor
open Go Go.ChangeMaps
set_option maxRecDepth 100000
theorem RdS.apartK {w0 : World} {a : Option Addr} {vs : List Value} {S : List Nat} (hr : RdS w0 a vs) (hv : vs ≠ []) (hS : ∀ b ∈ S, w0.heap.size ≤ b) : Apart a S := by
  intro y hy hm
  rcases hr with h | ⟨b', o, C, T, fr, ha, hh, _⟩
  · exact hv h
  · rw [ha] at hy
    cases hy
    have h1 := (Array.getElem?_eq_some_iff.1 hh).1
    have h2 : w0.heap.size ≤ b' := hS _ hm
    omega
theorem Sl.ok.apartK {w0 : World} {x : Sl} {S : List Nat} (hx : x.ok w0) (hS : ∀ b ∈ S, w0.heap.size ≤ b) : x.l ≠ [] → Apart x.a S := fun hn => hx.rd.apartK (by simpa using hn) hS
section
variable {κ α : Type} [DecidableEq κ] {P : Program} {n : Nat} {σ : Nat → Value} {w w0 : World}
  {ty : TypeId} {pos : String} {aft : Array Edge} {g : Option (Nat × Bool)} {d : Nat} {t kt et : TypeId} {x y : Operand} {S : List Nat} {L : List Ch}
/-- a look-up behind the entry of the same key was made. -/
theorem r_lookE {kv : κ → Value} {enc : α → Value} {M : List (κ × Value × Nat)} {F : κ → Option α} {c c' i b : Nat} {k : κ} (z : α) (hF : MIs enc M F) (H : Hp w0 w S L) (hi : L[i]? = some (.obj b (mobj kv (mput k ((mget M k).getD (enc z)) c M) c'))) (hu : P.underlying t = some (.map kt et)) (hK : KeyOf P kt kv) (hz : ∀ w, (zeroValue et).run P w = .ok (enc z) w)
    (hx : ev n σ x = .map (some b)) (hy : ev n σ y = kv k) :
    (execOp (ev n σ) ⟨some d, .lookup t x y false, ty, pos, aft, g⟩).run P w = .ok (.value (enc ((F k).getD z))) w := by
  have := r_look (P := P) (ty := ty) (pos := pos) (aft := aft) (g := g) (d := d) H hi hu hK hz hx hy false
  rw [mget_put, if_pos rfl, hF.getD] at this
  exact this
end
end Go.Proofs.YtmiabahejnjhiaaGreatDoor
namespace Go.Proofs.YtmiabahejnjhiaaGreatDoor
open Go
section
variable {P : Program} {Q : Exit → Act → World → Prop} {n : Nat} {σ : Nat → Value} {w : World} {K : Act → World → Prop} {ty : TypeId} {pos : String} {aft : Array Edge} {g : Option (Nat × Bool)} {d : Nat}
theorem o_callV {x : Operand} {f : FuncId} {fn : Func} {args : Array Operand} {ats : Array TypeId} {vs : List Value} {R : Value → World → Prop} (hx : ev n σ x = .func (.func f) #[] #[]) (hf : P.funcs[f]? = some fn) (hb : fn.body.isSome = true) (hname : (fn.name == "runtime.NumGoroutine") = false)
    (ha : evs n σ args.toList = vs) (hc : Ret P f vs w R) (h : ∀ v w', R v w' → K (mk n (up σ d v)) w') :
    Oper.wp P ⟨some d, .call ⟨.value x, args, ats⟩, ty, pos, aft, g⟩ (mk n σ) w K Q := by
  unfold Oper.wp
  rw [mk_evalf]
  have hn : fn.body ≠ none := by cases hh : fn.body <;> simp_all
  have hnm : fn.name ≠ "runtime.NumGoroutine" := by intro e; simp [e] at hname
  have hv : args.map (ev n σ) = vs.toArray := by apply Array.ext'; rw [← ha, evs_eq]; simp
  have : (execOp (ev n σ) ⟨some d, .call ⟨.value x, args, ats⟩, ty, pos, aft, g⟩).run P w = .ok (.enter f vs.toArray) w := by
    simp [execOp, resolve, hx, Deferred.ofValue, invoke, callFunc, hf, hnm, hn, hv]
  rw [this, Oper.upon_enter]
  refine Calls.mono hc fun e w' ⟨v, he, hv⟩ => ?_
  subst he
  simp only
  rw [mk_put]; exact h v w' hv
theorem r_nepp {x y : Operand} {t yt e : TypeId} (hu : P.underlying t = some (.pointer e)) (_hg : P.eqGuardType P.depth t = false) (hx : ev n σ x = .pointer none) (hy : ev n σ y = .pointer none) :
    (execOp (ev n σ) ⟨some d, .binOp .neq t x y yt, ty, pos, aft, g⟩).run P w = .ok (.value (.bool false)) w := by
  have e3 : (eqGuard .neq t x y (.pointer none) (.pointer none)).run P w = .ok () w := by simp [eqGuard]
  have e4 : (binOp .neq t (.pointer none) (.pointer none)).run P w = .ok (.bool false) w := by simp [binOp, eq_nilpp hu]
  simp [execOp, hx, hy, e3, e4]
theorem all3 {α : Type} {p : α → Prop} {a b c : α} (ha : p a) (hb : p b) (hc : p c) : ∀ x ∈ [a, b, c], p x := by
  intro x hx
  simp only [List.mem_cons, List.not_mem_nil, or_false] at hx
  rcases hx with h | h | h <;> rw [h] <;> assumption
end
end Go.Proofs.YtmiabahejnjhiaaGreatDoor
namespace Go.Proofs.YtmiabahejnjhiaaGreatDoor
open Go
section
variable {P : Program} {Q : Exit → Act → World → Prop} {n : Nat} {σ : Nat → Value} {w : World} {K : Act → World → Prop} {ty : TypeId} {pos : String} {aft : Array Edge} {g : Option (Nat × Bool)} {d : Nat}
theorem o_callVc {x : Operand} {f : FuncId} {fn : Func} {args : Array Operand} {ats : Array TypeId} {vs cs : List Value} {R : Value → World → Prop} (hx : ev n σ x = .func (.func f) #[] cs.toArray) (hf : P.funcs[f]? = some fn) (hb : fn.body.isSome = true) (hname : (fn.name == "runtime.NumGoroutine") = false)
    (ha : evs n σ args.toList = vs) (hc : Ret P f (vs ++ cs) w R) (h : ∀ v w', R v w' → K (mk n (up σ d v)) w') :
    Oper.wp P ⟨some d, .call ⟨.value x, args, ats⟩, ty, pos, aft, g⟩ (mk n σ) w K Q := by
  unfold Oper.wp
  rw [mk_evalf]
  have hn : fn.body ≠ none := by cases hh : fn.body <;> simp_all
  have hnm : fn.name ≠ "runtime.NumGoroutine" := by intro e; simp [e] at hname
  have hv : args.map (ev n σ) = vs.toArray := by apply Array.ext'; rw [← ha, evs_eq]; simp
  have : (execOp (ev n σ) ⟨some d, .call ⟨.value x, args, ats⟩, ty, pos, aft, g⟩).run P w = .ok (.enter f (vs ++ cs).toArray) w := by
    simp [execOp, resolve, hx, Deferred.ofValue, invoke, callFunc, hf, hnm, hn, hv]
  rw [this, Oper.upon_enter]
  refine Calls.mono hc fun e w' ⟨v, he, hv⟩ => ?_
  subst he
  simp only
  rw [mk_put]; exact h v w' hv
theorem c_round {c : Code} {m : Nat} {a : Act} (h : c.wp P (Exit.then (Code.rounds P c Q m) Q) a w) : Code.rounds P c Q (m + 1) a w := h
end
theorem ownSome {w0 w : World} {S : List Nat} {L : List Ch} {i len cap T sz : Nat} {a : Option Nat} {vs : List Value} (H : Hp w0 w S L) (hi : L[i]? = some (.own a len cap vs T sz)) (hl : 0 < len) : ∃ b, a = some b := by
  have h := H.has _ (List.mem_of_getElem? hi)
  cases a with
  | none => obtain ⟨h1, _⟩ := h; omega
  | some b => exact ⟨b, rfl⟩
theorem Hp.subP {w0 w : World} {S : List Nat} {L LL L1 Lr : List Ch} (h : Hp w0 w S L) (hp : L.Perm LL) (hL : LL = L1 ++ Lr) : Hp w0 w S L1 := (h.permL hp).sub (hL ▸ List.sublist_append_left ..)
theorem Hp.lowK {w0 w : World} {L : List Ch} (h : Hp w0 w [] L) : ∀ q ∈ keys L, w0.heap.size ≤ q := by
  intro q hq
  obtain ⟨c, hc, hb⟩ := mem_keys.1 hq
  rcases h.fresh c hc q hb with h | h
  · cases h
  · exact h
theorem Sl.ok.apP {x : Sl} {w0 w : World} {L LL L1 Lr : List Ch} (hx : x.ok w0) (h : Hp w0 w [] L) (hp : L.Perm LL) (hL : LL = L1 ++ Lr) : x.l ≠ [] → Apart x.a (keys L1) := hx.apartK (h.subP hp hL).lowK
end Go.Proofs.YtmiabahejnjhiaaGreatDoor
namespace Go.Proofs.YtmiabahejnjhiaaGreatDoor
open Go
set_option maxRecDepth 100000
/-- the bytes of the first token, by its tag. -/
def tokB (g : List UInt8) : List UInt8 := [1, 0, 0, 0, 0, 0, 0, 0, 0, 0, 15, 0, 0, 0, 0, 0, 0, 0, 0, 255, 255, 255, 255, 255, 255, 255, 254, 0] ++ g
def tagR (r : Id32) : List UInt8 := hmac r.1 (framed [headB 0 [] 15 0 9223372036854775807])
theorem head0 : headB 0 [] 15 0 9223372036854775807 = [0, 0, 0, 0, 0, 0, 0, 0, 0, 15, 0, 0, 0, 0, 0, 0, 0, 0, 255, 255, 255, 255, 255, 255, 255, 254] := by
  have h : cnt 0 = [0] := by rw [cnt, if_neg oM]; rfl
  unfold headB
  rw [List.length_nil, h]; rfl
theorem tagR_len (r : Id32) : (tagR r).length = 32 := hmac_len _ _
theorem zagZ_ret (w0 : World) : Ret Tryz.prog 76 [V64 0] w0 fun v w' => v = VI 0 ∧ Hp w0 w' [] [] := by
  have h := zag_ret w0 0
  rwa [show zagU 0 = 0 from by decide] at h
theorem zagM_ret (w0 : World) : Ret Tryz.prog 76 [V64 18446744073709551614] w0 fun v w' => v = VI 9223372036854775807 ∧ Hp w0 w' [] [] := by
  have h := zag_ret w0 18446744073709551614
  rwa [show zagU 18446744073709551614 = 9223372036854775807 from by decide] at h
theorem tcnt0_ret (w0 : World) (s : Sl) (hs : s.ok w0) (h1 : 1 ≤ s.len) (h0 : s.l.getD 0 0 = 0) :
    Ret Tryz.prog 148 [s.v] w0 fun v w' => v = .tuple #[V64 0, VI 1, VI 0] ∧ Hp w0 w' [] [] := by
  refine ret_mk Tryz.func148 rfl Tryz.ntmps148 (by simp) ?_
  have H := Hp.refl w0 []
  have hz : (s.l.getD 0 0).toNat = 0 := by rw [h0]; rfl
  have hsl := hs.ln
  refine rG ?_; refine lV (r_asV (c64 0 (by decide))) ?_; refine aZ ?_; refine aZ ?_; refine eN ?_
  refine rG ?_; refine lV (r_asV (c64 0 (by decide))) ?_; refine eN ?_
  refine rG ?_; refine mV ?_; refine lV (r_lens el33 rfl) ?_; refine mV ?_; refine eN ?_
  refine qB ?_; repeat refine c_seq ?_
  refine wp_loop_rounds 2 ?_; refine c_round ?_; refine rG ?_; refine lV (r_bin (a := 0) (b := (s.len : Int)) rfl rfl (fun _ => b_lssB true (decide_eq_true oM))) ?_; refine eN ?_
  refine qY ?_; refine c_skip ?_; refine qB ?_; refine rG ?_; refine mV ?_; have ah3 := ((hs.up H (fun _ => apart_nil _))).addr (by (try simp only [Sl.cut]); omega)
  obtain ⟨ab1, ao2, ah3⟩ := ah3
  refine lV (r_isN 0 rfl rfl el33 ah3 oM (by (try simp only [Sl.cut]); omega)) ?_; refine lV (r_ldB (s := s) (k := 0) (hs.up H (fun _ => apart_nil _)) ah3 rfl ct5 (by (try simp only [Sl.cut]); omega)) ?_; refine aZ ?_; refine aZ ?_; refine eN ?_
  refine qB ?_; refine rG ?_; refine mV ?_; refine lV (r_bin (a := 0) (b := 9) rfl rfl (fun _ => b_eqlB false (decide_eq_false (by decide)))) ?_; refine mV ?_; refine l_no rfl rfl rfl rfl ?_; refine l_no rfl rfl rfl rfl ?_; refine lV (r_pick rfl) ?_; refine aZ ?_; refine eN ?_
  refine qN ?_; refine rG ?_; refine mV ?_; refine lV (r_bin (a := (((s.l).getD 0 0).toNat : Int)) (b := 0) rfl rfl (fun _ => b_eqlB true (decide_eq_true oM))) ?_; refine mV ?_; refine l_yes rfl rfl rfl (o_val r_mv ?_); refine l_yes rfl rfl rfl (o_val (r_bin (a := 0) (b := 0) rfl rfl (fun _ => b_gtrB false (decide_eq_false (by decide)))) ?_); refine lV (r_pick rfl) ?_; refine aZ ?_; refine eN ?_
  refine qN ?_; refine c_skip ?_; refine rG ?_; refine mV ?_; refine mV ?_; refine lV (r_bin rfl (c8 127 (by decide)) (fun _ => b_and_u8)) ?_; refine lV (r_conv Tryz.underlying5 Tryz.underlying25 rfl (w_u64_8 _)) ?_; refine mV ?_; refine lV (r_conv (v := ((UInt64.ofNat 0).toNat : Int)) Tryz.underlying3 Tryz.underlying131 rfl (w_u64_N 0 oM)) ?_; refine lV (r_bin (c64 7 (by decide)) rfl (fun _ => b_mul_u64N)) ?_; refine lV (r_shift rfl rfl (.inl rfl) (fun _ => b_shl_u64N (7 * 0) oM)) ?_; refine lV (r_bin rfl rfl (fun _ => b_or_u64)) ?_; refine aZ ?_; refine eN ?_
  refine rG ?_; refine mV ?_; refine lV (r_bin (a := (((s.l).getD 0 0).toNat : Int)) (b := 128) rfl rfl (fun _ => b_lssB true (decide_eq_true oM))) ?_; refine eN ?_
  refine qY ?_; refine rG ?_; refine mV ?_; refine mV ?_; refine lV (r_bin (a := 0) (b := 1) (v := VI 1) rfl rfl (fun _ => b_add oM oM)) ?_; refine aZ ?_; refine aZ ?_; refine aZ ?_; refine eN ?_
  refine cR ?_
  refine e_retN (vs := [V64 ((0 : UInt64) ||| (((((s.l).getD 0 0) &&& (127 : UInt8)).toUInt64) <<< UInt64.ofNat (7 * 0))), VI 1, VI 0]) _ Tryz.results148 rfl (resT (v := V64 ((0 : UInt64) ||| (((((s.l).getD 0 0) &&& (127 : UInt8)).toUInt64) <<< UInt64.ofNat (7 * 0)))) rfl (resT (v := VI 1) rfl (resT (v := VI 0) rfl (resZ)))) ?_
  refine ⟨_, rfl, ?_⟩
  refine ⟨?_, H⟩
  rw [h0]; rfl
theorem ttxt0_ret (w0 : World) (s : Sl) (hs : s.ok w0) (h1 : 1 ≤ s.len) (hl : s.l.getD 0 0 = 0) :
    Ret Tryz.prog 118 [s.v] w0 fun v w' => ∃ a c, v = .tuple #[.slice (hd a) 0 c, VI 1, VI 0] ∧ Hp w0 w' [] [.own a 0 c (([] : List UInt8).map V8) 5 1] := by
  refine ret_mk Tryz.func118 rfl Tryz.ntmps118 (by simp) ?_
  have H := Hp.refl w0 []
  have hz0 : (0 : UInt64).toNat = 0 := rfl
  have hsl := hs.ln
  have hle := hs.le
  have hmx := hs.mx
  refine rG ?_; refine aZ ?_; refine aZ ?_; refine aZ ?_; refine eN ?_
  refine rG ?_; refine mV ?_; refine l_op (o_callR Tryz.func148 rfl rfl rfl (tcnt0_ret _ s (hs.up H (fun _ => apart_nil _)) (by (try dsimp only); omega) hl) ?_); rintro _ w ⟨rfl, Hc⟩
  replace H : Hp _ w _ ([]) := H.call Hc
  clear Hc
  refine mV ?_; refine lV (r_ext rfl rfl) ?_; refine lV (r_ext rfl rfl) ?_; refine lV (r_ext rfl rfl) ?_; refine aZ ?_; refine aZ ?_; refine aZ ?_; refine eN ?_
  refine qB ?_; refine rG ?_; refine mV ?_; refine lV (r_bin (a := 0) (b := 0) rfl rfl (fun _ => b_neqB false (decide_eq_false (by decide)))) ?_; refine aZ ?_; refine eN ?_
  refine qN ?_; refine rG ?_; refine mV ?_; refine lV (r_bin (a := ((0 : UInt64).toNat : Int)) (b := 65536) rfl rfl (fun _ => b_gtrB false (decide_eq_false (by decide)))) ?_; refine aZ ?_; refine eN ?_
  refine qN ?_; refine rG ?_; refine mV ?_; refine lV (r_lens el33 rfl) ?_; refine mV ?_; refine lV (r_bin (a := (s.len : Int)) (b := 1) rfl rfl (fun _ => b_sub oM oM)) ?_; refine lV (r_conv Tryz.underlying3 Tryz.underlying25 rfl (w_u64_I _)) ?_; refine mV ?_; refine lV (r_bin (a := ((UInt64.ofInt ((s.len : Int) - 1)).toNat : Int)) (b := ((0 : UInt64).toNat : Int)) rfl rfl (fun _ => b_lssB false (decide_eq_false oM))) ?_; refine aZ ?_; refine eN ?_
  refine qN ?_; refine c_skip ?_; refine rG ?_; refine mV ?_; refine mV ?_; refine lV (r_conv Tryz.underlying25 Tryz.underlying3 rfl (w_i64_64 oM)) ?_; refine lV (r_bin (a := 1) (b := ((0 : UInt64).toNat : Int)) rfl rfl (fun _ => b_add oM oM)) ?_; refine aZ ?_; refine eN ?_
  refine rG ?_; refine mV ?_; refine mV ?_; refine mV ?_; refine lV (r_slS (s := s) 1 (1 + ((0 : UInt64).toNat)) s.cap (lv := some (VI 1)) (hv := some (VI (1 + ((0 : UInt64).toNat : Int)))) (mv := none) rfl el33 rfl rfl rfl (fun w => by exact sblh 1 (1 + ((0 : UInt64).toNat)) oM oM (by (try simp only [Sl.cut]); omega) (by (try simp only [Sl.cut]); omega) w)) ?_; refine l_op (o_callR Tryz.func114 rfl rfl rfl (own_ret _ (Sl.cut s 1 (1 + ((0 : UInt64).toNat)) s.cap) ((hs.up H (fun _ => apart_nil _)).cut (l := 1) (h := 1 + ((0 : UInt64).toNat)) (m := s.cap) oM (by (try simp only [Sl.cut]); omega) oM (by (try simp only [Sl.cut]); omega)) 0 (by first | omega | (simp only [Sl.cut]; omega))) ?_); rintro _ w ⟨a1, c2, rfl, Hc⟩
  replace H : Hp _ w _ ([.own a1 (1 + ((0 : UInt64).toNat) - 1) c2 ((((s.l).drop 1).take (1 + ((0 : UInt64).toNat) - 1)).map V8) 5 1]) := H.call Hc
  clear Hc
  refine mV ?_; refine aZ ?_; refine aZ ?_; refine aZ ?_; refine eN ?_
  refine cR ?_
  refine e_retN (vs := [.slice (hd a1) (1 + ((0 : UInt64).toNat) - 1) c2, VI (1 + ((0 : UInt64).toNat : Int)), VI 0]) _ Tryz.results118 rfl (resT (v := .slice (hd a1) (1 + ((0 : UInt64).toNat) - 1) c2) rfl (resT (v := VI (1 + ((0 : UInt64).toNat : Int))) rfl (resT (v := VI 0) rfl (resZ)))) ?_
  refine ⟨_, rfl, ?_⟩
  exact ⟨_, _, rfl, H.sub (.cons_cons _ (List.nil_sublist _))⟩
theorem num0_ret (w0 : World) (b : Nat) (x : Sl) (n : Nat) (u : UInt64) (hx : x.ok w0) (h1 : 1 ≤ n) (h8 : n ≤ 8) (hl : n ≤ x.len) (hu : num x.l 0 n = u) (hO : Own w0 [.blk b ([x.v, .bool false]) 125]) (hap : x.l ≠ [] → Apart x.a (keys hO.l)) :
    Ret Tryz.prog 74 [.pointer (some ⟨b, 0, none⟩), VI (n : Int)] w0 fun v w' => v = V64 u ∧ Hp w0 w' (keys hO.l) [.blk b [(x.tl n).v, .bool false] 125] := by
  refine ret_mk Tryz.func74 rfl Tryz.ntmps74 (by simp) ?_
  have H := hO.start
  have hxl := hx.ln
  have hxm := hx.mx
  have hxe := hx.le
  refine rG ?_; refine lV (r_asV (c64 0 (by decide))) ?_; refine eN ?_
  refine rG ?_; refine mV ?_; refine lV (r_nilc rfl) ?_; refine lV (r_fa rfl fo125_0) ?_; refine lV (r_ld (v := x.v) H (i := 0) rfl rfl ct33 rfl) ?_; refine mV ?_; refine l_op (o_callR Tryz.func117 rfl rfl rfl (at_ok _ x (hx.up H hap) 0 n oM oM oM oM) ?_); rintro _ w ⟨rfl, Hc⟩
  replace H : Hp _ w _ ([.blk b ([x.v, .bool false]) 125]) := H.call Hc
  clear Hc
  refine mV ?_; refine lV (r_ext rfl rfl) ?_; refine lV (r_ext rfl rfl) ?_; refine aZ ?_; refine aZ ?_; refine eN ?_
  refine rG ?_; refine mV ?_; refine lV (r_bin (a := 0) (b := 0) rfl rfl (fun _ => b_neqB false (decide_eq_false (by decide)))) ?_; refine eN ?_
  refine qN ?_; refine c_skip ?_; refine rG ?_; refine mV ?_; refine mV ?_; refine lV (r_nilc rfl) ?_; refine lV (r_fa rfl fo125_0) ?_; refine lV (r_ld (v := x.v) H (i := 0) rfl rfl ct33 rfl) ?_; refine mV ?_; refine lV (r_slTl (s := x) n (lv := some (VI (n : Int))) hxl rfl el33 rfl rfl rfl (fun w => by exact sbl n oM oM w)) ?_; refine lV (r_nilc rfl) ?_; refine lV (r_fa rfl fo125_0) ?_; refine l_op (o_st (v := (x.tl n).v) H (i := 0) rfl rfl rfl cs33 rfl (by simp only [List.length_cons, List.length_nil]; omega) (fun w H => ?_)); replace H : Hp _ w _ ([.blk b ([(x.tl n).v, .bool false]) 125]) := H
  refine eN ?_
  refine rG ?_; refine mV ?_; refine aZ ?_; refine eN ?_
  refine cR ?_
  refine e_ret1 (v := V64 (num x.l 0 n)) Tryz.results74 rfl ?_
  refine ⟨_, rfl, ?_⟩
  refine ⟨?_, H.sub (.cons_cons _ (List.nil_sublist _))⟩
  rw [hu]
theorem txt0_ret (w0 : World) (b : Nat) (x : Sl) (hx : x.ok w0) (hl : 1 ≤ x.len) (h0 : x.l.getD 0 0 = 0) (hO : Own w0 [.blk b ([x.v, .bool false]) 125]) (hap : x.l ≠ [] → Apart x.a (keys hO.l)) :
    Ret Tryz.prog 75 [.pointer (some ⟨b, 0, none⟩)] w0 fun v w' => v = .string ⟨([] : List UInt8).toArray⟩ ∧ Hp w0 w' (keys hO.l) [.blk b [(x.tl 1).v, .bool false] 125] := by
  refine ret_mk Tryz.func75 rfl Tryz.ntmps75 (by simp) ?_
  have H := hO.start
  have hxl := hx.ln
  have hxm := hx.mx
  have hxe := hx.le
  refine rG ?_; refine aZ ?_; refine eN ?_
  refine rG ?_; refine mV ?_; refine lV (r_nilc rfl) ?_; refine lV (r_fa rfl fo125_0) ?_; refine lV (r_ld (v := x.v) H (i := 0) rfl rfl ct33 rfl) ?_; refine l_op (o_callR Tryz.func118 rfl rfl rfl (ttxt0_ret _ x (hx.up H hap) hl h0) ?_); rintro _ w ⟨a1, c2, rfl, Hc⟩
  replace H : Hp _ w _ ([.blk b ([x.v, .bool false]) 125, .own a1 0 c2 ((([] : List UInt8)).map V8) 5 1]) := H.call Hc
  clear Hc
  refine mV ?_; refine lV (r_ext rfl rfl) ?_; refine lV (r_ext rfl rfl) ?_; refine lV (r_ext rfl rfl) ?_; refine aZ ?_; refine aZ ?_; refine aZ ?_; refine eN ?_
  refine rG ?_; refine mV ?_; refine lV (r_bin (a := 0) (b := 0) rfl rfl (fun _ => b_neqB false (decide_eq_false (by decide)))) ?_; refine eN ?_
  refine qN ?_; refine c_skip ?_; refine rG ?_; refine mV ?_; refine mV ?_; refine lV (r_nilc rfl) ?_; refine lV (r_fa rfl fo125_0) ?_; refine lV (r_ld (v := x.v) H (i := 0) rfl rfl ct33 rfl) ?_; refine mV ?_; refine lV (r_slTl (s := x) 1 (lv := some (VI 1)) hxl rfl el33 rfl rfl rfl (fun w => by exact sbl 1 oM oM w)) ?_; refine lV (r_nilc rfl) ?_; refine lV (r_fa rfl fo125_0) ?_; refine l_op (o_st (v := (x.tl 1).v) H (i := 0) rfl rfl rfl cs33 rfl (by simp only [List.length_cons, List.length_nil]; omega) (fun w H => ?_)); replace H : Hp _ w _ ([.blk b ([(x.tl 1).v, .bool false]) 125, _]) := H
  refine eN ?_
  refine rG ?_; refine mV ?_; refine lV (r_b2S (s := ⟨hd a1, 0, c2, ([] : List UInt8)⟩) Tryz.underlying33 Tryz.underlying5 Tryz.underlying9 rfl (H.slOwn (i := 1) rfl)) ?_; refine aZ ?_; refine eN ?_
  refine cR ?_
  refine e_ret1 (v := .string ⟨(([] : List UInt8)).toArray⟩) Tryz.results75 rfl ?_
  refine ⟨_, rfl, ?_⟩
  refine ⟨?_, H.sub (.cons_cons _ (List.nil_sublist _))⟩
  rfl
theorem may0_ret (w0 : World) (g : List UInt8) (_hg : g.length = 32) :
    Ret Tryz.prog 29 [.agg ([V64 (0 : UInt64), .string ⟨(([] : List UInt8)).toArray⟩, V8 (15 : UInt8), VI 0, VI 9223372036854775807, .slice none 0 0] ++ (g).map V8).toArray] w0 fun v w' => v = .bool true ∧ Hp w0 w' [] [] := by
  refine ret_mk Tryz.func29 rfl Tryz.ntmps29 (by simp) ?_
  have H := Hp.refl w0 []
  refine rG ?_; refine l_op (o_box (v := .agg ([V64 (0 : UInt64), .string ⟨(([] : List UInt8)).toArray⟩, V8 (15 : UInt8), VI 0, VI 9223372036854775807, .slice none 0 0] ++ (g).map V8).toArray) H rfl (fun b1 w H hb1 => ?_)); replace H : Hp _ w _ ([.blk b1 ([V64 (0 : UInt64), .string ⟨(([] : List UInt8)).toArray⟩, V8 (15 : UInt8), VI 0, VI 9223372036854775807, .slice none 0 0] ++ (g).map V8) 40]) := H
  refine aZ ?_; refine eN ?_
  refine rG ?_; refine lV (r_fa rfl fo40_1) ?_; refine lV (r_ld (v := .string ⟨(([] : List UInt8)).toArray⟩) H (i := 0) rfl rfl ct9 rfl) ?_; refine lV (r_strne (a := ([] : List UInt8)) (b := ([] : List UInt8)) rfl rfl) ?_; refine mV ?_; refine l_no rfl rfl (by exact congrArg Value.bool (congrArg not (decide_eq_true (rfl : ([] : List UInt8) = ([] : List UInt8))))) rfl ?_; refine l_no rfl rfl (by exact congrArg Value.bool (congrArg not (decide_eq_true (rfl : ([] : List UInt8) = ([] : List UInt8))))) rfl ?_; refine l_no rfl rfl (by exact congrArg Value.bool (congrArg not (decide_eq_true (rfl : ([] : List UInt8) = ([] : List UInt8))))) rfl ?_; refine l_no rfl rfl (by exact congrArg Value.bool (congrArg not (decide_eq_true (rfl : ([] : List UInt8) = ([] : List UInt8))))) rfl ?_; refine lV (r_pick (b := false) (congrArg Value.bool (congrArg not (decide_eq_true (rfl : ([] : List UInt8) = ([] : List UInt8)))))) ?_; refine mV ?_; refine l_yes rfl rfl rfl (o_val (r_fa rfl fo40_2) ?_); refine l_yes rfl rfl rfl (o_val (r_ld (v := V8 (15 : UInt8)) H (i := 0) rfl rfl ct37 rfl) ?_); refine l_yes rfl rfl rfl (o_callR Tryz.func39 rfl rfl rfl (rmay_ret _ ((15 : UInt8))) ?_); rintro _ w' ⟨rfl, hw2⟩
  rw [hw2]; clear hw2 w'
  have hk3 : (rMay ((15 : UInt8))) = true := (by rfl)
  refine l_yes rfl rfl rfl (o_val (r_not rfl) ?_); refine lV (r_pick rfl) ?_; refine mV ?_; refine l_yes rfl rfl (by exact congrArg Value.bool (congrArg not hk3)) (o_val (r_fa rfl fo40_5) ?_); refine l_yes rfl rfl (by exact congrArg Value.bool (congrArg not hk3)) (o_val (r_ld (v := .slice none 0 0) H (i := 0) rfl rfl ct38 rfl) ?_); refine l_yes rfl rfl (by exact congrArg Value.bool (congrArg not hk3)) (o_val (r_lens el38 rfl) ?_); refine l_yes rfl rfl (by exact congrArg Value.bool (congrArg not hk3)) (o_val (r_bin (a := 0) (b := 8) rfl rfl (fun _ => b_gtrB false (decide_eq_false (by decide)))) ?_); refine lV (r_pick (b := false) (congrArg Value.bool (congrArg not hk3))) ?_; refine eN ?_
  refine qN ?_; refine c_skip ?_; refine rG ?_; refine lV (r_fa rfl fo40_5) ?_; refine lV (r_ld (v := .slice none 0 0) H (i := 0) rfl rfl ct38 rfl) ?_; refine lV (r_lens el38 rfl) ?_; refine mV ?_; refine eN ?_
  refine qB ?_; repeat refine c_seq ?_
  refine wp_loop_rounds 1 ?_; refine c_round ?_; refine rG ?_; refine lV (r_bin (a := 0) (b := 0) rfl rfl (fun _ => b_lssB false (decide_eq_false (by decide)))) ?_; refine eN ?_
  refine qN ?_; refine c_exit ?_; refine rG ?_; refine aZ ?_; refine eN ?_
  refine cR ?_
  refine e_ret1 (v := .bool true) Tryz.results29 rfl ?_
  refine ⟨_, rfl, ?_⟩
  exact ⟨rfl, H.sub (List.nil_sublist _)⟩
theorem eff0_ret (w0 : World) (g : List UInt8) (_hg : g.length = 32) :
    Ret Tryz.prog 45 [.agg ([V64 (0 : UInt64), .string ⟨(([] : List UInt8)).toArray⟩, V8 (15 : UInt8), VI 0, VI 9223372036854775807, .slice none 0 0] ++ (g).map V8).toArray] w0 fun v w' => v = .tuple #[V8 15, VI 9223372036854775807] ∧ Hp w0 w' [] [] := by
  refine ret_mk Tryz.func45 rfl Tryz.ntmps45 (by simp) ?_
  have H := Hp.refl w0 []
  refine rG ?_; refine l_op (o_box (v := .agg ([V64 (0 : UInt64), .string ⟨(([] : List UInt8)).toArray⟩, V8 (15 : UInt8), VI 0, VI 9223372036854775807, .slice none 0 0] ++ (g).map V8).toArray) H rfl (fun b1 w H hb1 => ?_)); replace H : Hp _ w _ ([.blk b1 ([V64 (0 : UInt64), .string ⟨(([] : List UInt8)).toArray⟩, V8 (15 : UInt8), VI 0, VI 9223372036854775807, .slice none 0 0] ++ (g).map V8) 40]) := H
  refine lV (r_asV (c8 0 (by decide))) ?_; refine aZ ?_; refine eN ?_
  repeat refine c_seq ?_
  refine c_still mixed (by kernel_rfl) ?_; replace H := H.drew
  refine s_op (r_fa rfl fo40_2) ?_; refine s_op (r_ld (v := V8 (15 : UInt8)) H (i := 0) rfl rfl ct37 rfl) ?_; refine s_op (r_fa rfl fo40_4) ?_; refine s_op (r_ld (v := VI 9223372036854775807) H (i := 0) rfl rfl ct2 rfl) ?_; refine s_op (r_as) ?_; refine s_op (r_as) ?_; refine s_nil ?_; refine rG ?_; refine lV (r_fa rfl fo40_5) ?_; refine lV (r_ld (v := .slice none 0 0) H (i := 0) rfl rfl ct38 rfl) ?_; refine lV (r_lens el38 rfl) ?_; refine mV ?_; refine eN ?_
  refine qB ?_; repeat refine c_seq ?_
  refine wp_loop_rounds 1 ?_; refine c_round ?_; refine rG ?_; refine lV (r_bin (a := 0) (b := 0) rfl rfl (fun _ => b_lssB false (decide_eq_false (by decide)))) ?_; refine eN ?_
  refine qN ?_; refine c_exit ?_; refine rG ?_; refine mV ?_; refine mV ?_; refine aZ ?_; refine aZ ?_; refine eN ?_
  refine cR ?_
  refine e_retN (vs := [V8 (15 : UInt8), VI 9223372036854775807]) _ Tryz.results45 rfl (resT (v := V8 (15 : UInt8)) rfl (resT (v := VI 9223372036854775807) rfl (resZ))) ?_
  refine ⟨_, rfl, ?_⟩
  exact ⟨rfl, H.sub (List.nil_sublist _)⟩
theorem on0_ret (w0 : World) (g : List UInt8) (hg : g.length = 32) :
    Ret Tryz.prog 77 [.agg ((g).map V8).toArray, .slice none 0 0] w0 fun v w' => v = .agg (g.map V8).toArray ∧ Hp w0 w' [] [] := by
  refine ret_mk Tryz.func77 rfl Tryz.ntmps77 (by simp) ?_
  have H := Hp.refl w0 []
  refine rG ?_; refine l_op (o_box (v := .agg ((g).map V8).toArray) H rfl (fun b1 w H hb1 => ?_)); replace H : Hp _ w _ ([.blk b1 ((g).map V8) 24]) := H
  refine l_op (o_alloc H zc24 (fun b2 w H hb2 => ?_)); replace H : Hp _ w _ ([_, .blk b2 ((List.replicate 32 (0 : UInt8)).map V8) 24]) := H
  refine eN ?_
  refine rG ?_; refine mV ?_; refine lV (r_lens el38 rfl) ?_; refine mV ?_; refine eN ?_
  refine qB ?_; repeat refine c_seq ?_
  refine wp_loop_rounds 1 ?_; refine c_round ?_; refine rG ?_; refine lV (r_bin (a := 0) (b := 0) rfl rfl (fun _ => b_lssB false (decide_eq_false (by decide)))) ?_; refine eN ?_
  refine qN ?_; refine c_exit ?_; refine rG ?_; refine lV (r_ldAA (l := g) H (i := 0) rfl rfl rt24 (show (g).length = 32 from hg)) ?_; refine l_op (o_stA (l' := g) H (i := 1) rfl rfl rfl cs24 (show (List.replicate 32 (0 : UInt8)).length = 32 from (List.length_replicate ..)) (show (g).length = 32 from hg) (fun w H => ?_)); replace H : Hp _ w _ ([_, .blk b2 ((g).map V8) 24]) := H
  refine eN ?_
  refine cR ?_
  refine e_retA (l := g) Tryz.results77 H (i := 1) rfl rfl rt24 (show (g).length = 32 from hg) ?_
  refine ⟨_, rfl, ?_⟩
  exact ⟨rfl, H.sub (List.nil_sublist _)⟩
theorem take0_ret (w0 : World) (xa : Option Addr) (xc : Nat) (r : Id32) (hs : (⟨xa, 60, xc, tokB (tagR r)⟩ : Sl).ok w0) :
    Ret Tryz.prog 41 [(⟨xa, 60, xc, tokB (tagR r)⟩ : Sl).v] w0 fun v w' => v = .tuple #[.agg ([V64 (0 : UInt64), .string ⟨(([] : List UInt8)).toArray⟩, V8 (15 : UInt8), VI 0, VI 9223372036854775807, .slice none 0 0] ++ (tagR r).map V8).toArray, VI 0] ∧ Hp w0 w' [] [] := by
  refine ret_mk Tryz.func41 rfl Tryz.ntmps41 (by simp) ?_
  have H := Hp.refl w0 []
  have htg := tagR_len r
  have htk : (tokB (tagR r)).length = 60 := by rw [tokB, List.length_append, htg]; rfl
  have hle : 60 ≤ xc := hs.le
  have hmx := hs.mx
  dsimp only at hmx
  refine rG ?_; refine l_op (o_alloc H zc40 (fun b1 w H hb1 => ?_)); replace H : Hp _ w _ ([.blk b1 ([V64 (0 : UInt64), .string ⟨(([] : List UInt8)).toArray⟩, V8 (0 : UInt8), VI 0, VI 0, .slice none 0 0] ++ (List.replicate 32 (0 : UInt8)).map V8) 40]) := H
  refine aZ ?_; refine eN ?_
  refine rG ?_; refine mV ?_; refine lV (r_bld' (cells := ([(⟨xa, 60, xc, tokB (tagR r)⟩ : Sl).v, .bool false]).toArray) (pv := [(0, (⟨xa, 60, xc, tokB (tagR r)⟩ : Sl).v)]) bd125 rfl rfl) ?_; refine l_op (o_box (v := .agg ([(⟨xa, 60, xc, tokB (tagR r)⟩ : Sl).v, .bool false]).toArray) H rfl (fun b2 w H hb2 => ?_)); replace H : Hp _ w _ ([_, .blk b2 ([(⟨xa, 60, xc, tokB (tagR r)⟩ : Sl).v, .bool false]) 125]) := H
  refine aZ ?_; refine eN ?_
  refine rG ?_; refine mV ?_; refine l_op (o_callR Tryz.func74 rfl rfl rfl (num0_ret _ b2 (⟨xa, 60, xc, tokB (tagR r)⟩ : Sl) 1 1 (hs.up H (fun _ => apart_nil _)) (by decide) (by decide) (by show 1 ≤ 60; decide) (by rfl) (H.ownP ((perm_front (j := 1) rfl).trans (.cons _ (.refl _))) rfl) (fun _ => (hs.apart hb2 (by intro h; cases h)))) ?_); rintro _ w ⟨rfl, Hc⟩
  replace H := H.callP ((perm_front (j := 1) rfl).trans (.cons _ (.refl _))) rfl Hc (.refl _)
  clear Hc
  replace H : Hp _ w _ ([_, .blk b2 ([((⟨xa, 60, xc, tokB (tagR r)⟩ : Sl).tl 1).v, .bool false]) 125]) := H
  refine aZ ?_; refine eN ?_
  refine rG ?_; refine mV ?_; refine l_op (o_callR Tryz.func74 rfl rfl rfl (num0_ret _ b2 ((⟨xa, 60, xc, tokB (tagR r)⟩ : Sl).tl 1) 8 0 ((hs.up H (fun _ => apart_nil _)).tl (n := 1) (by show 1 ≤ 60; decide)) (by decide) (by decide) (by show 8 ≤ 59; decide) (by rfl) (H.ownP ((perm_front (j := 1) rfl).trans (.cons _ (.refl _))) rfl) (fun _ => ((hs.apart hb2 (by intro h; cases h)).sa _ _ _))) ?_); rintro _ w ⟨rfl, Hc⟩
  replace H := H.callP ((perm_front (j := 1) rfl).trans (.cons _ (.refl _))) rfl Hc (.refl _)
  clear Hc
  replace H : Hp _ w _ ([_, .blk b2 ([(((⟨xa, 60, xc, tokB (tagR r)⟩ : Sl).tl 1).tl 8).v, .bool false]) 125]) := H
  refine mV ?_; refine l_op (o_callR Tryz.func75 rfl rfl rfl (txt0_ret _ b2 (((⟨xa, 60, xc, tokB (tagR r)⟩ : Sl).tl 1).tl 8) (((hs.up H (fun _ => apart_nil _)).tl (n := 1) (by show 1 ≤ 60; decide)).tl (n := 8) (by show 8 ≤ 59; decide)) (by show 1 ≤ 51; decide) (by rfl) (H.ownP ((perm_front (j := 1) rfl).trans (.cons _ (.refl _))) rfl) (fun _ => (((hs.apart hb2 (by intro h; cases h)).sa _ _ _).sa _ _ _))) ?_); rintro _ w ⟨rfl, Hc⟩
  replace H := H.callP ((perm_front (j := 1) rfl).trans (.cons _ (.refl _))) rfl Hc (.refl _)
  clear Hc
  replace H : Hp _ w _ ([_, .blk b2 ([((((⟨xa, 60, xc, tokB (tagR r)⟩ : Sl).tl 1).tl 8).tl 1).v, .bool false]) 125]) := H
  refine mV ?_; refine l_op (o_callR Tryz.func74 rfl rfl rfl (num0_ret _ b2 ((((⟨xa, 60, xc, tokB (tagR r)⟩ : Sl).tl 1).tl 8).tl 1) 1 15 ((((hs.up H (fun _ => apart_nil _)).tl (n := 1) (by show 1 ≤ 60; decide)).tl (n := 8) (by show 8 ≤ 59; decide)).tl (n := 1) (by show 1 ≤ 51; decide)) (by decide) (by decide) (by show 1 ≤ 50; decide) (by rfl) (H.ownP ((perm_front (j := 1) rfl).trans (.cons _ (.refl _))) rfl) (fun _ => ((((hs.apart hb2 (by intro h; cases h)).sa _ _ _).sa _ _ _).sa _ _ _))) ?_); rintro _ w ⟨rfl, Hc⟩
  replace H := H.callP ((perm_front (j := 1) rfl).trans (.cons _ (.refl _))) rfl Hc (.refl _)
  clear Hc
  replace H : Hp _ w _ ([_, .blk b2 ([(((((⟨xa, 60, xc, tokB (tagR r)⟩ : Sl).tl 1).tl 8).tl 1).tl 1).v, .bool false]) 125]) := H
  refine lV (r_conv Tryz.underlying25 Tryz.underlying37 rfl (w_u8_64 _)) ?_; refine lV (r_bld' (cells := ([V64 (0 : UInt64), .string ⟨(([] : List UInt8)).toArray⟩, V8 ((15 : UInt64).toUInt8), VI 0, VI 0, .slice none 0 0] ++ (List.replicate 32 (0 : UInt8)).map V8).toArray) (pv := [(0, V64 (0 : UInt64)), (1, .string ⟨(([] : List UInt8)).toArray⟩), (2, V8 ((15 : UInt64).toUInt8))]) bd40 rfl rfl) ?_; refine l_op (o_alloc H zc40 (fun b3 w H hb3 => ?_)); replace H : Hp _ w _ ([_, _, .blk b3 ([V64 (0 : UInt64), .string ⟨(([] : List UInt8)).toArray⟩, V8 (0 : UInt8), VI 0, VI 0, .slice none 0 0] ++ (List.replicate 32 (0 : UInt8)).map V8) 40]) := H
  refine l_op (o_stW (C' := [V64 (0 : UInt64), .string ⟨(([] : List UInt8)).toArray⟩, V8 ((15 : UInt64).toUInt8), VI 0, VI 0, .slice none 0 0] ++ (List.replicate 32 (0 : UInt8)).map V8) H (i := 2) rfl rfl rfl cs40 (by simp [Value.oneCell']) (by rw [List.length_append, List.length_map, (show (List.replicate 32 (0 : UInt8)).length = 32 from (List.length_replicate ..))]; rfl) (by rw [List.length_append, List.length_map, (show (List.replicate 32 (0 : UInt8)).length = 32 from (List.length_replicate ..))]; rfl) (fun w H => ?_)); replace H : Hp _ w _ ([_, _, .blk b3 ([V64 (0 : UInt64), .string ⟨(([] : List UInt8)).toArray⟩, V8 ((15 : UInt64).toUInt8), VI 0, VI 0, .slice none 0 0] ++ (List.replicate 32 (0 : UInt8)).map V8) 40]) := H
  refine eN ?_
  refine rG ?_; refine mV ?_; refine l_op (o_callR Tryz.func74 rfl rfl rfl (num0_ret _ b2 (((((⟨xa, 60, xc, tokB (tagR r)⟩ : Sl).tl 1).tl 8).tl 1).tl 1) 8 0 (((((hs.up H (fun _ => apart_nil _)).tl (n := 1) (by show 1 ≤ 60; decide)).tl (n := 8) (by show 8 ≤ 59; decide)).tl (n := 1) (by show 1 ≤ 51; decide)).tl (n := 1) (by show 1 ≤ 50; decide)) (by decide) (by decide) (by show 8 ≤ 49; decide) (by rfl) (H.ownP ((perm_front (j := 1) rfl).trans (.cons _ (.refl _))) rfl) (fun _ => (((((hs.apart hb2 (by intro h; cases h)).sa _ _ _).sa _ _ _).sa _ _ _).sa _ _ _))) ?_); rintro _ w ⟨rfl, Hc⟩
  replace H := H.callP ((perm_front (j := 1) rfl).trans (.cons _ (.refl _))) rfl Hc ((perm_front (j := 0) rfl).trans (.cons _ ((perm_front (j := 1) rfl).trans (.cons _ (.refl _)))))
  clear Hc
  replace H : Hp _ w _ ([_, .blk b2 ([((((((⟨xa, 60, xc, tokB (tagR r)⟩ : Sl).tl 1).tl 8).tl 1).tl 1).tl 8).v, .bool false]) 125, _]) := H
  refine l_op (o_callR Tryz.func76 rfl rfl rfl (zagZ_ret _) ?_); rintro _ w ⟨rfl, Hc⟩
  replace H : Hp _ w _ ([_, _, _]) := H.call Hc
  clear Hc
  refine mV ?_; refine l_op (o_callR Tryz.func74 rfl rfl rfl (num0_ret _ b2 ((((((⟨xa, 60, xc, tokB (tagR r)⟩ : Sl).tl 1).tl 8).tl 1).tl 1).tl 8) 8 18446744073709551614 ((((((hs.up H (fun _ => apart_nil _)).tl (n := 1) (by show 1 ≤ 60; decide)).tl (n := 8) (by show 8 ≤ 59; decide)).tl (n := 1) (by show 1 ≤ 51; decide)).tl (n := 1) (by show 1 ≤ 50; decide)).tl (n := 8) (by show 8 ≤ 49; decide)) (by decide) (by decide) (by show 8 ≤ 41; decide) (by rfl) (H.ownP ((perm_front (j := 1) rfl).trans (.cons _ (.refl _))) rfl) (fun _ => ((((((hs.apart hb2 (by intro h; cases h)).sa _ _ _).sa _ _ _).sa _ _ _).sa _ _ _).sa _ _ _))) ?_); rintro _ w ⟨rfl, Hc⟩
  replace H := H.callP ((perm_front (j := 1) rfl).trans (.cons _ (.refl _))) rfl Hc ((perm_front (j := 0) rfl).trans (.cons _ ((perm_front (j := 1) rfl).trans (.cons _ (.refl _)))))
  clear Hc
  replace H : Hp _ w _ ([_, .blk b2 ([(((((((⟨xa, 60, xc, tokB (tagR r)⟩ : Sl).tl 1).tl 8).tl 1).tl 1).tl 8).tl 8).v, .bool false]) 125, _]) := H
  refine l_op (o_callR Tryz.func76 rfl rfl rfl (zagM_ret _) ?_); rintro _ w ⟨rfl, Hc⟩
  replace H : Hp _ w _ ([_, _, _]) := H.call Hc
  clear Hc
  refine lV (r_fa rfl fo40_3) ?_; refine l_op (o_st (v := VI (0 : Int)) H (i := 2) rfl rfl rfl cs2 rfl (by simp only [List.length_append, List.length_cons, List.length_nil]; omega) (fun w H => ?_)); replace H : Hp _ w _ ([_, _, .blk b3 ([V64 (0 : UInt64), .string ⟨(([] : List UInt8)).toArray⟩, V8 ((15 : UInt64).toUInt8), VI (0 : Int), VI 0, .slice none 0 0] ++ (List.replicate 32 (0 : UInt8)).map V8) 40]) := H
  refine lV (r_fa rfl fo40_4) ?_; refine l_op (o_st (v := VI 9223372036854775807) H (i := 2) rfl rfl rfl cs2 rfl (by simp only [List.length_append, List.length_cons, List.length_nil]; omega) (fun w H => ?_)); replace H : Hp _ w _ ([_, _, .blk b3 ([V64 (0 : UInt64), .string ⟨(([] : List UInt8)).toArray⟩, V8 ((15 : UInt64).toUInt8), VI (0 : Int), VI 9223372036854775807, .slice none 0 0] ++ (List.replicate 32 (0 : UInt8)).map V8) 40]) := H
  refine eN ?_
  refine rG ?_; refine mV ?_; refine l_op (o_callR Tryz.func74 rfl rfl rfl (num0_ret _ b2 (((((((⟨xa, 60, xc, tokB (tagR r)⟩ : Sl).tl 1).tl 8).tl 1).tl 1).tl 8).tl 8) 1 0 (((((((hs.up H (fun _ => apart_nil _)).tl (n := 1) (by show 1 ≤ 60; decide)).tl (n := 8) (by show 8 ≤ 59; decide)).tl (n := 1) (by show 1 ≤ 51; decide)).tl (n := 1) (by show 1 ≤ 50; decide)).tl (n := 8) (by show 8 ≤ 49; decide)).tl (n := 8) (by show 8 ≤ 41; decide)) (by decide) (by decide) (by show 1 ≤ 33; decide) (by rfl) (H.ownP ((perm_front (j := 1) rfl).trans (.cons _ (.refl _))) rfl) (fun _ => (((((((hs.apart hb2 (by intro h; cases h)).sa _ _ _).sa _ _ _).sa _ _ _).sa _ _ _).sa _ _ _).sa _ _ _))) ?_); rintro _ w ⟨rfl, Hc⟩
  replace H := H.callP ((perm_front (j := 1) rfl).trans (.cons _ (.refl _))) rfl Hc ((perm_front (j := 0) rfl).trans (.cons _ ((perm_front (j := 1) rfl).trans (.cons _ (.refl _)))))
  clear Hc
  replace H : Hp _ w _ ([_, .blk b2 ([((((((((⟨xa, 60, xc, tokB (tagR r)⟩ : Sl).tl 1).tl 8).tl 1).tl 1).tl 8).tl 8).tl 1).v, .bool false]) 125, _]) := H
  refine aZ ?_; refine eN ?_
  refine rG ?_; refine mV ?_; refine lV (r_nilc rfl) ?_; refine lV (r_fa rfl fo125_1) ?_; refine lV (r_ld (v := .bool false) H (i := 1) rfl rfl ct4 rfl) ?_; refine mV ?_; refine l_yes rfl rfl rfl (o_val r_mv ?_); refine l_yes rfl rfl rfl (o_val (r_bin (a := ((1 : UInt64).toNat : Int)) (b := 1) rfl rfl (fun _ => b_neqB false (decide_eq_false (by decide)))) ?_); refine lV (r_pick rfl) ?_; refine mV ?_; refine l_yes rfl rfl rfl (o_val r_mv ?_); refine l_yes rfl rfl rfl (o_val (r_bin (a := ((0 : UInt64).toNat : Int)) (b := 8) rfl rfl (fun _ => b_gtrB false (decide_eq_false (by decide)))) ?_); refine lV (r_pick rfl) ?_; refine eN ?_
  refine qN ?_; refine c_skip ?_; refine rG ?_; refine mV ?_; refine lV (r_mvV (c64 0 (by decide))) ?_; refine eN ?_
  refine qB ?_; repeat refine c_seq ?_
  refine wp_loop_rounds 1 ?_; refine c_round ?_; refine rG ?_; refine lV (r_bin (a := ((0 : UInt64).toNat : Int)) (b := ((0 : UInt64).toNat : Int)) rfl rfl (fun _ => b_lssB false (decide_eq_false (by decide)))) ?_; refine eN ?_
  refine qN ?_; refine c_exit ?_; refine rG ?_; refine mV ?_; refine lV (r_nilc rfl) ?_; refine lV (r_fa rfl fo125_1) ?_; refine lV (r_ld (v := .bool false) H (i := 1) rfl rfl ct4 rfl) ?_; refine mV ?_; refine l_yes rfl rfl rfl (o_val r_mv ?_); refine l_yes rfl rfl rfl (o_val (r_nilc rfl) ?_); refine l_yes rfl rfl rfl (o_val (r_fa rfl fo125_0) ?_); refine l_yes rfl rfl rfl (o_val (r_ld (v := ((((((((⟨xa, 60, xc, tokB (tagR r)⟩ : Sl).tl 1).tl 8).tl 1).tl 1).tl 8).tl 8).tl 1).v) H (i := 1) rfl rfl ct33 rfl) ?_); refine l_yes rfl rfl rfl (o_val (r_lens el33 rfl) ?_); refine l_yes rfl rfl rfl (o_val (r_bin (a := 32) (b := 32) rfl rfl (fun _ => b_neqB false (decide_eq_false (by decide)))) ?_); refine lV (r_pick rfl) ?_; refine mV ?_; refine l_yes rfl rfl rfl (o_val (r_ldA (C := [V64 (0 : UInt64), .string ⟨(([] : List UInt8)).toArray⟩, V8 ((15 : UInt64).toUInt8), VI (0 : Int), VI 9223372036854775807, .slice none 0 0] ++ (List.replicate 32 (0 : UInt8)).map V8) H (i := 2) rfl rfl rt40 (by rw [List.length_append, List.length_map, (show (List.replicate 32 (0 : UInt8)).length = 32 from (List.length_replicate ..))]; rfl)) ?_); refine l_yes rfl rfl rfl (o_callR Tryz.func29 rfl rfl rfl (may0_ret _ (List.replicate 32 (0 : UInt8)) (show (List.replicate 32 (0 : UInt8)).length = 32 from (List.length_replicate ..))) ?_); rintro _ w ⟨rfl, Hc⟩
  replace H : Hp _ w _ ([_, _, _]) := H.call Hc
  clear Hc
  refine l_yes rfl rfl rfl (o_val (r_not rfl) ?_); refine lV (r_pick rfl) ?_; refine eN ?_
  refine qN ?_; refine c_skip ?_; refine rG ?_; refine mV ?_; refine lV (r_nilc rfl) ?_; refine lV (r_fa rfl fo125_0) ?_; refine lV (r_ld (v := ((((((((⟨xa, 60, xc, tokB (tagR r)⟩ : Sl).tl 1).tl 8).tl 1).tl 1).tl 8).tl 8).tl 1).v) H (i := 1) rfl rfl ct33 rfl) ?_; refine lV (r_sap Tryz.underlying24 rfl (by (try simp only [Sl.tl]); omega)) ?_; have ah6 := (((((((((hs.up H (fun _ => apart_nil _)).tl (n := 1) (by show 1 ≤ 60; decide)).tl (n := 8) (by show 8 ≤ 59; decide)).tl (n := 1) (by show 1 ≤ 51; decide)).tl (n := 1) (by show 1 ≤ 50; decide)).tl (n := 8) (by show 8 ≤ 49; decide)).tl (n := 8) (by show 8 ≤ 41; decide)).tl (n := 1) (by show 1 ≤ 33; decide))).addr (by (try simp only [Sl.tl]); omega)
  obtain ⟨ab4, ao5, ah6⟩ := ah6
  refine lV (r_ldSE (s := ((((((((⟨xa, 60, xc, tokB (tagR r)⟩ : Sl).tl 1).tl 8).tl 1).tl 1).tl 8).tl 8).tl 1)) (k := 32) ((((((((hs.up H (fun _ => apart_nil _)).tl (n := 1) (by show 1 ≤ 60; decide)).tl (n := 8) (by show 8 ≤ 59; decide)).tl (n := 1) (by show 1 ≤ 51; decide)).tl (n := 1) (by show 1 ≤ 50; decide)).tl (n := 8) (by show 8 ≤ 49; decide)).tl (n := 8) (by show 8 ≤ 41; decide)).tl (n := 1) (by show 1 ≤ 33; decide)) ah6 rfl rt24 (by decide) rfl) ?_; refine lV (r_fa rfl fo40_6) ?_; refine l_op (o_stT (pre := [V64 (0 : UInt64), .string ⟨(([] : List UInt8)).toArray⟩, V8 ((15 : UInt64).toUInt8), VI (0 : Int), VI 9223372036854775807, .slice none 0 0]) (l := List.replicate 32 (0 : UInt8)) (l' := (tokB (tagR r)).drop 28) H (i := 2) rfl rfl rfl cs24 rfl (show (List.replicate 32 (0 : UInt8)).length = 32 from (List.length_replicate ..)) (show ((tokB (tagR r)).drop 28).length = 32 from (by simp only [List.length_drop]; omega)) (fun w H => ?_)); replace H : Hp _ w _ ([_, _, .blk b3 ([V64 (0 : UInt64), .string ⟨(([] : List UInt8)).toArray⟩, V8 ((15 : UInt64).toUInt8), VI (0 : Int), VI 9223372036854775807, .slice none 0 0] ++ ((tokB (tagR r)).drop 28).map V8) 40]) := H
  refine eN ?_
  refine rG ?_; refine lV (r_ldA (C := [V64 (0 : UInt64), .string ⟨(([] : List UInt8)).toArray⟩, V8 ((15 : UInt64).toUInt8), VI (0 : Int), VI 9223372036854775807, .slice none 0 0] ++ ((tokB (tagR r)).drop 28).map V8) H (i := 2) rfl rfl rt40 (by rw [List.length_append, List.length_map, (show ((tokB (tagR r)).drop 28).length = 32 from (by simp only [List.length_drop]; omega))]; rfl)) ?_; refine l_op (o_stW (C' := [V64 (0 : UInt64), .string ⟨(([] : List UInt8)).toArray⟩, V8 ((15 : UInt64).toUInt8), VI (0 : Int), VI 9223372036854775807, .slice none 0 0] ++ ((tokB (tagR r)).drop 28).map V8) H (i := 0) rfl rfl rfl cs40 (all_tail (by simp [Value.oneCell'])) (by rw [List.length_append, List.length_map, (show (List.replicate 32 (0 : UInt8)).length = 32 from (List.length_replicate ..))]; rfl) (by rw [List.length_append, List.length_map, (show ((tokB (tagR r)).drop 28).length = 32 from (by simp only [List.length_drop]; omega))]; rfl) (fun w H => ?_)); replace H : Hp _ w _ ([.blk b1 ([V64 (0 : UInt64), .string ⟨(([] : List UInt8)).toArray⟩, V8 ((15 : UInt64).toUInt8), VI (0 : Int), VI 9223372036854775807, .slice none 0 0] ++ ((tokB (tagR r)).drop 28).map V8) 40, _, _]) := H
  refine aZ ?_; refine eN ?_
  refine cR ?_
  refine e_retN (vs := [.agg ([V64 (0 : UInt64), .string ⟨(([] : List UInt8)).toArray⟩, V8 ((15 : UInt64).toUInt8), VI (0 : Int), VI 9223372036854775807, .slice none 0 0] ++ ((tokB (tagR r)).drop 28).map V8).toArray, VI 0]) _ Tryz.results41 rfl (H.resR (C := [V64 (0 : UInt64), .string ⟨(([] : List UInt8)).toArray⟩, V8 ((15 : UInt64).toUInt8), VI (0 : Int), VI 9223372036854775807, .slice none 0 0] ++ ((tokB (tagR r)).drop 28).map V8) (i := 0) rfl rfl rt40 (by rw [List.length_append, List.length_map, (show ((tokB (tagR r)).drop 28).length = 32 from (by simp only [List.length_drop]; omega))]; rfl) (resT (v := VI 0) rfl (resZ))) ?_
  refine ⟨_, rfl, ?_⟩
  exact ⟨rfl, H.sub (List.nil_sublist _)⟩
theorem take1_ret (w0 : World) (r : Id32) (s : Sl) (hs : s.ok w0) (hsl : s.l = tokB (tagR r) ∧ s.len ≤ 4096) : Ret Tryz.prog 41 [s.v] w0 fun v w' => v = .tuple #[.agg ([V64 (0 : UInt64), .string ⟨(([] : List UInt8)).toArray⟩, V8 (15 : UInt8), VI 0, VI 9223372036854775807, .slice none 0 0] ++ (tagR r).map V8).toArray, VI 0] ∧ Hp w0 w' [] [] := by
  obtain ⟨xa, xn, xc, xl⟩ := s
  obtain ⟨h1, _⟩ := hsl
  dsimp only at h1
  subst h1
  have h2 := hs.ln
  dsimp only at h2
  have h3 : (tokB (tagR r)).length = 60 := by rw [tokB, List.length_append, tagR_len]; rfl
  rw [h3] at h2
  subst h2
  exact take0_ret w0 xa xc r hs
theorem frH_len : (framed [headB 0 [] 15 0 9223372036854775807]).length ≤ 1048576 := by simp [framed, be_len, headB, timeB, cnt]
theorem issue0_ret (w0 : World) (r : Id32) :
    Ret Tryz.prog 16 [.agg ((r.1).map V8).toArray, .agg ([V64 (0 : UInt64), .string ⟨(([] : List UInt8)).toArray⟩, V8 (15 : UInt8), VI 0, VI 9223372036854775807, .slice none 0 0] ++ (List.replicate 32 (0 : UInt8)).map V8).toArray] w0 fun v w' => v = .tuple #[.agg ([V64 (0 : UInt64), .string ⟨(([] : List UInt8)).toArray⟩, V8 (15 : UInt8), VI 0, VI 9223372036854775807, .slice none 0 0] ++ (tagR r).map V8).toArray, VI 0] ∧ Hp w0 w' [] [] := by
  refine ret_mk Tryz.func16 rfl Tryz.ntmps16 (by simp) ?_
  have H := Hp.refl w0 []
  refine rG ?_; refine l_op (o_box (v := .agg ((r.1).map V8).toArray) H rfl (fun b1 w H hb1 => ?_)); replace H : Hp _ w _ ([.blk b1 ((r.1).map V8) 24]) := H
  refine l_op (o_box (v := .agg ([V64 (0 : UInt64), .string ⟨(([] : List UInt8)).toArray⟩, V8 (15 : UInt8), VI 0, VI 9223372036854775807, .slice none 0 0] ++ (List.replicate 32 (0 : UInt8)).map V8).toArray) H rfl (fun b2 w H hb2 => ?_)); replace H : Hp _ w _ ([_, .blk b2 ([V64 (0 : UInt64), .string ⟨(([] : List UInt8)).toArray⟩, V8 (15 : UInt8), VI 0, VI 9223372036854775807, .slice none 0 0] ++ (List.replicate 32 (0 : UInt8)).map V8) 40]) := H
  refine l_op (o_alloc H zc40 (fun b3 w H hb3 => ?_)); replace H : Hp _ w _ ([_, _, .blk b3 ([V64 (0 : UInt64), .string ⟨(([] : List UInt8)).toArray⟩, V8 (0 : UInt8), VI 0, VI 0, .slice none 0 0] ++ (List.replicate 32 (0 : UInt8)).map V8) 40]) := H
  refine aZ ?_; refine eN ?_
  refine rG ?_; refine lV (r_ldA (C := [V64 (0 : UInt64), .string ⟨(([] : List UInt8)).toArray⟩, V8 (15 : UInt8), VI 0, VI 9223372036854775807, .slice none 0 0] ++ (List.replicate 32 (0 : UInt8)).map V8) H (i := 1) rfl rfl rt40 (by rw [List.length_append, List.length_map, (show (List.replicate 32 (0 : UInt8)).length = 32 from (List.length_replicate ..))]; rfl)) ?_; refine l_op (o_callR Tryz.func29 rfl rfl rfl (may0_ret _ (List.replicate 32 (0 : UInt8)) (show (List.replicate 32 (0 : UInt8)).length = 32 from (List.length_replicate ..))) ?_); rintro _ w ⟨rfl, Hc⟩
  replace H : Hp _ w _ ([_, _, _]) := H.call Hc
  clear Hc
  refine lV (r_not rfl) ?_; refine mV ?_; refine l_yes rfl rfl rfl (o_val (r_fa rfl fo40_5) ?_); refine l_yes rfl rfl rfl (o_val (r_ld (v := .slice none 0 0) H (i := 1) rfl rfl ct38 rfl) ?_); refine l_yes rfl rfl rfl (o_val (r_lens el38 rfl) ?_); refine l_yes rfl rfl rfl (o_val (r_bin (a := 0) (b := 0) rfl rfl (fun _ => b_gtrB false (decide_eq_false (by decide)))) ?_); refine lV (r_pick rfl) ?_; refine eN ?_
  refine qN ?_; refine c_skip ?_; repeat refine c_seq ?_
  refine heldS H (H.sub (.cons_cons _ (.cons _ (.cons_cons _ (List.nil_sublist _))))) mixed fun H HS => ?_
  refine tK 0 rfl (fun w HS => r_slA (h := 32) (m := 32) (lv := none) (hv := none) (mv := none) rfl ar24 rfl rfl rfl (fun w => sbn w)) HS ?_; refine tU 1 rfl (o_val (r_ldA (C := [V64 (0 : UInt64), .string ⟨(([] : List UInt8)).toArray⟩, V8 (15 : UInt8), VI 0, VI 9223372036854775807, .slice none 0 0] ++ (List.replicate 32 (0 : UInt8)).map V8) H (i := 1) rfl rfl rt40 (by rw [List.length_append, List.length_map, (show (List.replicate 32 (0 : UInt8)).length = 32 from (List.length_replicate ..))]; rfl)) ?_); replace HS := H.sub (.cons_cons _ (.cons _ (.cons_cons _ (List.nil_sublist _))))
  refine ⟨HS, ?_⟩
  refine tK 5 rfl (fun w HS => r_fa rfl fo40_5) HS ?_; refine tU 2 rfl (o_callR Tryz.func31 rfl rfl rfl (head_ret _ (⟨(0 : UInt64), ([] : List UInt8), (15 : UInt8), 0, 9223372036854775807, ⟨none, 0, 0, []⟩, List.replicate 32 (0 : UInt8)⟩ : Tok) (Gl.ok_nil _) (show (List.replicate 32 (0 : UInt8)).length = 32 from (List.length_replicate ..)) (by first | omega | (dsimp only; omega) | simp)) ?_); rintro _ w ⟨a4, n5, c6, rfl, hn7, hh8, Hc⟩
  replace H : Hp _ w _ ([_, _, _, .own a4 n5 c6 ((headB ((0 : UInt64)) (([] : List UInt8)) ((15 : UInt8)) (0) (9223372036854775807)).map V8) 5 1]) := H.call Hc
  clear Hc
  try dsimp only at hn7
  replace HS := H.sub (.cons_cons _ (.cons _ (.cons_cons _ (List.nil_sublist _))))
  refine ⟨HS, ?_⟩
  refine tU 3 rfl (o_bslV ([.slice (hd a4) n5 c6]) H sl80 zc33 rfl (by simp [Value.oneCell']) rfl (by decide) (fun b9 w H hb9 => ?_)); replace H : Hp _ w _ ([_, _, _, _, .own (some b9) 1 1 ([.slice (hd a4) n5 c6]) 33 1]) := H
  replace HS := H.sub (.cons_cons _ (.cons _ (.cons_cons _ (List.nil_sublist _))))
  refine ⟨HS, ?_⟩
  refine tU 4 rfl (o_callR Tryz.func30 rfl rfl rfl (macOf_ret _ (⟨some ⟨b1, 0, none⟩, 32, 32, r.1⟩ : Sl) (H.slBlkA (i := 0) rfl 32 (show (r.1).length = 32 from r.2) (by decide)) (hd (some b9)) 1 1 [⟨hd a4, n5, c6, headB ((0 : UInt64)) (([] : List UInt8)) ((15 : UInt8)) (0) (9223372036854775807)⟩] (H.own (i := 4) rfl) rfl (all1 (H.slOwn (i := 3) rfl)) oM frH_len) ?_); rintro _ w ⟨rfl, Hc⟩
  replace H : Hp _ w _ ([_, _, _, _, _]) := H.call Hc
  clear Hc
  replace HS := H.sub (.cons_cons _ (.cons _ (.cons_cons _ (List.nil_sublist _))))
  refine ⟨HS, ?_⟩
  refine tU 6 rfl (o_st (v := .slice none 0 0) H (i := 1) rfl rfl rfl cs38 rfl (by simp only [List.length_append, List.length_cons, List.length_nil]; omega) (fun w H => ?_)); replace H : Hp _ w _ [_, _, _, _, _] := H
  replace HS := H.sub (.cons_cons _ (.cons _ (.cons_cons _ (List.nil_sublist _))))
  refine ⟨HS, ?_⟩
  refine tK 7 rfl (fun w HS => r_fa rfl fo40_6) HS ?_; refine tU 8 rfl (o_stT (pre := [V64 (0 : UInt64), .string ⟨(([] : List UInt8)).toArray⟩, V8 (15 : UInt8), VI 0, VI 9223372036854775807, .slice none 0 0]) (l := List.replicate 32 (0 : UInt8)) (l' := hmac (r.1) (framed [headB ((0 : UInt64)) (([] : List UInt8)) ((15 : UInt8)) (0) (9223372036854775807)])) H (i := 1) rfl rfl rfl cs24 rfl (show (List.replicate 32 (0 : UInt8)).length = 32 from (List.length_replicate ..)) (show (hmac (r.1) (framed [headB ((0 : UInt64)) (([] : List UInt8)) ((15 : UInt8)) (0) (9223372036854775807)])).length = 32 from hmac_len _ _) (fun w H => ?_)); replace H : Hp _ w _ ([_, .blk b2 ([V64 (0 : UInt64), .string ⟨(([] : List UInt8)).toArray⟩, V8 (15 : UInt8), VI 0, VI 9223372036854775807, .slice none 0 0] ++ (hmac (r.1) (framed [headB ((0 : UInt64)) (([] : List UInt8)) ((15 : UInt8)) (0) (9223372036854775807)])).map V8) 40, _, _, _]) := H
  replace HS := H.sub (.cons_cons _ (.cons _ (.cons_cons _ (List.nil_sublist _))))
  refine ⟨HS, ?_⟩
  refine t_done (by kernel_rfl) ?_
  clear HS
  refine rG ?_; refine lV (r_ldA (C := [V64 (0 : UInt64), .string ⟨(([] : List UInt8)).toArray⟩, V8 (15 : UInt8), VI 0, VI 9223372036854775807, .slice none 0 0] ++ (hmac (r.1) (framed [headB ((0 : UInt64)) (([] : List UInt8)) ((15 : UInt8)) (0) (9223372036854775807)])).map V8) H (i := 1) rfl rfl rt40 (by rw [List.length_append, List.length_map, (show (hmac (r.1) (framed [headB ((0 : UInt64)) (([] : List UInt8)) ((15 : UInt8)) (0) (9223372036854775807)])).length = 32 from hmac_len _ _)]; rfl)) ?_; refine l_op (o_stW (C' := [V64 (0 : UInt64), .string ⟨(([] : List UInt8)).toArray⟩, V8 (15 : UInt8), VI 0, VI 9223372036854775807, .slice none 0 0] ++ (hmac (r.1) (framed [headB ((0 : UInt64)) (([] : List UInt8)) ((15 : UInt8)) (0) (9223372036854775807)])).map V8) H (i := 2) rfl rfl rfl cs40 (by simp [Value.oneCell']) (by rw [List.length_append, List.length_map, (show (List.replicate 32 (0 : UInt8)).length = 32 from (List.length_replicate ..))]; rfl) (by rw [List.length_append, List.length_map, (show (hmac (r.1) (framed [headB ((0 : UInt64)) (([] : List UInt8)) ((15 : UInt8)) (0) (9223372036854775807)])).length = 32 from hmac_len _ _)]; rfl) (fun w H => ?_)); replace H : Hp _ w _ ([_, _, .blk b3 ([V64 (0 : UInt64), .string ⟨(([] : List UInt8)).toArray⟩, V8 (15 : UInt8), VI 0, VI 9223372036854775807, .slice none 0 0] ++ (hmac (r.1) (framed [headB ((0 : UInt64)) (([] : List UInt8)) ((15 : UInt8)) (0) (9223372036854775807)])).map V8) 40, _, _]) := H
  refine aZ ?_; refine eN ?_
  refine cR ?_
  refine e_retN (vs := [.agg ([V64 (0 : UInt64), .string ⟨(([] : List UInt8)).toArray⟩, V8 (15 : UInt8), VI 0, VI 9223372036854775807, .slice none 0 0] ++ (hmac (r.1) (framed [headB ((0 : UInt64)) (([] : List UInt8)) ((15 : UInt8)) (0) (9223372036854775807)])).map V8).toArray, VI 0]) _ Tryz.results16 rfl (H.resR (C := [V64 (0 : UInt64), .string ⟨(([] : List UInt8)).toArray⟩, V8 (15 : UInt8), VI 0, VI 9223372036854775807, .slice none 0 0] ++ (hmac (r.1) (framed [headB ((0 : UInt64)) (([] : List UInt8)) ((15 : UInt8)) (0) (9223372036854775807)])).map V8) (i := 2) rfl rfl rt40 (by rw [List.length_append, List.length_map, (show (hmac (r.1) (framed [headB ((0 : UInt64)) (([] : List UInt8)) ((15 : UInt8)) (0) (9223372036854775807)])).length = 32 from hmac_len _ _)]; rfl) (resT (v := VI 0) rfl (resZ))) ?_
  refine ⟨_, rfl, ?_⟩
  exact ⟨rfl, H.sub (List.nil_sublist _)⟩
theorem check0_ret (w0 : World) (r : Id32) (now : Int) (hnow : 0 ≤ now ∧ now < 9223372036854775807) :
    Ret Tryz.prog 42 [.agg ((r.1).map V8).toArray, .agg ([V64 (0 : UInt64), .string ⟨(([] : List UInt8)).toArray⟩, V8 (15 : UInt8), VI 0, VI 9223372036854775807, .slice none 0 0] ++ (tagR r).map V8).toArray, VI now] w0 fun v w' => v = VI 0 ∧ Hp w0 w' [] [] := by
  refine ret_mk Tryz.func42 rfl Tryz.ntmps42 (by simp) ?_
  have H := Hp.refl w0 []
  refine rG ?_; refine l_op (o_box (v := .agg ((r.1).map V8).toArray) H rfl (fun b1 w H hb1 => ?_)); replace H : Hp _ w _ ([.blk b1 ((r.1).map V8) 24]) := H
  refine l_op (o_box (v := .agg ([V64 (0 : UInt64), .string ⟨(([] : List UInt8)).toArray⟩, V8 (15 : UInt8), VI 0, VI 9223372036854775807, .slice none 0 0] ++ (tagR r).map V8).toArray) H rfl (fun b2 w H hb2 => ?_)); replace H : Hp _ w _ ([_, .blk b2 ([V64 (0 : UInt64), .string ⟨(([] : List UInt8)).toArray⟩, V8 (15 : UInt8), VI 0, VI 9223372036854775807, .slice none 0 0] ++ (tagR r).map V8) 40]) := H
  refine aZ ?_; refine eN ?_
  refine rG ?_; refine lV (r_ldA (C := [V64 (0 : UInt64), .string ⟨(([] : List UInt8)).toArray⟩, V8 (15 : UInt8), VI 0, VI 9223372036854775807, .slice none 0 0] ++ (tagR r).map V8) H (i := 1) rfl rfl rt40 (by rw [List.length_append, List.length_map, (show (tagR r).length = 32 from tagR_len _)]; rfl)) ?_; refine l_op (o_callR Tryz.func29 rfl rfl rfl (may0_ret _ (tagR r) (show (tagR r).length = 32 from tagR_len _)) ?_); rintro _ w ⟨rfl, Hc⟩
  replace H : Hp _ w _ ([_, _]) := H.call Hc
  clear Hc
  refine lV (r_not rfl) ?_; refine eN ?_
  refine qN ?_; refine c_skip ?_; repeat refine c_seq ?_
  refine c_join (fun τ w => ∃ b9 a3 n4 c5 b8, ∃ σ, τ = ups σ [(2, VI now), (4, .pointer (some ⟨b2, 0, none⟩)), (7, .pointer (some ⟨b9, 0, none⟩))] ∧ Hp w0 w [] ([.blk b1 ((r.1).map V8) 24, .blk b2 ([V64 (0 : UInt64), .string ⟨(([] : List UInt8)).toArray⟩, V8 (15 : UInt8), VI 0, VI 9223372036854775807, .slice none 0 0] ++ (tagR r).map V8) 40, .own a3 n4 c5 ((headB ((0 : UInt64)) (([] : List UInt8)) ((15 : UInt8)) (0) (9223372036854775807)).map V8) 5 1, .own (some b8) 1 1 ([.slice (hd a3) n4 c5]) 33 1, .blk b9 ((hmac (r.1) (framed [headB ((0 : UInt64)) (([] : List UInt8)) ((15 : UInt8)) (0) (9223372036854775807)])).map V8) 24])) ?_ ?_; refine heldH H mixed fun H => ?_
  have HS := H
  refine tK 0 rfl (fun w HS => r_slA (h := 32) (m := 32) (lv := none) (hv := none) (mv := none) rfl ar24 rfl rfl rfl (fun w => sbn w)) HS ?_; refine tK 1 rfl (fun w HS => r_ldA (C := [V64 (0 : UInt64), .string ⟨(([] : List UInt8)).toArray⟩, V8 (15 : UInt8), VI 0, VI 9223372036854775807, .slice none 0 0] ++ (tagR r).map V8) HS (i := 1) rfl rfl rt40 (by rw [List.length_append, List.length_map, (show (tagR r).length = 32 from tagR_len _)]; rfl)) HS ?_; refine tK 5 rfl (fun w HS => r_fa rfl fo40_5) HS ?_; refine tK 6 rfl (fun w HS => r_ld (v := .slice none 0 0) HS (i := 1) rfl rfl ct38 rfl) HS ?_; refine t_all [2, 8] (by kernel_rfl) (by simp) (all_cons (w_op 2 rfl ?_) (all_cons (w_op 8 rfl ?_) (all_nil)))
  ·
   refine (o_callR Tryz.func31 rfl rfl rfl (head_ret _ (⟨(0 : UInt64), ([] : List UInt8), (15 : UInt8), 0, 9223372036854775807, ⟨none, 0, 0, []⟩, tagR r⟩ : Tok) (Gl.ok_nil _) (show (tagR r).length = 32 from tagR_len _) (by first | omega | (dsimp only; omega) | simp)) ?_)
   rintro _ w ⟨a3, n4, c5, rfl, hn6, hh7, Hc⟩
   replace H : Hp _ w _ ([_, _, .own a3 n4 c5 ((headB ((0 : UInt64)) (([] : List UInt8)) ((15 : UInt8)) (0) (9223372036854775807)).map V8) 5 1]) := H.call Hc
   clear Hc
   try dsimp only at hn6
   replace HS := H.sub (.cons_cons _ (.cons_cons _ (List.nil_sublist _)))
   refine ⟨HS, ?_⟩
   refine t_all [3, 8] (by kernel_rfl) (by simp) (all_cons (w_op 3 rfl ?_) (all_cons (w_op 8 rfl ?_) (all_nil)))
   ·
    refine (o_bslV ([.slice (hd a3) n4 c5]) H sl80 zc33 rfl (by simp [Value.oneCell']) rfl (by decide) (fun b8 w H hb8 => ?_))
    replace H : Hp _ w _ ([_, _, _, .own (some b8) 1 1 ([.slice (hd a3) n4 c5]) 33 1]) := H
    replace HS := H.sub (.cons_cons _ (.cons_cons _ (List.nil_sublist _)))
    refine ⟨HS, ?_⟩
    refine t_all [4, 8] (by kernel_rfl) (by simp) (all_cons (w_op 4 rfl ?_) (all_cons (w_op 8 rfl ?_) (all_nil)))
    ·
     refine (o_callR Tryz.func30 rfl rfl rfl (macOf_ret _ (⟨some ⟨b1, 0, none⟩, 32, 32, r.1⟩ : Sl) (H.slBlkA (i := 0) rfl 32 (show (r.1).length = 32 from r.2) (by decide)) (hd (some b8)) 1 1 [⟨hd a3, n4, c5, headB ((0 : UInt64)) (([] : List UInt8)) ((15 : UInt8)) (0) (9223372036854775807)⟩] (H.own (i := 3) rfl) rfl (all1 (H.slOwn (i := 2) rfl)) oM frH_len) ?_)
     rintro _ w ⟨rfl, Hc⟩
     replace H : Hp _ w _ ([_, _, _, _]) := H.call Hc
     clear Hc
     replace HS := H.sub (.cons_cons _ (.cons_cons _ (List.nil_sublist _)))
     refine ⟨HS, ?_⟩
     refine t_all [7, 8] (by kernel_rfl) (by simp) (all_cons (w_op 7 rfl ?_) (all_cons (w_op 8 rfl ?_) (all_nil)))
     ·
      refine (o_callR Tryz.func77 rfl rfl rfl (on0_ret _ (hmac (r.1) (framed [headB ((0 : UInt64)) (([] : List UInt8)) ((15 : UInt8)) (0) (9223372036854775807)])) (show (hmac (r.1) (framed [headB ((0 : UInt64)) (([] : List UInt8)) ((15 : UInt8)) (0) (9223372036854775807)])).length = 32 from hmac_len _ _)) ?_)
      rintro _ w ⟨rfl, Hc⟩
      replace H : Hp _ w _ ([_, _, _, _]) := H.call Hc
      clear Hc
      replace HS := H.sub (.cons_cons _ (.cons_cons _ (List.nil_sublist _)))
      refine ⟨HS, ?_⟩
      refine tU 8 rfl (o_alloc H zc24 (fun b9 w H hb9 => ?_)); replace H : Hp _ w _ ([_, _, _, _, .blk b9 ((List.replicate 32 (0 : UInt8)).map V8) 24]) := H
      replace HS := H.sub (.cons_cons _ (.cons_cons _ (List.nil_sublist _)))
      refine ⟨HS, ?_⟩
      refine tU 9 rfl (o_stA (l' := hmac (r.1) (framed [headB ((0 : UInt64)) (([] : List UInt8)) ((15 : UInt8)) (0) (9223372036854775807)])) H (i := 4) rfl rfl rfl cs24 (show (List.replicate 32 (0 : UInt8)).length = 32 from (List.length_replicate ..)) (show (hmac (r.1) (framed [headB ((0 : UInt64)) (([] : List UInt8)) ((15 : UInt8)) (0) (9223372036854775807)])).length = 32 from hmac_len _ _) (fun w H => ?_)); replace H : Hp _ w _ ([_, _, _, _, .blk b9 ((hmac (r.1) (framed [headB ((0 : UInt64)) (([] : List UInt8)) ((15 : UInt8)) (0) (9223372036854775807)])).map V8) 24]) := H
      replace HS := H.sub (.cons_cons _ (.cons_cons _ (List.nil_sublist _)))
      refine ⟨HS, ?_⟩
      refine t_done (by kernel_rfl) ?_
      clear HS
      exact nrm_mk ⟨b9, a3, n4, c5, b8, _, join_fit ⟨rfl, rfl, rfl, trivial⟩, H⟩
     ·
      refine (o_alloc H zc24 (fun b10 w H hb10 => ?_))
      replace H : Hp _ w _ ([_, _, _, _, .blk b10 ((List.replicate 32 (0 : UInt8)).map V8) 24]) := H
      replace HS := H.sub (.cons_cons _ (.cons_cons _ (List.nil_sublist _)))
      refine ⟨HS, ?_⟩
      refine tU 7 rfl (o_callR Tryz.func77 rfl rfl rfl (on0_ret _ (hmac (r.1) (framed [headB ((0 : UInt64)) (([] : List UInt8)) ((15 : UInt8)) (0) (9223372036854775807)])) (show (hmac (r.1) (framed [headB ((0 : UInt64)) (([] : List UInt8)) ((15 : UInt8)) (0) (9223372036854775807)])).length = 32 from hmac_len _ _)) ?_); rintro _ w ⟨rfl, Hc⟩
      replace H : Hp _ w _ ([_, _, _, _, _]) := H.call Hc
      clear Hc
      replace HS := H.sub (.cons_cons _ (.cons_cons _ (List.nil_sublist _)))
      refine ⟨HS, ?_⟩
      refine tU 9 rfl (o_stA (l' := hmac (r.1) (framed [headB ((0 : UInt64)) (([] : List UInt8)) ((15 : UInt8)) (0) (9223372036854775807)])) H (i := 4) rfl rfl rfl cs24 (show (List.replicate 32 (0 : UInt8)).length = 32 from (List.length_replicate ..)) (show (hmac (r.1) (framed [headB ((0 : UInt64)) (([] : List UInt8)) ((15 : UInt8)) (0) (9223372036854775807)])).length = 32 from hmac_len _ _) (fun w H => ?_)); replace H : Hp _ w _ ([_, _, _, _, .blk b10 ((hmac (r.1) (framed [headB ((0 : UInt64)) (([] : List UInt8)) ((15 : UInt8)) (0) (9223372036854775807)])).map V8) 24]) := H
      replace HS := H.sub (.cons_cons _ (.cons_cons _ (List.nil_sublist _)))
      refine ⟨HS, ?_⟩
      refine t_done (by kernel_rfl) ?_
      clear HS
      exact nrm_mk ⟨b10, a3, n4, c5, b8, _, join_fit ⟨rfl, rfl, rfl, trivial⟩, H⟩
    ·
     refine (o_alloc H zc24 (fun b11 w H hb11 => ?_))
     replace H : Hp _ w _ ([_, _, _, _, .blk b11 ((List.replicate 32 (0 : UInt8)).map V8) 24]) := H
     replace HS := H.sub (.cons_cons _ (.cons_cons _ (List.nil_sublist _)))
     refine ⟨HS, ?_⟩
     refine tU 4 rfl (o_callR Tryz.func30 rfl rfl rfl (macOf_ret _ (⟨some ⟨b1, 0, none⟩, 32, 32, r.1⟩ : Sl) (H.slBlkA (i := 0) rfl 32 (show (r.1).length = 32 from r.2) (by decide)) (hd (some b8)) 1 1 [⟨hd a3, n4, c5, headB ((0 : UInt64)) (([] : List UInt8)) ((15 : UInt8)) (0) (9223372036854775807)⟩] (H.own (i := 3) rfl) rfl (all1 (H.slOwn (i := 2) rfl)) oM frH_len) ?_); rintro _ w ⟨rfl, Hc⟩
     replace H : Hp _ w _ ([_, _, _, _, _]) := H.call Hc
     clear Hc
     replace HS := H.sub (.cons_cons _ (.cons_cons _ (List.nil_sublist _)))
     refine ⟨HS, ?_⟩
     refine tU 7 rfl (o_callR Tryz.func77 rfl rfl rfl (on0_ret _ (hmac (r.1) (framed [headB ((0 : UInt64)) (([] : List UInt8)) ((15 : UInt8)) (0) (9223372036854775807)])) (show (hmac (r.1) (framed [headB ((0 : UInt64)) (([] : List UInt8)) ((15 : UInt8)) (0) (9223372036854775807)])).length = 32 from hmac_len _ _)) ?_); rintro _ w ⟨rfl, Hc⟩
     replace H : Hp _ w _ ([_, _, _, _, _]) := H.call Hc
     clear Hc
     replace HS := H.sub (.cons_cons _ (.cons_cons _ (List.nil_sublist _)))
     refine ⟨HS, ?_⟩
     refine tU 9 rfl (o_stA (l' := hmac (r.1) (framed [headB ((0 : UInt64)) (([] : List UInt8)) ((15 : UInt8)) (0) (9223372036854775807)])) H (i := 4) rfl rfl rfl cs24 (show (List.replicate 32 (0 : UInt8)).length = 32 from (List.length_replicate ..)) (show (hmac (r.1) (framed [headB ((0 : UInt64)) (([] : List UInt8)) ((15 : UInt8)) (0) (9223372036854775807)])).length = 32 from hmac_len _ _) (fun w H => ?_)); replace H : Hp _ w _ ([_, _, _, _, .blk b11 ((hmac (r.1) (framed [headB ((0 : UInt64)) (([] : List UInt8)) ((15 : UInt8)) (0) (9223372036854775807)])).map V8) 24]) := H
     replace HS := H.sub (.cons_cons _ (.cons_cons _ (List.nil_sublist _)))
     refine ⟨HS, ?_⟩
     refine t_done (by kernel_rfl) ?_
     clear HS
     exact nrm_mk ⟨b11, a3, n4, c5, b8, _, join_fit ⟨rfl, rfl, rfl, trivial⟩, H⟩
   ·
    refine (o_alloc H zc24 (fun b12 w H hb12 => ?_))
    replace H : Hp _ w _ ([_, _, _, .blk b12 ((List.replicate 32 (0 : UInt8)).map V8) 24]) := H
    replace HS := H.sub (.cons_cons _ (.cons_cons _ (List.nil_sublist _)))
    refine ⟨HS, ?_⟩
    refine tU 3 rfl (o_bslV ([.slice (hd a3) n4 c5]) H sl80 zc33 rfl (by simp [Value.oneCell']) rfl (by decide) (fun b13 w H hb13 => ?_)); replace H : Hp _ w _ ([_, _, _, _, .own (some b13) 1 1 ([.slice (hd a3) n4 c5]) 33 1]) := H
    replace HS := H.sub (.cons_cons _ (.cons_cons _ (List.nil_sublist _)))
    refine ⟨HS, ?_⟩
    refine tU 4 rfl (o_callR Tryz.func30 rfl rfl rfl (macOf_ret _ (⟨some ⟨b1, 0, none⟩, 32, 32, r.1⟩ : Sl) (H.slBlkA (i := 0) rfl 32 (show (r.1).length = 32 from r.2) (by decide)) (hd (some b13)) 1 1 [⟨hd a3, n4, c5, headB ((0 : UInt64)) (([] : List UInt8)) ((15 : UInt8)) (0) (9223372036854775807)⟩] (H.own (i := 4) rfl) rfl (all1 (H.slOwn (i := 2) rfl)) oM frH_len) ?_); rintro _ w ⟨rfl, Hc⟩
    replace H : Hp _ w _ ([_, _, _, _, _]) := H.call Hc
    clear Hc
    replace HS := H.sub (.cons_cons _ (.cons_cons _ (List.nil_sublist _)))
    refine ⟨HS, ?_⟩
    refine tU 7 rfl (o_callR Tryz.func77 rfl rfl rfl (on0_ret _ (hmac (r.1) (framed [headB ((0 : UInt64)) (([] : List UInt8)) ((15 : UInt8)) (0) (9223372036854775807)])) (show (hmac (r.1) (framed [headB ((0 : UInt64)) (([] : List UInt8)) ((15 : UInt8)) (0) (9223372036854775807)])).length = 32 from hmac_len _ _)) ?_); rintro _ w ⟨rfl, Hc⟩
    replace H : Hp _ w _ ([_, _, _, _, _]) := H.call Hc
    clear Hc
    replace HS := H.sub (.cons_cons _ (.cons_cons _ (List.nil_sublist _)))
    refine ⟨HS, ?_⟩
    refine tU 9 rfl (o_stA (l' := hmac (r.1) (framed [headB ((0 : UInt64)) (([] : List UInt8)) ((15 : UInt8)) (0) (9223372036854775807)])) H (i := 3) rfl rfl rfl cs24 (show (List.replicate 32 (0 : UInt8)).length = 32 from (List.length_replicate ..)) (show (hmac (r.1) (framed [headB ((0 : UInt64)) (([] : List UInt8)) ((15 : UInt8)) (0) (9223372036854775807)])).length = 32 from hmac_len _ _) (fun w H => ?_)); replace H : Hp _ w _ ([_, _, _, .blk b12 ((hmac (r.1) (framed [headB ((0 : UInt64)) (([] : List UInt8)) ((15 : UInt8)) (0) (9223372036854775807)])).map V8) 24, _]) := H
    replace HS := H.sub (.cons_cons _ (.cons_cons _ (List.nil_sublist _)))
    refine ⟨HS, ?_⟩
    refine t_done (by kernel_rfl) ?_
    clear HS
    exact nrm_mk ⟨b12, a3, n4, c5, b13, _, join_fit ⟨rfl, rfl, rfl, trivial⟩, H.perm ((perm_fr (j := 0) rfl).trans (.cons _ ((perm_fr (j := 0) rfl).trans (.cons _ ((perm_fr (j := 0) rfl).trans (.cons _ ((perm_fr (j := 1) rfl).trans (.cons _ (.refl _)))))))))⟩
  ·
   refine (o_alloc H zc24 (fun b14 w H hb14 => ?_))
   replace H : Hp _ w _ ([_, _, .blk b14 ((List.replicate 32 (0 : UInt8)).map V8) 24]) := H
   replace HS := H.sub (.cons_cons _ (.cons_cons _ (List.nil_sublist _)))
   refine ⟨HS, ?_⟩
   refine tU 2 rfl (o_callR Tryz.func31 rfl rfl rfl (head_ret _ (⟨(0 : UInt64), ([] : List UInt8), (15 : UInt8), 0, 9223372036854775807, ⟨none, 0, 0, []⟩, tagR r⟩ : Tok) (Gl.ok_nil _) (show (tagR r).length = 32 from tagR_len _) (by first | omega | (dsimp only; omega) | simp)) ?_); rintro _ w ⟨a15, n16, c17, rfl, hn18, hh19, Hc⟩
   replace H : Hp _ w _ ([_, _, _, .own a15 n16 c17 ((headB ((0 : UInt64)) (([] : List UInt8)) ((15 : UInt8)) (0) (9223372036854775807)).map V8) 5 1]) := H.call Hc
   clear Hc
   try dsimp only at hn18
   replace HS := H.sub (.cons_cons _ (.cons_cons _ (List.nil_sublist _)))
   refine ⟨HS, ?_⟩
   refine tU 3 rfl (o_bslV ([.slice (hd a15) n16 c17]) H sl80 zc33 rfl (by simp [Value.oneCell']) rfl (by decide) (fun b20 w H hb20 => ?_)); replace H : Hp _ w _ ([_, _, _, _, .own (some b20) 1 1 ([.slice (hd a15) n16 c17]) 33 1]) := H
   replace HS := H.sub (.cons_cons _ (.cons_cons _ (List.nil_sublist _)))
   refine ⟨HS, ?_⟩
   refine tU 4 rfl (o_callR Tryz.func30 rfl rfl rfl (macOf_ret _ (⟨some ⟨b1, 0, none⟩, 32, 32, r.1⟩ : Sl) (H.slBlkA (i := 0) rfl 32 (show (r.1).length = 32 from r.2) (by decide)) (hd (some b20)) 1 1 [⟨hd a15, n16, c17, headB ((0 : UInt64)) (([] : List UInt8)) ((15 : UInt8)) (0) (9223372036854775807)⟩] (H.own (i := 4) rfl) rfl (all1 (H.slOwn (i := 3) rfl)) oM frH_len) ?_); rintro _ w ⟨rfl, Hc⟩
   replace H : Hp _ w _ ([_, _, _, _, _]) := H.call Hc
   clear Hc
   replace HS := H.sub (.cons_cons _ (.cons_cons _ (List.nil_sublist _)))
   refine ⟨HS, ?_⟩
   refine tU 7 rfl (o_callR Tryz.func77 rfl rfl rfl (on0_ret _ (hmac (r.1) (framed [headB ((0 : UInt64)) (([] : List UInt8)) ((15 : UInt8)) (0) (9223372036854775807)])) (show (hmac (r.1) (framed [headB ((0 : UInt64)) (([] : List UInt8)) ((15 : UInt8)) (0) (9223372036854775807)])).length = 32 from hmac_len _ _)) ?_); rintro _ w ⟨rfl, Hc⟩
   replace H : Hp _ w _ ([_, _, _, _, _]) := H.call Hc
   clear Hc
   replace HS := H.sub (.cons_cons _ (.cons_cons _ (List.nil_sublist _)))
   refine ⟨HS, ?_⟩
   refine tU 9 rfl (o_stA (l' := hmac (r.1) (framed [headB ((0 : UInt64)) (([] : List UInt8)) ((15 : UInt8)) (0) (9223372036854775807)])) H (i := 2) rfl rfl rfl cs24 (show (List.replicate 32 (0 : UInt8)).length = 32 from (List.length_replicate ..)) (show (hmac (r.1) (framed [headB ((0 : UInt64)) (([] : List UInt8)) ((15 : UInt8)) (0) (9223372036854775807)])).length = 32 from hmac_len _ _) (fun w H => ?_)); replace H : Hp _ w _ ([_, _, .blk b14 ((hmac (r.1) (framed [headB ((0 : UInt64)) (([] : List UInt8)) ((15 : UInt8)) (0) (9223372036854775807)])).map V8) 24, _, _]) := H
   replace HS := H.sub (.cons_cons _ (.cons_cons _ (List.nil_sublist _)))
   refine ⟨HS, ?_⟩
   refine t_done (by kernel_rfl) ?_
   clear HS
   exact nrm_mk ⟨b14, a15, n16, c17, b20, _, join_fit ⟨rfl, rfl, rfl, trivial⟩, H.perm ((perm_fr (j := 0) rfl).trans (.cons _ ((perm_fr (j := 0) rfl).trans (.cons _ ((perm_fr (j := 1) rfl).trans (.cons _ ((perm_fr (j := 1) rfl).trans (.cons _ (.refl _)))))))))⟩
  clear H
  rintro _ w ⟨b9, a3, n4, c5, b8, τ, rfl, H⟩
  repeat refine c_seq ?_
  refine heldH H mixed fun H => ?_
  have HS := H
  refine tK 0 rfl (fun w HS => r_slA (h := 32) (m := 32) (lv := none) (hv := none) (mv := none) rfl ar24 rfl rfl rfl (fun w => sbn w)) HS ?_; refine tK 1 rfl (fun w HS => r_fa rfl fo40_6) HS ?_; refine tK 2 rfl (fun w HS => r_slAo (o := 6) (h := 32) (m := 32) (lv := none) (hv := none) (mv := none) rfl ar24 rfl rfl rfl (fun w => sbn w)) HS ?_; refine tU 3 rfl (o_callR Tryz.func78 rfl rfl rfl (equal_ret _ (⟨some ⟨b9, 0, none⟩, 32, 32, hmac (r.1) (framed [headB ((0 : UInt64)) (([] : List UInt8)) ((15 : UInt8)) (0) (9223372036854775807)])⟩ : Sl) (⟨some ⟨b2, 6, none⟩, 32, 32, tagR r⟩ : Sl) (H.slBlkA (i := 4) rfl 32 (show (hmac (r.1) (framed [headB ((0 : UInt64)) (([] : List UInt8)) ((15 : UInt8)) (0) (9223372036854775807)])).length = 32 from hmac_len _ _) (by decide)) (H.slTail (i := 1) (o := 6) (pre := [V64 (0 : UInt64), .string ⟨(([] : List UInt8)).toArray⟩, V8 (15 : UInt8), VI 0, VI 9223372036854775807, .slice none 0 0]) rfl rfl (show (tagR r).length = 32 from tagR_len _) (by decide))) ?_); rintro _ w ⟨rfl, Hc⟩
  replace H : Hp _ w _ ([_, _, _, _, _]) := H.call Hc
  clear Hc
  have hk21 : (decide (hmac (r.1) (framed [headB ((0 : UInt64)) (([] : List UInt8)) ((15 : UInt8)) (0) (9223372036854775807)]) = tagR r)) = true := (decide_eq_true rfl)
  replace HS := H
  refine ⟨HS, ?_⟩
  refine tK 4 rfl (fun w HS => r_not rfl) HS ?_; refine t_done (by kernel_rfl) ?_
  clear HS
  repeat refine c_seq ?_
  refine c_no (by exact congrArg Value.bool (congrArg not hk21)) ?_; refine c_skip ?_; refine rG ?_; refine lV (r_ldA (C := [V64 (0 : UInt64), .string ⟨(([] : List UInt8)).toArray⟩, V8 (15 : UInt8), VI 0, VI 9223372036854775807, .slice none 0 0] ++ (tagR r).map V8) H (i := 1) rfl rfl rt40 (by rw [List.length_append, List.length_map, (show (tagR r).length = 32 from tagR_len _)]; rfl)) ?_; refine l_op (o_callR Tryz.func45 rfl rfl rfl (eff0_ret _ (tagR r) (show (tagR r).length = 32 from tagR_len _)) ?_); rintro _ w ⟨rfl, Hc⟩
  replace H : Hp _ w _ ([_, _, _, _, _]) := H.call Hc
  clear Hc
  refine mV ?_; refine lV (r_ext rfl rfl) ?_; refine lV (r_ext rfl rfl) ?_; refine aZ ?_; refine aZ ?_; refine eN ?_
  refine rG ?_; refine mV ?_; refine lV (r_fa rfl fo40_3) ?_; refine lV (r_ld (v := VI 0) H (i := 1) rfl rfl ct2 rfl) ?_; refine lV (r_bin (a := now) (b := 0) rfl rfl (fun _ => b_lssB false (decide_eq_false oM))) ?_; refine mV ?_; refine l_yes rfl rfl rfl (o_val r_mv ?_); refine l_yes rfl rfl rfl (o_val r_mv ?_); refine l_yes rfl rfl rfl (o_val (r_bin (a := now) (b := 9223372036854775807) rfl rfl (fun _ => b_geqB false (decide_eq_false oM))) ?_); refine lV (r_pick rfl) ?_; refine eN ?_
  refine qN ?_; refine c_skip ?_; refine rG ?_; refine aZ ?_; refine eN ?_
  refine cR ?_
  refine e_ret1 (v := VI 0) Tryz.results42 rfl ?_
  refine ⟨_, rfl, ?_⟩
  exact ⟨rfl, H.sub (List.nil_sublist _)⟩
theorem may140_ret (w0 : World) (g : List UInt8) (_hg : g.length = 32) :
    Ret Tryz.prog 13 [.agg ([V64 (0 : UInt64), .string ⟨(([] : List UInt8)).toArray⟩, V8 (15 : UInt8), VI 0, VI 9223372036854775807, .slice none 0 0] ++ (g).map V8).toArray] w0 fun v w' => v = .bool true ∧ Hp w0 w' [] [] := by
  refine ret_mk Tryz.func13 rfl Tryz.ntmps13 (by simp) ?_
  have H := Hp.refl w0 []
  refine rG ?_; refine l_op (o_box (v := .agg ([V64 (0 : UInt64), .string ⟨(([] : List UInt8)).toArray⟩, V8 (15 : UInt8), VI 0, VI 9223372036854775807, .slice none 0 0] ++ (g).map V8).toArray) H rfl (fun b1 w H hb1 => ?_)); replace H : Hp _ w _ ([.blk b1 ([V64 (0 : UInt64), .string ⟨(([] : List UInt8)).toArray⟩, V8 (15 : UInt8), VI 0, VI 9223372036854775807, .slice none 0 0] ++ (g).map V8) 40]) := H
  refine aZ ?_; refine eN ?_
  refine rG ?_; refine lV (r_fa rfl fo40_1) ?_; refine lV (r_ld (v := .string ⟨(([] : List UInt8)).toArray⟩) H (i := 0) rfl rfl ct9 rfl) ?_; refine lV (r_strne (a := ([] : List UInt8)) (b := ([] : List UInt8)) rfl rfl) ?_; refine mV ?_; refine l_no rfl rfl (by exact congrArg Value.bool (congrArg not (decide_eq_true (rfl : ([] : List UInt8) = ([] : List UInt8))))) rfl ?_; refine l_no rfl rfl (by exact congrArg Value.bool (congrArg not (decide_eq_true (rfl : ([] : List UInt8) = ([] : List UInt8))))) rfl ?_; refine l_no rfl rfl (by exact congrArg Value.bool (congrArg not (decide_eq_true (rfl : ([] : List UInt8) = ([] : List UInt8))))) rfl ?_; refine l_no rfl rfl (by exact congrArg Value.bool (congrArg not (decide_eq_true (rfl : ([] : List UInt8) = ([] : List UInt8))))) rfl ?_; refine lV (r_pick (b := false) (congrArg Value.bool (congrArg not (decide_eq_true (rfl : ([] : List UInt8) = ([] : List UInt8)))))) ?_; refine mV ?_; refine l_yes rfl rfl rfl (o_val (r_fa rfl fo40_2) ?_); refine l_yes rfl rfl rfl (o_val (r_ld (v := V8 (15 : UInt8)) H (i := 0) rfl rfl ct37 rfl) ?_); refine l_yes rfl rfl rfl (o_val (r_bin (a := ((15 : UInt8).toNat : Int)) (b := 15) rfl rfl (fun _ => b_gtrB false (decide_eq_false (by decide)))) ?_); refine lV (r_pick rfl) ?_; refine mV ?_; refine l_yes rfl rfl rfl (o_val (r_fa rfl fo40_5) ?_); refine l_yes rfl rfl rfl (o_val (r_ld (v := .slice none 0 0) H (i := 0) rfl rfl ct38 rfl) ?_); refine l_yes rfl rfl rfl (o_val (r_lens el38 rfl) ?_); refine l_yes rfl rfl rfl (o_val (r_bin (a := 0) (b := 8) rfl rfl (fun _ => b_gtrB false (decide_eq_false (by decide)))) ?_); refine lV (r_pick rfl) ?_; refine eN ?_
  refine qN ?_; refine c_skip ?_; refine rG ?_; refine aZ ?_; refine eN ?_
  refine qB ?_; repeat refine c_seq ?_
  refine wp_loop_rounds 1 ?_; refine c_round ?_; refine rG ?_; refine mV ?_; refine lV (r_fa rfl fo40_5) ?_; refine lV (r_ld (v := .slice none 0 0) H (i := 0) rfl rfl ct38 rfl) ?_; refine lV (r_lens el38 rfl) ?_; refine lV (r_bin (a := 0) (b := 0) rfl rfl (fun _ => b_lssB false (decide_eq_false (by decide)))) ?_; refine eN ?_
  refine qN ?_; refine c_exit ?_; refine rG ?_; refine aZ ?_; refine eN ?_
  refine cR ?_
  refine e_ret1 (v := .bool true) Tryz.results13 rfl ?_
  refine ⟨_, rfl, ?_⟩
  exact ⟨rfl, H.sub (List.nil_sublist _)⟩
theorem head140_ret (w0 : World) (g : List UInt8) (hg : g.length = 32) : Ret Tryz.prog 14 [.agg ([V64 (0 : UInt64), .string ⟨(([] : List UInt8)).toArray⟩, V8 (15 : UInt8), VI 0, VI 9223372036854775807, .slice none 0 0] ++ (g).map V8).toArray] w0 fun v w' => ∃ a c, v = .slice (hd a) 26 c ∧ Hp w0 w' [] [.own a 26 c ((headB 0 [] 15 0 9223372036854775807).map V8) 5 1] := by
  refine (head14_ret w0 ⟨0, [], 15, 0, 9223372036854775807, ⟨none, 0, 0, []⟩, g⟩ (Gl.ok_nil _) hg (by simp) ⟨by dsimp only; omega, by dsimp only; omega, fun c h => absurd h List.not_mem_nil⟩).mono fun v w' ⟨a, n, c, hv, _, hh, H⟩ => ?_
  have hn : n = 26 := by rw [← hh]; show (headB 0 [] 15 0 9223372036854775807).length = 26; rw [head0]; rfl
  subst hn
  exact ⟨a, c, hv, H⟩
theorem bytes140_ret (w0 : World) (r : Id32) :
    Ret Tryz.prog 7 [.agg ([V64 (0 : UInt64), .string ⟨(([] : List UInt8)).toArray⟩, V8 (15 : UInt8), VI 0, VI 9223372036854775807, .slice none 0 0] ++ (tagR r).map V8).toArray] w0 fun v w' => ∃ a c, v = .tuple #[.slice (hd a) 60 c, VI 0] ∧ Hp w0 w' [] [.own a 60 c ((tokB (tagR r)).map V8) 5 1] := by
  refine ret_mk Tryz.func7 rfl Tryz.ntmps7 (by simp) ?_
  have H := Hp.refl w0 []
  have htg := tagR_len r
  have hhd : (headB 0 [] 15 0 9223372036854775807).length = 26 := by rw [head0]; rfl
  refine rG ?_; refine l_op (o_box (v := .agg ([V64 (0 : UInt64), .string ⟨(([] : List UInt8)).toArray⟩, V8 (15 : UInt8), VI 0, VI 9223372036854775807, .slice none 0 0] ++ (tagR r).map V8).toArray) H rfl (fun b1 w H hb1 => ?_)); replace H : Hp _ w _ ([.blk b1 ([V64 (0 : UInt64), .string ⟨(([] : List UInt8)).toArray⟩, V8 (15 : UInt8), VI 0, VI 9223372036854775807, .slice none 0 0] ++ (tagR r).map V8) 40]) := H
  refine aZ ?_; refine aZ ?_; refine eN ?_
  refine rG ?_; refine lV (r_ldA (C := [V64 (0 : UInt64), .string ⟨(([] : List UInt8)).toArray⟩, V8 (15 : UInt8), VI 0, VI 9223372036854775807, .slice none 0 0] ++ (tagR r).map V8) H (i := 0) rfl rfl rt40 (by rw [List.length_append, List.length_map, (show (tagR r).length = 32 from tagR_len _)]; rfl)) ?_; refine l_op (o_callR Tryz.func13 rfl rfl rfl (may140_ret _ (tagR r) (show (tagR r).length = 32 from tagR_len _)) ?_); rintro _ w ⟨rfl, Hc⟩
  replace H : Hp _ w _ ([_]) := H.call Hc
  clear Hc
  refine lV (r_not rfl) ?_; refine eN ?_
  refine qN ?_; refine c_skip ?_; repeat refine c_seq ?_
  refine c_join (fun τ w => ∃ a8 c9 a3 c4 b7, ∃ σ, τ = ups σ [(1, .pointer (some ⟨b1, 0, none⟩)), (4, .slice (hd a8) 28 c9)] ∧ Hp w0 w [] ([.blk b1 ([V64 (0 : UInt64), .string ⟨(([] : List UInt8)).toArray⟩, V8 (15 : UInt8), VI 0, VI 9223372036854775807, .slice none 0 0] ++ (tagR r).map V8) 40, .own a8 28 c9 (([(1 : UInt8)] ++ (headB 0 [] 15 0 9223372036854775807) ++ ([UInt8.ofNat 0])).map V8) 5 1, .own a3 26 c4 ((headB 0 [] 15 0 9223372036854775807).map V8) 5 1, .own (some b7) 1 1 (([UInt8.ofNat 0]).map V8) 5 1])) ?_ ?_; refine heldH H mixed fun H => ?_
  have HS := H
  refine tK 1 rfl (fun w HS => r_ldA (C := [V64 (0 : UInt64), .string ⟨(([] : List UInt8)).toArray⟩, V8 (15 : UInt8), VI 0, VI 9223372036854775807, .slice none 0 0] ++ (tagR r).map V8) HS (i := 0) rfl rfl rt40 (by rw [List.length_append, List.length_map, (show (tagR r).length = 32 from tagR_len _)]; rfl)) HS ?_; refine tK 4 rfl (fun w HS => r_fa rfl fo40_5) HS ?_; refine tK 5 rfl (fun w HS => r_ld (v := .slice none 0 0) HS (i := 0) rfl rfl ct38 rfl) HS ?_; refine tK 6 rfl (fun w HS => r_lens el38 rfl) HS ?_; refine tK 7 rfl (fun w HS => r_conv (a := 0) (v := ((UInt8.ofNat 0).toNat : Int)) Tryz.underlying3 Tryz.underlying5 rfl (w_u8_N 0 oM)) HS ?_; refine t_all [0, 2, 8] (by kernel_rfl) (by simp) (all_cons (w_op 0 rfl ?_) (all_cons (w_op 2 rfl ?_) (all_cons (w_op 8 rfl ?_) (all_nil))))
  ·
   refine (o_bslB ([(1 : UInt8)]) H sl33 zc5 rfl rfl (by decide) (fun b2 w H hb2 => ?_))
   replace H : Hp _ w _ ([_, .own (some b2) 1 1 (([(1 : UInt8)]).map V8) 5 1]) := H
   replace HS := H.sub (.cons_cons _ (List.nil_sublist _))
   refine ⟨HS, ?_⟩
   refine t_all [2, 8] (by kernel_rfl) (by simp) (all_cons (w_op 2 rfl ?_) (all_cons (w_op 8 rfl ?_) (all_nil)))
   ·
    refine (o_callR Tryz.func14 rfl rfl rfl (head140_ret _ (tagR r) (show (tagR r).length = 32 from tagR_len _)) ?_)
    rintro _ w ⟨a3, c4, rfl, Hc⟩
    replace H : Hp _ w _ ([_, _, .own a3 26 c4 ((headB 0 [] 15 0 9223372036854775807).map V8) 5 1]) := H.call Hc
    clear Hc
    replace HS := H.sub (.cons_cons _ (List.nil_sublist _))
    refine ⟨HS, ?_⟩
    refine t_all [3, 8] (by kernel_rfl) (by simp) (all_cons (w_op 3 rfl ?_) (all_cons (w_op 8 rfl ?_) (all_nil)))
    ·
     refine (o_appB (s := ⟨hd a3, 26, c4, headB 0 [] 15 0 9223372036854775807⟩) (l' := [(1 : UInt8)] ++ (headB 0 [] 15 0 9223372036854775807)) (len' := 27) rfl rfl H (i := 1) rfl sl33 Tryz.underlying33 rfl rfl (H.slOwn (i := 2) rfl) oM (fun a5 c6 w H => ?_))
     replace H : Hp _ w _ ([_, .own a5 27 c6 (([(1 : UInt8)] ++ (headB 0 [] 15 0 9223372036854775807)).map V8) 5 1, _]) := H
     replace HS := H.sub (.cons_cons _ (List.nil_sublist _))
     refine ⟨HS, ?_⟩
     refine tU 8 rfl (o_bslB ([UInt8.ofNat 0]) H sl33 zc5 rfl rfl (by decide) (fun b7 w H hb7 => ?_)); replace H : Hp _ w _ ([_, _, _, .own (some b7) 1 1 (([UInt8.ofNat 0]).map V8) 5 1]) := H
     replace HS := H.sub (.cons_cons _ (List.nil_sublist _))
     refine ⟨HS, ?_⟩
     refine tU 9 rfl (o_appB (s := ⟨hd (some b7), 1, 1, [UInt8.ofNat 0]⟩) (l' := [(1 : UInt8)] ++ (headB 0 [] 15 0 9223372036854775807) ++ ([UInt8.ofNat 0])) (len' := 28) rfl rfl H (i := 1) rfl sl33 Tryz.underlying33 rfl rfl (H.slOwn (i := 3) rfl) oM (fun a8 c9 w H => ?_)); replace H : Hp _ w _ ([_, .own a8 28 c9 (([(1 : UInt8)] ++ (headB 0 [] 15 0 9223372036854775807) ++ ([UInt8.ofNat 0])).map V8) 5 1, _, _]) := H
     replace HS := H.sub (.cons_cons _ (List.nil_sublist _))
     refine ⟨HS, ?_⟩
     refine tK 10 rfl (fun w HS => r_as) HS ?_; refine t_done (by kernel_rfl) ?_
     clear HS
     exact nrm_mk ⟨a8, c9, a3, c4, b7, _, join_fit ⟨rfl, rfl, trivial⟩, H⟩
    ·
     refine (o_bslB ([UInt8.ofNat 0]) H sl33 zc5 rfl rfl (by decide) (fun b10 w H hb10 => ?_))
     replace H : Hp _ w _ ([_, _, _, .own (some b10) 1 1 (([UInt8.ofNat 0]).map V8) 5 1]) := H
     replace HS := H.sub (.cons_cons _ (List.nil_sublist _))
     refine ⟨HS, ?_⟩
     refine tU 3 rfl (o_appB (s := ⟨hd a3, 26, c4, headB 0 [] 15 0 9223372036854775807⟩) (l' := [(1 : UInt8)] ++ (headB 0 [] 15 0 9223372036854775807)) (len' := 27) rfl rfl H (i := 1) rfl sl33 Tryz.underlying33 rfl rfl (H.slOwn (i := 2) rfl) oM (fun a11 c12 w H => ?_)); replace H : Hp _ w _ ([_, .own a11 27 c12 (([(1 : UInt8)] ++ (headB 0 [] 15 0 9223372036854775807)).map V8) 5 1, _, _]) := H
     replace HS := H.sub (.cons_cons _ (List.nil_sublist _))
     refine ⟨HS, ?_⟩
     refine tU 9 rfl (o_appB (s := ⟨hd (some b10), 1, 1, [UInt8.ofNat 0]⟩) (l' := [(1 : UInt8)] ++ (headB 0 [] 15 0 9223372036854775807) ++ ([UInt8.ofNat 0])) (len' := 28) rfl rfl H (i := 1) rfl sl33 Tryz.underlying33 rfl rfl (H.slOwn (i := 3) rfl) oM (fun a13 c14 w H => ?_)); replace H : Hp _ w _ ([_, .own a13 28 c14 (([(1 : UInt8)] ++ (headB 0 [] 15 0 9223372036854775807) ++ ([UInt8.ofNat 0])).map V8) 5 1, _, _]) := H
     replace HS := H.sub (.cons_cons _ (List.nil_sublist _))
     refine ⟨HS, ?_⟩
     refine tK 10 rfl (fun w HS => r_as) HS ?_; refine t_done (by kernel_rfl) ?_
     clear HS
     exact nrm_mk ⟨a13, c14, a3, c4, b10, _, join_fit ⟨rfl, rfl, trivial⟩, H⟩
   ·
    refine (o_bslB ([UInt8.ofNat 0]) H sl33 zc5 rfl rfl (by decide) (fun b15 w H hb15 => ?_))
    replace H : Hp _ w _ ([_, _, .own (some b15) 1 1 (([UInt8.ofNat 0]).map V8) 5 1]) := H
    replace HS := H.sub (.cons_cons _ (List.nil_sublist _))
    refine ⟨HS, ?_⟩
    refine tU 2 rfl (o_callR Tryz.func14 rfl rfl rfl (head140_ret _ (tagR r) (show (tagR r).length = 32 from tagR_len _)) ?_); rintro _ w ⟨a16, c17, rfl, Hc⟩
    replace H : Hp _ w _ ([_, _, _, .own a16 26 c17 ((headB 0 [] 15 0 9223372036854775807).map V8) 5 1]) := H.call Hc
    clear Hc
    replace HS := H.sub (.cons_cons _ (List.nil_sublist _))
    refine ⟨HS, ?_⟩
    refine tU 3 rfl (o_appB (s := ⟨hd a16, 26, c17, headB 0 [] 15 0 9223372036854775807⟩) (l' := [(1 : UInt8)] ++ (headB 0 [] 15 0 9223372036854775807)) (len' := 27) rfl rfl H (i := 1) rfl sl33 Tryz.underlying33 rfl rfl (H.slOwn (i := 3) rfl) oM (fun a18 c19 w H => ?_)); replace H : Hp _ w _ ([_, .own a18 27 c19 (([(1 : UInt8)] ++ (headB 0 [] 15 0 9223372036854775807)).map V8) 5 1, _, _]) := H
    replace HS := H.sub (.cons_cons _ (List.nil_sublist _))
    refine ⟨HS, ?_⟩
    refine tU 9 rfl (o_appB (s := ⟨hd (some b15), 1, 1, [UInt8.ofNat 0]⟩) (l' := [(1 : UInt8)] ++ (headB 0 [] 15 0 9223372036854775807) ++ ([UInt8.ofNat 0])) (len' := 28) rfl rfl H (i := 1) rfl sl33 Tryz.underlying33 rfl rfl (H.slOwn (i := 2) rfl) oM (fun a20 c21 w H => ?_)); replace H : Hp _ w _ ([_, .own a20 28 c21 (([(1 : UInt8)] ++ (headB 0 [] 15 0 9223372036854775807) ++ ([UInt8.ofNat 0])).map V8) 5 1, _, _]) := H
    replace HS := H.sub (.cons_cons _ (List.nil_sublist _))
    refine ⟨HS, ?_⟩
    refine tK 10 rfl (fun w HS => r_as) HS ?_; refine t_done (by kernel_rfl) ?_
    clear HS
    exact nrm_mk ⟨a20, c21, a16, c17, b15, _, join_fit ⟨rfl, rfl, trivial⟩, H.perm ((perm_fr (j := 0) rfl).trans (.cons _ ((perm_fr (j := 0) rfl).trans (.cons _ ((perm_fr (j := 1) rfl).trans (.cons _ (.refl _)))))))⟩
  ·
   refine (o_callR Tryz.func14 rfl rfl rfl (head140_ret _ (tagR r) (show (tagR r).length = 32 from tagR_len _)) ?_)
   rintro _ w ⟨a22, c23, rfl, Hc⟩
   replace H : Hp _ w _ ([_, .own a22 26 c23 ((headB 0 [] 15 0 9223372036854775807).map V8) 5 1]) := H.call Hc
   clear Hc
   replace HS := H.sub (.cons_cons _ (List.nil_sublist _))
   refine ⟨HS, ?_⟩
   refine t_all [0, 8] (by kernel_rfl) (by simp) (all_cons (w_op 0 rfl ?_) (all_cons (w_op 8 rfl ?_) (all_nil)))
   ·
    refine (o_bslB ([(1 : UInt8)]) H sl33 zc5 rfl rfl (by decide) (fun b24 w H hb24 => ?_))
    replace H : Hp _ w _ ([_, _, .own (some b24) 1 1 (([(1 : UInt8)]).map V8) 5 1]) := H
    replace HS := H.sub (.cons_cons _ (List.nil_sublist _))
    refine ⟨HS, ?_⟩
    refine t_all [3, 8] (by kernel_rfl) (by simp) (all_cons (w_op 3 rfl ?_) (all_cons (w_op 8 rfl ?_) (all_nil)))
    ·
     refine (o_appB (s := ⟨hd a22, 26, c23, headB 0 [] 15 0 9223372036854775807⟩) (l' := [(1 : UInt8)] ++ (headB 0 [] 15 0 9223372036854775807)) (len' := 27) rfl rfl H (i := 2) rfl sl33 Tryz.underlying33 rfl rfl (H.slOwn (i := 1) rfl) oM (fun a25 c26 w H => ?_))
     replace H : Hp _ w _ ([_, _, .own a25 27 c26 (([(1 : UInt8)] ++ (headB 0 [] 15 0 9223372036854775807)).map V8) 5 1]) := H
     replace HS := H.sub (.cons_cons _ (List.nil_sublist _))
     refine ⟨HS, ?_⟩
     refine tU 8 rfl (o_bslB ([UInt8.ofNat 0]) H sl33 zc5 rfl rfl (by decide) (fun b27 w H hb27 => ?_)); replace H : Hp _ w _ ([_, _, _, .own (some b27) 1 1 (([UInt8.ofNat 0]).map V8) 5 1]) := H
     replace HS := H.sub (.cons_cons _ (List.nil_sublist _))
     refine ⟨HS, ?_⟩
     refine tU 9 rfl (o_appB (s := ⟨hd (some b27), 1, 1, [UInt8.ofNat 0]⟩) (l' := [(1 : UInt8)] ++ (headB 0 [] 15 0 9223372036854775807) ++ ([UInt8.ofNat 0])) (len' := 28) rfl rfl H (i := 2) rfl sl33 Tryz.underlying33 rfl rfl (H.slOwn (i := 3) rfl) oM (fun a28 c29 w H => ?_)); replace H : Hp _ w _ ([_, _, .own a28 28 c29 (([(1 : UInt8)] ++ (headB 0 [] 15 0 9223372036854775807) ++ ([UInt8.ofNat 0])).map V8) 5 1, _]) := H
     replace HS := H.sub (.cons_cons _ (List.nil_sublist _))
     refine ⟨HS, ?_⟩
     refine tK 10 rfl (fun w HS => r_as) HS ?_; refine t_done (by kernel_rfl) ?_
     clear HS
     exact nrm_mk ⟨a28, c29, a22, c23, b27, _, join_fit ⟨rfl, rfl, trivial⟩, H.perm ((perm_fr (j := 0) rfl).trans (.cons _ ((perm_fr (j := 1) rfl).trans (.cons _ (.refl _)))))⟩
    ·
     refine (o_bslB ([UInt8.ofNat 0]) H sl33 zc5 rfl rfl (by decide) (fun b30 w H hb30 => ?_))
     replace H : Hp _ w _ ([_, _, _, .own (some b30) 1 1 (([UInt8.ofNat 0]).map V8) 5 1]) := H
     replace HS := H.sub (.cons_cons _ (List.nil_sublist _))
     refine ⟨HS, ?_⟩
     refine tU 3 rfl (o_appB (s := ⟨hd a22, 26, c23, headB 0 [] 15 0 9223372036854775807⟩) (l' := [(1 : UInt8)] ++ (headB 0 [] 15 0 9223372036854775807)) (len' := 27) rfl rfl H (i := 2) rfl sl33 Tryz.underlying33 rfl rfl (H.slOwn (i := 1) rfl) oM (fun a31 c32 w H => ?_)); replace H : Hp _ w _ ([_, _, .own a31 27 c32 (([(1 : UInt8)] ++ (headB 0 [] 15 0 9223372036854775807)).map V8) 5 1, _]) := H
     replace HS := H.sub (.cons_cons _ (List.nil_sublist _))
     refine ⟨HS, ?_⟩
     refine tU 9 rfl (o_appB (s := ⟨hd (some b30), 1, 1, [UInt8.ofNat 0]⟩) (l' := [(1 : UInt8)] ++ (headB 0 [] 15 0 9223372036854775807) ++ ([UInt8.ofNat 0])) (len' := 28) rfl rfl H (i := 2) rfl sl33 Tryz.underlying33 rfl rfl (H.slOwn (i := 3) rfl) oM (fun a33 c34 w H => ?_)); replace H : Hp _ w _ ([_, _, .own a33 28 c34 (([(1 : UInt8)] ++ (headB 0 [] 15 0 9223372036854775807) ++ ([UInt8.ofNat 0])).map V8) 5 1, _]) := H
     replace HS := H.sub (.cons_cons _ (List.nil_sublist _))
     refine ⟨HS, ?_⟩
     refine tK 10 rfl (fun w HS => r_as) HS ?_; refine t_done (by kernel_rfl) ?_
     clear HS
     exact nrm_mk ⟨a33, c34, a22, c23, b30, _, join_fit ⟨rfl, rfl, trivial⟩, H.perm ((perm_fr (j := 0) rfl).trans (.cons _ ((perm_fr (j := 1) rfl).trans (.cons _ (.refl _)))))⟩
   ·
    refine (o_bslB ([UInt8.ofNat 0]) H sl33 zc5 rfl rfl (by decide) (fun b35 w H hb35 => ?_))
    replace H : Hp _ w _ ([_, _, .own (some b35) 1 1 (([UInt8.ofNat 0]).map V8) 5 1]) := H
    replace HS := H.sub (.cons_cons _ (List.nil_sublist _))
    refine ⟨HS, ?_⟩
    refine tU 0 rfl (o_bslB ([(1 : UInt8)]) H sl33 zc5 rfl rfl (by decide) (fun b36 w H hb36 => ?_)); replace H : Hp _ w _ ([_, _, _, .own (some b36) 1 1 (([(1 : UInt8)]).map V8) 5 1]) := H
    replace HS := H.sub (.cons_cons _ (List.nil_sublist _))
    refine ⟨HS, ?_⟩
    refine tU 3 rfl (o_appB (s := ⟨hd a22, 26, c23, headB 0 [] 15 0 9223372036854775807⟩) (l' := [(1 : UInt8)] ++ (headB 0 [] 15 0 9223372036854775807)) (len' := 27) rfl rfl H (i := 3) rfl sl33 Tryz.underlying33 rfl rfl (H.slOwn (i := 1) rfl) oM (fun a37 c38 w H => ?_)); replace H : Hp _ w _ ([_, _, _, .own a37 27 c38 (([(1 : UInt8)] ++ (headB 0 [] 15 0 9223372036854775807)).map V8) 5 1]) := H
    replace HS := H.sub (.cons_cons _ (List.nil_sublist _))
    refine ⟨HS, ?_⟩
    refine tU 9 rfl (o_appB (s := ⟨hd (some b35), 1, 1, [UInt8.ofNat 0]⟩) (l' := [(1 : UInt8)] ++ (headB 0 [] 15 0 9223372036854775807) ++ ([UInt8.ofNat 0])) (len' := 28) rfl rfl H (i := 3) rfl sl33 Tryz.underlying33 rfl rfl (H.slOwn (i := 2) rfl) oM (fun a39 c40 w H => ?_)); replace H : Hp _ w _ ([_, _, _, .own a39 28 c40 (([(1 : UInt8)] ++ (headB 0 [] 15 0 9223372036854775807) ++ ([UInt8.ofNat 0])).map V8) 5 1]) := H
    replace HS := H.sub (.cons_cons _ (List.nil_sublist _))
    refine ⟨HS, ?_⟩
    refine tK 10 rfl (fun w HS => r_as) HS ?_; refine t_done (by kernel_rfl) ?_
    clear HS
    exact nrm_mk ⟨a39, c40, a22, c23, b35, _, join_fit ⟨rfl, rfl, trivial⟩, H.perm ((perm_fr (j := 0) rfl).trans (.cons _ ((perm_fr (j := 2) rfl).trans (.cons _ (.refl _)))))⟩
  ·
   refine (o_bslB ([UInt8.ofNat 0]) H sl33 zc5 rfl rfl (by decide) (fun b41 w H hb41 => ?_))
   replace H : Hp _ w _ ([_, .own (some b41) 1 1 (([UInt8.ofNat 0]).map V8) 5 1]) := H
   replace HS := H.sub (.cons_cons _ (List.nil_sublist _))
   refine ⟨HS, ?_⟩
   refine t_all [0, 2] (by kernel_rfl) (by simp) (all_cons (w_op 0 rfl ?_) (all_cons (w_op 2 rfl ?_) (all_nil)))
   ·
    refine (o_bslB ([(1 : UInt8)]) H sl33 zc5 rfl rfl (by decide) (fun b42 w H hb42 => ?_))
    replace H : Hp _ w _ ([_, _, .own (some b42) 1 1 (([(1 : UInt8)]).map V8) 5 1]) := H
    replace HS := H.sub (.cons_cons _ (List.nil_sublist _))
    refine ⟨HS, ?_⟩
    refine tU 2 rfl (o_callR Tryz.func14 rfl rfl rfl (head140_ret _ (tagR r) (show (tagR r).length = 32 from tagR_len _)) ?_); rintro _ w ⟨a43, c44, rfl, Hc⟩
    replace H : Hp _ w _ ([_, _, _, .own a43 26 c44 ((headB 0 [] 15 0 9223372036854775807).map V8) 5 1]) := H.call Hc
    clear Hc
    replace HS := H.sub (.cons_cons _ (List.nil_sublist _))
    refine ⟨HS, ?_⟩
    refine tU 3 rfl (o_appB (s := ⟨hd a43, 26, c44, headB 0 [] 15 0 9223372036854775807⟩) (l' := [(1 : UInt8)] ++ (headB 0 [] 15 0 9223372036854775807)) (len' := 27) rfl rfl H (i := 2) rfl sl33 Tryz.underlying33 rfl rfl (H.slOwn (i := 3) rfl) oM (fun a45 c46 w H => ?_)); replace H : Hp _ w _ ([_, _, .own a45 27 c46 (([(1 : UInt8)] ++ (headB 0 [] 15 0 9223372036854775807)).map V8) 5 1, _]) := H
    replace HS := H.sub (.cons_cons _ (List.nil_sublist _))
    refine ⟨HS, ?_⟩
    refine tU 9 rfl (o_appB (s := ⟨hd (some b41), 1, 1, [UInt8.ofNat 0]⟩) (l' := [(1 : UInt8)] ++ (headB 0 [] 15 0 9223372036854775807) ++ ([UInt8.ofNat 0])) (len' := 28) rfl rfl H (i := 2) rfl sl33 Tryz.underlying33 rfl rfl (H.slOwn (i := 1) rfl) oM (fun a47 c48 w H => ?_)); replace H : Hp _ w _ ([_, _, .own a47 28 c48 (([(1 : UInt8)] ++ (headB 0 [] 15 0 9223372036854775807) ++ ([UInt8.ofNat 0])).map V8) 5 1, _]) := H
    replace HS := H.sub (.cons_cons _ (List.nil_sublist _))
    refine ⟨HS, ?_⟩
    refine tK 10 rfl (fun w HS => r_as) HS ?_; refine t_done (by kernel_rfl) ?_
    clear HS
    exact nrm_mk ⟨a47, c48, a43, c44, b41, _, join_fit ⟨rfl, rfl, trivial⟩, H.perm ((perm_fr (j := 0) rfl).trans (.cons _ ((perm_fr (j := 1) rfl).trans (.cons _ ((perm_fr (j := 1) rfl).trans (.cons _ (.refl _)))))))⟩
   ·
    refine (o_callR Tryz.func14 rfl rfl rfl (head140_ret _ (tagR r) (show (tagR r).length = 32 from tagR_len _)) ?_)
    rintro _ w ⟨a49, c50, rfl, Hc⟩
    replace H : Hp _ w _ ([_, _, .own a49 26 c50 ((headB 0 [] 15 0 9223372036854775807).map V8) 5 1]) := H.call Hc
    clear Hc
    replace HS := H.sub (.cons_cons _ (List.nil_sublist _))
    refine ⟨HS, ?_⟩
    refine tU 0 rfl (o_bslB ([(1 : UInt8)]) H sl33 zc5 rfl rfl (by decide) (fun b51 w H hb51 => ?_)); replace H : Hp _ w _ ([_, _, _, .own (some b51) 1 1 (([(1 : UInt8)]).map V8) 5 1]) := H
    replace HS := H.sub (.cons_cons _ (List.nil_sublist _))
    refine ⟨HS, ?_⟩
    refine tU 3 rfl (o_appB (s := ⟨hd a49, 26, c50, headB 0 [] 15 0 9223372036854775807⟩) (l' := [(1 : UInt8)] ++ (headB 0 [] 15 0 9223372036854775807)) (len' := 27) rfl rfl H (i := 3) rfl sl33 Tryz.underlying33 rfl rfl (H.slOwn (i := 2) rfl) oM (fun a52 c53 w H => ?_)); replace H : Hp _ w _ ([_, _, _, .own a52 27 c53 (([(1 : UInt8)] ++ (headB 0 [] 15 0 9223372036854775807)).map V8) 5 1]) := H
    replace HS := H.sub (.cons_cons _ (List.nil_sublist _))
    refine ⟨HS, ?_⟩
    refine tU 9 rfl (o_appB (s := ⟨hd (some b41), 1, 1, [UInt8.ofNat 0]⟩) (l' := [(1 : UInt8)] ++ (headB 0 [] 15 0 9223372036854775807) ++ ([UInt8.ofNat 0])) (len' := 28) rfl rfl H (i := 3) rfl sl33 Tryz.underlying33 rfl rfl (H.slOwn (i := 1) rfl) oM (fun a54 c55 w H => ?_)); replace H : Hp _ w _ ([_, _, _, .own a54 28 c55 (([(1 : UInt8)] ++ (headB 0 [] 15 0 9223372036854775807) ++ ([UInt8.ofNat 0])).map V8) 5 1]) := H
    replace HS := H.sub (.cons_cons _ (List.nil_sublist _))
    refine ⟨HS, ?_⟩
    refine tK 10 rfl (fun w HS => r_as) HS ?_; refine t_done (by kernel_rfl) ?_
    clear HS
    exact nrm_mk ⟨a54, c55, a49, c50, b41, _, join_fit ⟨rfl, rfl, trivial⟩, H.perm ((perm_fr (j := 0) rfl).trans (.cons _ ((perm_fr (j := 2) rfl).trans (.cons _ ((perm_fr (j := 1) rfl).trans (.cons _ (.refl _)))))))⟩
  clear H
  rintro _ w ⟨a8, c9, a3, c4, b7, τ, rfl, H⟩
  refine rG ?_; refine aZ ?_; refine eN ?_
  refine qB ?_; repeat refine c_seq ?_
  refine wp_loop_rounds 1 ?_; refine c_round ?_; refine rG ?_; refine mV ?_; refine lV (r_fa rfl fo40_5) ?_; refine lV (r_ld (v := .slice none 0 0) H (i := 0) rfl rfl ct38 rfl) ?_; refine lV (r_lens el38 rfl) ?_; refine lV (r_bin (a := 0) (b := 0) rfl rfl (fun _ => b_lssB false (decide_eq_false (by decide)))) ?_; refine eN ?_
  refine qN ?_; refine c_exit ?_; refine rG ?_; refine mV ?_; refine lV (r_fa rfl fo40_6) ?_; refine lV (r_slAo (o := 6) (h := 32) (m := 32) (lv := none) (hv := none) (mv := none) rfl ar24 rfl rfl rfl (fun w => sbn w)) ?_; refine l_op (o_appB (s := (⟨some ⟨b1, 6, none⟩, 32, 32, tagR r⟩ : Sl)) (l' := [(1 : UInt8)] ++ (headB 0 [] 15 0 9223372036854775807) ++ ([UInt8.ofNat 0]) ++ (tagR r)) (len' := 60) rfl rfl H (i := 1) rfl sl33 Tryz.underlying33 rfl rfl (H.slTail (i := 0) (o := 6) (pre := [V64 (0 : UInt64), .string ⟨(([] : List UInt8)).toArray⟩, V8 (15 : UInt8), VI 0, VI 9223372036854775807, .slice none 0 0]) rfl rfl (show (tagR r).length = 32 from tagR_len _) (by decide)) oM (fun a56 c57 w H => ?_)); replace H : Hp _ w _ ([_, .own a56 60 c57 (([(1 : UInt8)] ++ (headB 0 [] 15 0 9223372036854775807) ++ ([UInt8.ofNat 0]) ++ (tagR r)).map V8) 5 1, _, _]) := H
  refine aZ ?_; refine aZ ?_; refine eN ?_
  refine cR ?_
  refine e_retN (vs := [.slice (hd a56) 60 c57, VI 0]) _ Tryz.results7 rfl (resT (v := .slice (hd a56) 60 c57) rfl (resT (v := VI 0) rfl (resZ))) ?_
  refine ⟨_, rfl, ?_⟩
  have e1 : [(1 : UInt8)] ++ (headB 0 [] 15 0 9223372036854775807) ++ ([UInt8.ofNat 0]) ++ (tagR r) = tokB (tagR r) := by rw [head0]; rfl
  rw [e1] at H
  exact ⟨_, _, rfl, H.sub (.cons _ (.cons_cons _ (List.nil_sublist _)))⟩
end Go.Proofs.YtmiabahejnjhiaaGreatDoor
