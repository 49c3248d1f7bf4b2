/- Lemmas for the statement CapForged, part 3: rules of operations, walks through functions, plain laws. -/
import Derived.Test.YtjmbbhnpfmblpaaCapForgedG2
namespace Go.Proofs.Ytjmbbhnpfmblpaa
open Go
set_option maxRecDepth 100000
theorem Gl.ok_nil {α : Type} {enc : α → List Value} {sz : Nat} (w : World) : (⟨none, 0, 0, []⟩ : Gl α).ok enc sz w := ⟨.inl rfl, rfl, Nat.le_refl _, Nat.zero_le _, fun c hc => (by cases hc)⟩
def rMay (r : UInt8) : Bool := decide (((r &&& ~~~(15 : UInt8)).toNat : Int) = 0)
def nm1 (c : UInt8) : Bool := (decide (97 ≤ c.toNat) && decide (c.toNat ≤ 122)) || (decide (48 ≤ c.toNat) && decide (c.toNat ≤ 57)) || decide (c.toNat = 45)
theorem nm1_iff (c : UInt8) : nm1 c = true ↔ (97 ≤ c.toNat ∧ c.toNat ≤ 122) ∨ (48 ≤ c.toNat ∧ c.toNat ≤ 57) ∨ c.toNat = 45 := by simp [nm1, or_assoc]
/-- may these bytes be a tenant's name? -/
def nameMay (l : List UInt8) : Bool := decide (1 ≤ l.length) && decide (l.length ≤ 16) && decide (97 ≤ (l.getD 0 0).toNat) && decide ((l.getD 0 0).toNat ≤ 122) && l.all nm1
theorem nameMay_iff (l : List UInt8) : nameMay l = true ↔ 1 ≤ l.length ∧ l.length ≤ 16 ∧ 97 ≤ (l.getD 0 0).toNat ∧ (l.getD 0 0).toNat ≤ 122 ∧ ∀ i, i < l.length → nm1 (l.getD i 0) = true := by
  simp only [nameMay, Bool.and_eq_true, decide_eq_true_eq, List.all_eq_true, and_assoc]
  refine ⟨fun ⟨h1, h2, h3, h4, h5⟩ => ⟨h1, h2, h3, h4, fun i hi => h5 _ ?_⟩, fun ⟨h1, h2, h3, h4, h5⟩ => ⟨h1, h2, h3, h4, fun c hc => ?_⟩⟩
  · rw [List.getD_eq_getElem?_getD, List.getElem?_eq_getElem hi]; exact List.getElem_mem hi
  · obtain ⟨i, hi, rfl⟩ := List.getElem_of_mem hc
    have := h5 i hi
    rwa [List.getD_eq_getElem?_getD, List.getElem?_eq_getElem hi] at this
theorem rmay_ret (w0 : World) (r : UInt8) :
    Ret Try.prog 117 [V8 r] w0 fun v w' => v = .bool (rMay r) ∧ w' = w0 := by
  refine ret_mk Try.func117 rfl Try.ntmps117 (by simp) ?_
  have H := Hp.refl w0 []
  repeat refine c_seq ?_
  refine c_region ?_
  refine l_op (o_val (r_as) ?_)
  first | refine l_end ?_ | refine l_nil ?_
  repeat refine c_seq ?_
  refine c_region ?_
  refine l_op (o_val (r_mv) ?_)
  refine l_op (o_val (r_bin rfl (c8 15 (by decide)) (fun _ => b_andNot_u8)) ?_)
  refine l_op (o_val (r_bin (a := ((r &&& ~~~(15 : UInt8)).toNat : Int)) (b := 0) rfl rfl (fun _ => b_eql)) ?_)
  refine l_op (o_val (r_as) ?_)
  first | refine l_end ?_ | refine l_nil ?_
  refine c_ret ?_
  try dsimp only [Exit.then, Exit.inBlock]
  refine e_ret1 (v := .bool (decide (((r &&& ~~~(15 : UInt8)).toNat : Int) = 0))) Try.results117 rfl ?_
  refine ⟨_, rfl, ?_⟩
  exact ⟨rfl, rfl⟩
theorem rmeet_ret (w0 : World) (a b : UInt8) :
    Ret Try.prog 121 [V8 a, V8 b] w0 fun v w' => v = V8 (a &&& b) ∧ w' = w0 := by
  refine ret_mk Try.func121 rfl Try.ntmps121 (by simp) ?_
  have H := Hp.refl w0 []
  repeat refine c_seq ?_
  refine c_region ?_
  refine l_op (o_val (r_asV (c8 0 (by decide))) ?_)
  first | refine l_end ?_ | refine l_nil ?_
  repeat refine c_seq ?_
  refine c_region ?_
  refine l_op (o_val (r_mv) ?_)
  refine l_op (o_val (r_mv) ?_)
  refine l_op (o_val (r_bin rfl rfl (fun _ => b_and_u8)) ?_)
  refine l_op (o_val (r_as) ?_)
  first | refine l_end ?_ | refine l_nil ?_
  refine c_ret ?_
  try dsimp only [Exit.then, Exit.inBlock]
  refine e_ret1 (v := V8 (a &&& b)) Try.results121 rfl ?_
  refine ⟨_, rfl, ?_⟩
  exact ⟨rfl, rfl⟩
theorem nmay_ret (w0 : World) (l : List UInt8) (hl : l.length ≤ 1099511627776) :
    Ret Try.prog 123 [.string ⟨(l).toArray⟩] w0 fun v w' => v = .bool (nameMay l) ∧ Hp w0 w' [] [] := by
  refine ret_mk Try.func123 rfl Try.ntmps123 (by simp) ?_
  have H := Hp.refl w0 []
  repeat refine c_seq ?_
  refine c_region ?_
  refine l_op (o_val (r_as) ?_)
  first | refine l_end ?_ | refine l_nil ?_
  repeat refine c_seq ?_
  refine c_region ?_
  refine l_op (o_val (r_mv) ?_)
  refine l_op (o_val (r_lenstr (s := ⟨(l).toArray⟩) Try.underlying9 rfl) ?_)
  refine l_op (o_val (r_bin (a := ((l).length : Int)) (b := 1) rfl rfl (fun _ => b_lss)) ?_)
  refine l_op (o_val (r_mv) ?_)
  by_cases hc1 : ((l).length : Int) < 1
  ·
   refine l_no rfl rfl (by exact congrArg Value.bool (decide_eq_true hc1)) rfl ?_
   refine l_no rfl rfl (by exact congrArg Value.bool (decide_eq_true hc1)) rfl ?_
   refine l_no rfl rfl (by exact congrArg Value.bool (decide_eq_true hc1)) rfl ?_
   refine l_op (o_val (r_pick (b := true) (congrArg Value.bool (decide_eq_true hc1))) ?_)
   refine l_op (o_val (r_mv) ?_)
   refine l_no rfl rfl rfl rfl ?_
   refine l_no rfl rfl rfl rfl ?_
   refine l_no rfl rfl rfl rfl ?_
   refine l_op (o_val (r_pick rfl) ?_)
   refine l_op (o_val (r_mv) ?_)
   refine l_no rfl rfl rfl rfl ?_
   refine l_no rfl rfl rfl rfl ?_
   refine l_no rfl rfl rfl rfl ?_
   refine l_op (o_val (r_pick rfl) ?_)
   first | refine l_end ?_ | refine l_nil ?_
   repeat refine c_seq ?_
   refine c_yes rfl ?_
   repeat refine c_seq ?_
   refine c_region ?_
   refine l_op (o_val (r_as) ?_)
   first | refine l_end ?_ | refine l_nil ?_
   refine c_ret ?_
   try dsimp only [Exit.then, Exit.inBlock]
   refine e_ret1 (v := .bool false) Try.results123 rfl ?_
   refine ⟨_, rfl, ?_⟩
   refine ⟨?_, H⟩
   have e : nameMay l = false := Bool.eq_false_iff.2 fun h => by
     have h2 := (nameMay_iff l).1 h
     exact absurd h2 (by omega)
   rw [e]
  ·
   refine l_yes rfl rfl (by exact congrArg Value.bool (decide_eq_false hc1)) (o_val (r_mv) ?_)
   refine l_yes rfl rfl (by exact congrArg Value.bool (decide_eq_false hc1)) (o_val (r_lenstr (s := ⟨(l).toArray⟩) Try.underlying9 rfl) ?_)
   refine l_yes rfl rfl (by exact congrArg Value.bool (decide_eq_false hc1)) (o_val (r_bin (a := ((l).length : Int)) (b := 16) rfl rfl (fun _ => b_gtr)) ?_)
   refine l_op (o_val (r_pick (b := false) (congrArg Value.bool (decide_eq_false hc1))) ?_)
   refine l_op (o_val (r_mv) ?_)
   by_cases hc2 : 16 < ((l).length : Int)
   ·
    refine l_no rfl rfl (by exact congrArg Value.bool (decide_eq_true hc2)) rfl ?_
    refine l_no rfl rfl (by exact congrArg Value.bool (decide_eq_true hc2)) rfl ?_
    refine l_no rfl rfl (by exact congrArg Value.bool (decide_eq_true hc2)) rfl ?_
    refine l_op (o_val (r_pick (b := true) (congrArg Value.bool (decide_eq_true hc2))) ?_)
    refine l_op (o_val (r_mv) ?_)
    refine l_no rfl rfl rfl rfl ?_
    refine l_no rfl rfl rfl rfl ?_
    refine l_no rfl rfl rfl rfl ?_
    refine l_op (o_val (r_pick rfl) ?_)
    first | refine l_end ?_ | refine l_nil ?_
    repeat refine c_seq ?_
    refine c_yes rfl ?_
    repeat refine c_seq ?_
    refine c_region ?_
    refine l_op (o_val (r_as) ?_)
    first | refine l_end ?_ | refine l_nil ?_
    refine c_ret ?_
    try dsimp only [Exit.then, Exit.inBlock]
    refine e_ret1 (v := .bool false) Try.results123 rfl ?_
    refine ⟨_, rfl, ?_⟩
    refine ⟨?_, H⟩
    have e : nameMay l = false := Bool.eq_false_iff.2 fun h => by
      have h2 := (nameMay_iff l).1 h
      exact absurd h2 (by omega)
    rw [e]
   ·
    refine l_yes rfl rfl (by exact congrArg Value.bool (decide_eq_false hc2)) (o_val (r_mv) ?_)
    refine l_yes rfl rfl (by exact congrArg Value.bool (decide_eq_false hc2)) (o_val (r_idxS (l := l) 0 Try.underlying9 rfl rfl (by omega) (by omega)) ?_)
    refine l_yes rfl rfl (by exact congrArg Value.bool (decide_eq_false hc2)) (o_val (r_bin (a := (((l).getD 0 0).toNat : Int)) (b := 97) rfl rfl (fun _ => b_lss)) ?_)
    refine l_op (o_val (r_pick (b := false) (congrArg Value.bool (decide_eq_false hc2))) ?_)
    refine l_op (o_val (r_mv) ?_)
    by_cases hc3 : (((l).getD 0 0).toNat : Int) < 97
    ·
     refine l_no rfl rfl (by exact congrArg Value.bool (decide_eq_true hc3)) rfl ?_
     refine l_no rfl rfl (by exact congrArg Value.bool (decide_eq_true hc3)) rfl ?_
     refine l_no rfl rfl (by exact congrArg Value.bool (decide_eq_true hc3)) rfl ?_
     refine l_op (o_val (r_pick (b := true) (congrArg Value.bool (decide_eq_true hc3))) ?_)
     first | refine l_end ?_ | refine l_nil ?_
     repeat refine c_seq ?_
     refine c_yes rfl ?_
     repeat refine c_seq ?_
     refine c_region ?_
     refine l_op (o_val (r_as) ?_)
     first | refine l_end ?_ | refine l_nil ?_
     refine c_ret ?_
     try dsimp only [Exit.then, Exit.inBlock]
     refine e_ret1 (v := .bool false) Try.results123 rfl ?_
     refine ⟨_, rfl, ?_⟩
     refine ⟨?_, H⟩
     have e : nameMay l = false := Bool.eq_false_iff.2 fun h => by
       have h2 := (nameMay_iff l).1 h
       exact absurd h2 (by omega)
     rw [e]
    ·
     refine l_yes rfl rfl (by exact congrArg Value.bool (decide_eq_false hc3)) (o_val (r_mv) ?_)
     refine l_yes rfl rfl (by exact congrArg Value.bool (decide_eq_false hc3)) (o_val (r_idxS (l := l) 0 Try.underlying9 rfl rfl (by omega) (by omega)) ?_)
     refine l_yes rfl rfl (by exact congrArg Value.bool (decide_eq_false hc3)) (o_val (r_bin (a := (((l).getD 0 0).toNat : Int)) (b := 122) rfl rfl (fun _ => b_gtr)) ?_)
     refine l_op (o_val (r_pick (b := false) (congrArg Value.bool (decide_eq_false hc3))) ?_)
     first | refine l_end ?_ | refine l_nil ?_
     by_cases hc4 : 122 < (((l).getD 0 0).toNat : Int)
     ·
      repeat refine c_seq ?_
      refine c_yes (by exact congrArg Value.bool (decide_eq_true hc4)) ?_
      repeat refine c_seq ?_
      refine c_region ?_
      refine l_op (o_val (r_as) ?_)
      first | refine l_end ?_ | refine l_nil ?_
      refine c_ret ?_
      try dsimp only [Exit.then, Exit.inBlock]
      refine e_ret1 (v := .bool false) Try.results123 rfl ?_
      refine ⟨_, rfl, ?_⟩
      refine ⟨?_, H⟩
      have e : nameMay l = false := Bool.eq_false_iff.2 fun h => by
        have h2 := (nameMay_iff l).1 h
        exact absurd h2 (by omega)
      rw [e]
     ·
      repeat refine c_seq ?_
      refine c_no (by exact congrArg Value.bool (decide_eq_false hc4)) ?_
      refine c_skip ?_
      repeat refine c_seq ?_
      refine c_region ?_
      refine l_op (o_val (r_mv) ?_)
      refine l_op (o_val (r_lenstr (s := ⟨(l).toArray⟩) Try.underlying9 rfl) ?_)
      refine l_op (o_val (r_mv) ?_)
      first | refine l_end ?_ | refine l_nil ?_
      repeat refine c_seq ?_
      refine c_block ?_
      repeat refine c_seq ?_
      refine c_loop (fun (i : Nat) => [(0, .string ⟨(l).toArray⟩), (24, VI ((l).length : Int)), (25, VI (i : Int))])
        (fun (i : Nat) w => (i ≤ l.length ∧ ∀ j, j < i → nm1 (l.getD j 0) = true) ∧ Hp w0 w [] ([]))
        (fun (i : Nat) => l.length - i) 0 ⟨rfl, rfl, rfl, trivial⟩ ⟨⟨Nat.zero_le _, fun j hj => absurd hj (by omega)⟩, H⟩ ?_
      clear H
      rintro i τ w ⟨⟨hi, hall⟩, H⟩
      repeat refine c_seq ?_
      refine c_region ?_
      refine l_op (o_val (r_bin (a := (i : Int)) (b := ((l).length : Int)) rfl rfl (fun _ => b_lss)) ?_)
      first | refine l_end ?_ | refine l_nil ?_
      by_cases hc5 : (i : Int) < ((l).length : Int)
      ·
       repeat refine c_seq ?_
       refine c_yes (by exact congrArg Value.bool (decide_eq_true hc5)) ?_
       refine c_skip ?_
       repeat refine c_seq ?_
       refine c_block ?_
       repeat refine c_seq ?_
       refine c_region ?_
       refine l_op (o_val (r_mv) ?_)
       refine l_op (o_val (r_as) ?_)
       first | refine l_end ?_ | refine l_nil ?_
       repeat refine c_seq ?_
       refine c_region ?_
       refine l_op (o_val (r_mv) ?_)
       refine l_op (o_val (r_mv) ?_)
       refine l_op (o_val (r_idxS (l := l) i Try.underlying9 rfl rfl (by omega) (by omega)) ?_)
       refine l_op (o_val (r_as) ?_)
       first | refine l_end ?_ | refine l_nil ?_
       repeat refine c_seq ?_
       refine c_block ?_
       repeat refine c_seq ?_
       refine c_region ?_
       refine l_op (o_val (r_mv) ?_)
       refine l_op (o_val (r_bin (a := (((l).getD i 0).toNat : Int)) (b := 97) rfl rfl (fun _ => b_geq)) ?_)
       refine l_op (o_val (r_mv) ?_)
       by_cases hc6 : 97 ≤ (((l).getD i 0).toNat : Int)
       ·
        refine l_yes rfl rfl (by exact congrArg Value.bool (decide_eq_true hc6)) (o_val (r_mv) ?_)
        refine l_yes rfl rfl (by exact congrArg Value.bool (decide_eq_true hc6)) (o_val (r_bin (a := (((l).getD i 0).toNat : Int)) (b := 122) rfl rfl (fun _ => b_leq)) ?_)
        refine l_op (o_val (r_pick (b := true) (congrArg Value.bool (decide_eq_true hc6))) ?_)
        refine l_op (o_val (r_as) ?_)
        first | refine l_end ?_ | refine l_nil ?_
        by_cases hc7 : (((l).getD i 0).toNat : Int) ≤ 122
        ·
         repeat refine c_seq ?_
         refine c_yes (by exact congrArg Value.bool (decide_eq_true hc7)) ?_
         refine c_skip ?_
         repeat refine c_seq ?_
         refine c_yes (by exact congrArg Value.bool (decide_eq_true hc7)) ?_
         refine c_skip ?_
         repeat refine c_seq ?_
         refine c_region ?_
         refine l_op (o_val (r_bin (a := (i : Int)) (b := 1) rfl rfl (fun _ => b_add (by omega) (by omega))) ?_)
         refine l_op (o_val (r_mv) ?_)
         first | refine l_end ?_ | refine l_nil ?_
         refine round_end (i + 1) ?_ ?_ ?_
         · exact ⟨rfl, rfl, show VI ((i : Int) + 1) = VI ((i + 1 : Nat) : Int) from congrArg VI (by omega), trivial⟩
         · refine ⟨?_, ?_⟩
           · try dsimp only
             exact ⟨by omega, fun j hj => by
               by_cases hji : j < i
               · exact hall j hji
               · have e : j = i := by omega
                 rw [e]; exact (nm1_iff _).2 (by omega)⟩
           · exact H
         · show l.length - (i + 1 : Nat) < l.length - i; omega
        ·
         repeat refine c_seq ?_
         refine c_no (by exact congrArg Value.bool (decide_eq_false hc7)) ?_
         repeat refine c_seq ?_
         refine c_region ?_
         refine l_op (o_val (r_mv) ?_)
         refine l_op (o_val (r_bin (a := (((l).getD i 0).toNat : Int)) (b := 48) rfl rfl (fun _ => b_geq)) ?_)
         refine l_op (o_val (r_mv) ?_)
         by_cases hc8 : 48 ≤ (((l).getD i 0).toNat : Int)
         ·
          refine l_yes rfl rfl (by exact congrArg Value.bool (decide_eq_true hc8)) (o_val (r_mv) ?_)
          refine l_yes rfl rfl (by exact congrArg Value.bool (decide_eq_true hc8)) (o_val (r_bin (a := (((l).getD i 0).toNat : Int)) (b := 57) rfl rfl (fun _ => b_leq)) ?_)
          refine l_op (o_val (r_pick (b := true) (congrArg Value.bool (decide_eq_true hc8))) ?_)
          refine l_op (o_val (r_as) ?_)
          first | refine l_end ?_ | refine l_nil ?_
          by_cases hc9 : (((l).getD i 0).toNat : Int) ≤ 57
          ·
           repeat refine c_seq ?_
           refine c_yes (by exact congrArg Value.bool (decide_eq_true hc9)) ?_
           refine c_skip ?_
           repeat refine c_seq ?_
           refine c_yes (by exact congrArg Value.bool (decide_eq_true hc9)) ?_
           refine c_skip ?_
           repeat refine c_seq ?_
           refine c_region ?_
           refine l_op (o_val (r_bin (a := (i : Int)) (b := 1) rfl rfl (fun _ => b_add (by omega) (by omega))) ?_)
           refine l_op (o_val (r_mv) ?_)
           first | refine l_end ?_ | refine l_nil ?_
           refine round_end (i + 1) ?_ ?_ ?_
           · exact ⟨rfl, rfl, show VI ((i : Int) + 1) = VI ((i + 1 : Nat) : Int) from congrArg VI (by omega), trivial⟩
           · refine ⟨?_, ?_⟩
             · try dsimp only
               exact ⟨by omega, fun j hj => by
                 by_cases hji : j < i
                 · exact hall j hji
                 · have e : j = i := by omega
                   rw [e]; exact (nm1_iff _).2 (by omega)⟩
             · exact H
           · show l.length - (i + 1 : Nat) < l.length - i; omega
          ·
           repeat refine c_seq ?_
           refine c_no (by exact congrArg Value.bool (decide_eq_false hc9)) ?_
           repeat refine c_seq ?_
           refine c_region ?_
           refine l_op (o_val (r_mv) ?_)
           refine l_op (o_val (r_bin (a := (((l).getD i 0).toNat : Int)) (b := 45) rfl rfl (fun _ => b_eql)) ?_)
           refine l_op (o_val (r_as) ?_)
           first | refine l_end ?_ | refine l_nil ?_
           by_cases hc10 : (((l).getD i 0).toNat : Int) = 45
           ·
            repeat refine c_seq ?_
            refine c_yes (by exact congrArg Value.bool (decide_eq_true hc10)) ?_
            refine c_skip ?_
            repeat refine c_seq ?_
            refine c_region ?_
            refine l_op (o_val (r_bin (a := (i : Int)) (b := 1) rfl rfl (fun _ => b_add (by omega) (by omega))) ?_)
            refine l_op (o_val (r_mv) ?_)
            first | refine l_end ?_ | refine l_nil ?_
            refine round_end (i + 1) ?_ ?_ ?_
            · exact ⟨rfl, rfl, show VI ((i : Int) + 1) = VI ((i + 1 : Nat) : Int) from congrArg VI (by omega), trivial⟩
            · refine ⟨?_, ?_⟩
              · try dsimp only
                exact ⟨by omega, fun j hj => by
                  by_cases hji : j < i
                  · exact hall j hji
                  · have e : j = i := by omega
                    rw [e]; exact (nm1_iff _).2 (by omega)⟩
              · exact H
            · show l.length - (i + 1 : Nat) < l.length - i; omega
           ·
            repeat refine c_seq ?_
            refine c_no (by exact congrArg Value.bool (decide_eq_false hc10)) ?_
            repeat refine c_seq ?_
            refine c_region ?_
            refine l_op (o_val (r_as) ?_)
            first | refine l_end ?_ | refine l_nil ?_
            refine c_ret ?_
            try dsimp only [Exit.then, Exit.inBlock]
            refine e_ret1 (v := .bool false) Try.results123 rfl ?_
            refine ⟨_, rfl, ?_⟩
            refine ⟨?_, H⟩
            have e : nameMay l = false := Bool.eq_false_iff.2 fun h => by
              have h2 := (nameMay_iff l).1 h
              have h3 := (nm1_iff _).1 (h2.2.2.2.2 i (by omega))
              exact absurd h2 (by omega)
            rw [e]
         ·
          refine l_no rfl rfl (by exact congrArg Value.bool (decide_eq_false hc8)) rfl ?_
          refine l_no rfl rfl (by exact congrArg Value.bool (decide_eq_false hc8)) rfl ?_
          refine l_op (o_val (r_pick (b := false) (congrArg Value.bool (decide_eq_false hc8))) ?_)
          refine l_op (o_val (r_as) ?_)
          first | refine l_end ?_ | refine l_nil ?_
          repeat refine c_seq ?_
          refine c_no rfl ?_
          repeat refine c_seq ?_
          refine c_region ?_
          refine l_op (o_val (r_mv) ?_)
          refine l_op (o_val (r_bin (a := (((l).getD i 0).toNat : Int)) (b := 45) rfl rfl (fun _ => b_eql)) ?_)
          refine l_op (o_val (r_as) ?_)
          first | refine l_end ?_ | refine l_nil ?_
          by_cases hc11 : (((l).getD i 0).toNat : Int) = 45
          ·
           repeat refine c_seq ?_
           refine c_yes (by exact congrArg Value.bool (decide_eq_true hc11)) ?_
           refine c_skip ?_
           repeat refine c_seq ?_
           refine c_region ?_
           refine l_op (o_val (r_bin (a := (i : Int)) (b := 1) rfl rfl (fun _ => b_add (by omega) (by omega))) ?_)
           refine l_op (o_val (r_mv) ?_)
           first | refine l_end ?_ | refine l_nil ?_
           refine round_end (i + 1) ?_ ?_ ?_
           · exact ⟨rfl, rfl, show VI ((i : Int) + 1) = VI ((i + 1 : Nat) : Int) from congrArg VI (by omega), trivial⟩
           · refine ⟨?_, ?_⟩
             · try dsimp only
               exact ⟨by omega, fun j hj => by
                 by_cases hji : j < i
                 · exact hall j hji
                 · have e : j = i := by omega
                   rw [e]; exact (nm1_iff _).2 (by omega)⟩
             · exact H
           · show l.length - (i + 1 : Nat) < l.length - i; omega
          ·
           repeat refine c_seq ?_
           refine c_no (by exact congrArg Value.bool (decide_eq_false hc11)) ?_
           repeat refine c_seq ?_
           refine c_region ?_
           refine l_op (o_val (r_as) ?_)
           first | refine l_end ?_ | refine l_nil ?_
           refine c_ret ?_
           try dsimp only [Exit.then, Exit.inBlock]
           refine e_ret1 (v := .bool false) Try.results123 rfl ?_
           refine ⟨_, rfl, ?_⟩
           refine ⟨?_, H⟩
           have e : nameMay l = false := Bool.eq_false_iff.2 fun h => by
             have h2 := (nameMay_iff l).1 h
             have h3 := (nm1_iff _).1 (h2.2.2.2.2 i (by omega))
             exact absurd h2 (by omega)
           rw [e]
       ·
        refine l_no rfl rfl (by exact congrArg Value.bool (decide_eq_false hc6)) rfl ?_
        refine l_no rfl rfl (by exact congrArg Value.bool (decide_eq_false hc6)) rfl ?_
        refine l_op (o_val (r_pick (b := false) (congrArg Value.bool (decide_eq_false hc6))) ?_)
        refine l_op (o_val (r_as) ?_)
        first | refine l_end ?_ | refine l_nil ?_
        repeat refine c_seq ?_
        refine c_no rfl ?_
        repeat refine c_seq ?_
        refine c_region ?_
        refine l_op (o_val (r_mv) ?_)
        refine l_op (o_val (r_bin (a := (((l).getD i 0).toNat : Int)) (b := 48) rfl rfl (fun _ => b_geq)) ?_)
        refine l_op (o_val (r_mv) ?_)
        by_cases hc12 : 48 ≤ (((l).getD i 0).toNat : Int)
        ·
         refine l_yes rfl rfl (by exact congrArg Value.bool (decide_eq_true hc12)) (o_val (r_mv) ?_)
         refine l_yes rfl rfl (by exact congrArg Value.bool (decide_eq_true hc12)) (o_val (r_bin (a := (((l).getD i 0).toNat : Int)) (b := 57) rfl rfl (fun _ => b_leq)) ?_)
         refine l_op (o_val (r_pick (b := true) (congrArg Value.bool (decide_eq_true hc12))) ?_)
         refine l_op (o_val (r_as) ?_)
         first | refine l_end ?_ | refine l_nil ?_
         by_cases hc13 : (((l).getD i 0).toNat : Int) ≤ 57
         ·
          repeat refine c_seq ?_
          refine c_yes (by exact congrArg Value.bool (decide_eq_true hc13)) ?_
          refine c_skip ?_
          repeat refine c_seq ?_
          refine c_yes (by exact congrArg Value.bool (decide_eq_true hc13)) ?_
          refine c_skip ?_
          repeat refine c_seq ?_
          refine c_region ?_
          refine l_op (o_val (r_bin (a := (i : Int)) (b := 1) rfl rfl (fun _ => b_add (by omega) (by omega))) ?_)
          refine l_op (o_val (r_mv) ?_)
          first | refine l_end ?_ | refine l_nil ?_
          refine round_end (i + 1) ?_ ?_ ?_
          · exact ⟨rfl, rfl, show VI ((i : Int) + 1) = VI ((i + 1 : Nat) : Int) from congrArg VI (by omega), trivial⟩
          · refine ⟨?_, ?_⟩
            · try dsimp only
              exact ⟨by omega, fun j hj => by
                by_cases hji : j < i
                · exact hall j hji
                · have e : j = i := by omega
                  rw [e]; exact (nm1_iff _).2 (by omega)⟩
            · exact H
          · show l.length - (i + 1 : Nat) < l.length - i; omega
         ·
          repeat refine c_seq ?_
          refine c_no (by exact congrArg Value.bool (decide_eq_false hc13)) ?_
          repeat refine c_seq ?_
          refine c_region ?_
          refine l_op (o_val (r_mv) ?_)
          refine l_op (o_val (r_bin (a := (((l).getD i 0).toNat : Int)) (b := 45) rfl rfl (fun _ => b_eql)) ?_)
          refine l_op (o_val (r_as) ?_)
          first | refine l_end ?_ | refine l_nil ?_
          by_cases hc14 : (((l).getD i 0).toNat : Int) = 45
          ·
           repeat refine c_seq ?_
           refine c_yes (by exact congrArg Value.bool (decide_eq_true hc14)) ?_
           refine c_skip ?_
           repeat refine c_seq ?_
           refine c_region ?_
           refine l_op (o_val (r_bin (a := (i : Int)) (b := 1) rfl rfl (fun _ => b_add (by omega) (by omega))) ?_)
           refine l_op (o_val (r_mv) ?_)
           first | refine l_end ?_ | refine l_nil ?_
           refine round_end (i + 1) ?_ ?_ ?_
           · exact ⟨rfl, rfl, show VI ((i : Int) + 1) = VI ((i + 1 : Nat) : Int) from congrArg VI (by omega), trivial⟩
           · refine ⟨?_, ?_⟩
             · try dsimp only
               exact ⟨by omega, fun j hj => by
                 by_cases hji : j < i
                 · exact hall j hji
                 · have e : j = i := by omega
                   rw [e]; exact (nm1_iff _).2 (by omega)⟩
             · exact H
           · show l.length - (i + 1 : Nat) < l.length - i; omega
          ·
           repeat refine c_seq ?_
           refine c_no (by exact congrArg Value.bool (decide_eq_false hc14)) ?_
           repeat refine c_seq ?_
           refine c_region ?_
           refine l_op (o_val (r_as) ?_)
           first | refine l_end ?_ | refine l_nil ?_
           refine c_ret ?_
           try dsimp only [Exit.then, Exit.inBlock]
           refine e_ret1 (v := .bool false) Try.results123 rfl ?_
           refine ⟨_, rfl, ?_⟩
           refine ⟨?_, H⟩
           have e : nameMay l = false := Bool.eq_false_iff.2 fun h => by
             have h2 := (nameMay_iff l).1 h
             have h3 := (nm1_iff _).1 (h2.2.2.2.2 i (by omega))
             exact absurd h2 (by omega)
           rw [e]
        ·
         refine l_no rfl rfl (by exact congrArg Value.bool (decide_eq_false hc12)) rfl ?_
         refine l_no rfl rfl (by exact congrArg Value.bool (decide_eq_false hc12)) rfl ?_
         refine l_op (o_val (r_pick (b := false) (congrArg Value.bool (decide_eq_false hc12))) ?_)
         refine l_op (o_val (r_as) ?_)
         first | refine l_end ?_ | refine l_nil ?_
         repeat refine c_seq ?_
         refine c_no rfl ?_
         repeat refine c_seq ?_
         refine c_region ?_
         refine l_op (o_val (r_mv) ?_)
         refine l_op (o_val (r_bin (a := (((l).getD i 0).toNat : Int)) (b := 45) rfl rfl (fun _ => b_eql)) ?_)
         refine l_op (o_val (r_as) ?_)
         first | refine l_end ?_ | refine l_nil ?_
         by_cases hc15 : (((l).getD i 0).toNat : Int) = 45
         ·
          repeat refine c_seq ?_
          refine c_yes (by exact congrArg Value.bool (decide_eq_true hc15)) ?_
          refine c_skip ?_
          repeat refine c_seq ?_
          refine c_region ?_
          refine l_op (o_val (r_bin (a := (i : Int)) (b := 1) rfl rfl (fun _ => b_add (by omega) (by omega))) ?_)
          refine l_op (o_val (r_mv) ?_)
          first | refine l_end ?_ | refine l_nil ?_
          refine round_end (i + 1) ?_ ?_ ?_
          · exact ⟨rfl, rfl, show VI ((i : Int) + 1) = VI ((i + 1 : Nat) : Int) from congrArg VI (by omega), trivial⟩
          · refine ⟨?_, ?_⟩
            · try dsimp only
              exact ⟨by omega, fun j hj => by
                by_cases hji : j < i
                · exact hall j hji
                · have e : j = i := by omega
                  rw [e]; exact (nm1_iff _).2 (by omega)⟩
            · exact H
          · show l.length - (i + 1 : Nat) < l.length - i; omega
         ·
          repeat refine c_seq ?_
          refine c_no (by exact congrArg Value.bool (decide_eq_false hc15)) ?_
          repeat refine c_seq ?_
          refine c_region ?_
          refine l_op (o_val (r_as) ?_)
          first | refine l_end ?_ | refine l_nil ?_
          refine c_ret ?_
          try dsimp only [Exit.then, Exit.inBlock]
          refine e_ret1 (v := .bool false) Try.results123 rfl ?_
          refine ⟨_, rfl, ?_⟩
          refine ⟨?_, H⟩
          have e : nameMay l = false := Bool.eq_false_iff.2 fun h => by
            have h2 := (nameMay_iff l).1 h
            have h3 := (nm1_iff _).1 (h2.2.2.2.2 i (by omega))
            exact absurd h2 (by omega)
          rw [e]
      ·
       repeat refine c_seq ?_
       refine c_no (by exact congrArg Value.bool (decide_eq_false hc5)) ?_
       refine c_exit ?_
       repeat refine c_seq ?_
       refine c_region ?_
       refine l_op (o_val (r_as) ?_)
       first | refine l_end ?_ | refine l_nil ?_
       refine c_ret ?_
       try dsimp only [Exit.then, Exit.inBlock]
       refine e_ret1 (v := .bool true) Try.results123 rfl ?_
       refine ⟨_, rfl, ?_⟩
       refine ⟨?_, H⟩
       rw [(nameMay_iff l).2 ⟨by omega, by omega, by omega, by omega, fun j hj => hall j (by omega)⟩]
abbrev Cav := UInt8 × Int
def cavE (c : Cav) : List Value := [V8 c.1, VI c.2]
/-- a token, as a world has it. -/
structure Tok where
  serial : UInt64
  tenant : List UInt8
  rights : UInt8
  from_ : Int
  until_ : Int
  cs : Gl Cav
  tag : List UInt8
def timeB (v : Int) : List UInt8 := be (zigU v).toNat 8
def cavB (c : Cav) : List UInt8 := [c.1] ++ timeB c.2
def headB (serial : UInt64) (tenant : List UInt8) (rights : UInt8) (from_ until_ : Int) : List UInt8 := be serial.toNat 8 ++ cnt tenant.length ++ tenant ++ [rights] ++ timeB from_ ++ timeB until_
def Tok.head (t : Tok) : List UInt8 := headB t.serial t.tenant t.rights t.from_ t.until_
theorem time_ret (w0 : World) (s : Sl) (hs : s.ok w0) (hm : s.len ≤ 1048576) (n : Int) :
    Ret Try.prog 141 [s.v, VI n] w0 fun v w' => ∃ a c, v = .slice (hd a) (s.len + 8) c ∧ Hp w0 w' [] [.own a (s.len + 8) c ((s.l ++ timeB n).map V8) 5 1] := by
  refine ret_mk Try.func141 rfl Try.ntmps141 (by simp) ?_
  have H := Hp.refl w0 []
  repeat refine c_seq ?_
  refine c_region ?_
  refine l_op (o_val (r_as) ?_)
  first | refine l_end ?_ | refine l_nil ?_
  repeat refine c_seq ?_
  refine c_region ?_
  refine l_op (o_val (r_mv) ?_)
  refine l_op (o_val (r_mv) ?_)
  refine l_op (o_callR Try.func148 rfl rfl rfl (zig_ret _ (n)) ?_)
  rintro _ w ⟨rfl, Hc⟩
  replace H : Hp _ w _ ([]) := H.call Hc
  clear Hc
  refine l_op (o_callR Try.func109 rfl rfl rfl (put_ret _ s (hs.up H (fun _ => apart_nil _)) (zigU (n)) 8 (by omega) (by omega) (.inl rfl) (by (try dsimp only); omega)) ?_)
  rintro _ w ⟨a1, c2, rfl, Hc⟩
  replace H : Hp _ w _ ([.own a1 (s.len + 8) c2 ((s.l ++ be (zigU (n)).toNat 8).map V8) 5 1]) := H.call Hc
  clear Hc
  refine l_op (o_val (r_mv) ?_)
  refine l_op (o_val (r_ext rfl rfl) ?_)
  refine l_op (o_val (r_ext rfl rfl) ?_)
  refine l_op (o_val (r_as) ?_)
  refine l_op (o_val (r_as) ?_)
  first | refine l_end ?_ | refine l_nil ?_
  repeat refine c_seq ?_
  refine c_region ?_
  refine l_op (o_val (r_mv) ?_)
  refine l_op (o_val (r_as) ?_)
  first | refine l_end ?_ | refine l_nil ?_
  refine c_ret ?_
  try dsimp only [Exit.then, Exit.inBlock]
  refine e_ret1 (v := .slice (hd a1) (s.len + 8) c2) Try.results141 rfl ?_
  refine ⟨_, rfl, ?_⟩
  exact ⟨_, _, rfl, H⟩
theorem caveat_ret (w0 : World) (c : Cav) :
    Ret Try.prog 125 [.agg ([V8 c.1, VI c.2]).toArray] w0 fun v w' => ∃ a k, v = .slice (hd a) 9 k ∧ Hp w0 w' [] [.own a 9 k ((cavB c).map V8) 5 1] := by
  refine ret_mk Try.func125 rfl Try.ntmps125 (by simp) ?_
  have H := Hp.refl w0 []
  repeat refine c_seq ?_
  refine c_region ?_
  refine l_op (o_box (v := .agg ([V8 c.1, VI c.2]).toArray) H rfl (fun b1 w H hb1 => ?_))
  replace H : Hp _ w _ ([.blk b1 ([V8 c.1, VI c.2]) 78]) := H
  refine l_op (o_val (r_as) ?_)
  first | refine l_end ?_ | refine l_nil ?_
  repeat refine c_seq ?_
  refine c_region ?_
  refine l_op (o_val (r_fa rfl fo78_0) ?_)
  refine l_op (o_val (r_ld (v := V8 c.1) H (i := 0) rfl rfl ct73 rfl) ?_)
  refine l_op (o_bslB ([c.1]) H sl29 zc5 rfl rfl (by decide) (fun b2 w H hb2 => ?_))
  replace H : Hp _ w _ ([_, .own (some b2) 1 1 (([c.1]).map V8) 5 1]) := H
  refine l_op (o_val (r_fa rfl fo78_1) ?_)
  refine l_op (o_val (r_ld (v := VI c.2) H (i := 0) rfl rfl ct2 rfl) ?_)
  refine l_op (o_callR Try.func141 rfl rfl rfl (time_ret _ ⟨hd (some b2), 1, 1, [c.1]⟩ (H.slOwn (i := 1) rfl) (by (try simp only []); omega) (c.2)) ?_)
  rintro _ w ⟨a3, c4, rfl, Hc⟩
  replace H : Hp _ w _ ([_, _, .own a3 (1 + 8) c4 (([c.1] ++ timeB (c.2)).map V8) 5 1]) := H.call Hc
  clear Hc
  refine l_op (o_val (r_as) ?_)
  first | refine l_end ?_ | refine l_nil ?_
  refine c_ret ?_
  try dsimp only [Exit.then, Exit.inBlock]
  refine e_ret1 (v := .slice (hd a3) (1 + 8) c4) Try.results125 rfl ?_
  refine ⟨_, rfl, ?_⟩
  exact ⟨_, _, rfl, H.sub (.cons _ (.cons _ (.cons_cons _ (List.nil_sublist _))))⟩
theorem head_ret (w0 : World) (t : Tok) (_hc : t.cs.ok cavE 2 w0) (_htag : t.tag.length = 32) (hn : t.tenant.length ≤ 65536) :
    Ret Try.prog 115 [.agg ([V64 t.serial, .string ⟨(t.tenant).toArray⟩, V8 t.rights, VI t.from_, VI t.until_, t.cs.v] ++ (t.tag).map V8).toArray] w0 fun v w' => ∃ a n c, v = .slice (hd a) n c ∧ n ≤ t.tenant.length + 64 ∧ t.head.length = n ∧ Hp w0 w' [] [.own a n c (t.head.map V8) 5 1] := by
  refine ret_mk Try.func115 rfl Try.ntmps115 (by simp) ?_
  have H := Hp.refl w0 []
  repeat refine c_seq ?_
  refine c_region ?_
  refine l_op (o_box (v := .agg ([V64 t.serial, .string ⟨(t.tenant).toArray⟩, V8 t.rights, VI t.from_, VI t.until_, t.cs.v] ++ (t.tag).map V8).toArray) H rfl (fun b1 w H hb1 => ?_))
  replace H : Hp _ w _ ([.blk b1 ([V64 t.serial, .string ⟨(t.tenant).toArray⟩, V8 t.rights, VI t.from_, VI t.until_, t.cs.v] ++ (t.tag).map V8) 76]) := H
  refine l_op (o_val (r_as) ?_)
  first | refine l_end ?_ | refine l_nil ?_
  repeat refine c_seq ?_
  refine c_region ?_
  refine l_op (o_val (r_fa rfl fo76_0) ?_)
  refine l_op (o_val (r_ld (v := V64 t.serial) H (i := 0) rfl rfl ct35 rfl) ?_)
  refine l_op (o_callR Try.func109 rfl rfl rfl (put0_ret _ (t.serial) 8 (by omega) (by omega) (.inl rfl)) ?_)
  rintro _ w ⟨a2, c3, rfl, Hc⟩
  replace H : Hp _ w _ ([_, .own a2 8 c3 ((be (t.serial).toNat 8).map V8) 5 1]) := H.call Hc
  clear Hc
  refine l_op (o_val (r_mv) ?_)
  refine l_op (o_val (r_ext rfl rfl) ?_)
  refine l_op (o_val (r_ext rfl rfl) ?_)
  refine l_op (o_val (r_as) ?_)
  refine l_op (o_val (r_as) ?_)
  first | refine l_end ?_ | refine l_nil ?_
  repeat refine c_seq ?_
  refine c_region ?_
  refine l_op (o_val (r_mv) ?_)
  refine l_op (o_val (r_fa rfl fo76_1) ?_)
  refine l_op (o_val (r_ld (v := .string ⟨(t.tenant).toArray⟩) H (i := 0) rfl rfl ct9 rfl) ?_)
  refine l_op (o_s2B (l := t.tenant) H Try.underlying9 Try.underlying29 Try.underlying5 rfl (by omega) (fun b4 c5 ob6 w H hb4 hr7 => ?_))
  replace H : Hp _ w _ ([_, _, .obj b4 ob6]) := H
  refine l_op (o_callR Try.func127 rfl rfl rfl (text_ret _ ⟨hd a2, 8, c3, be (t.serial).toNat 8⟩ (⟨some ⟨b4, 0, none⟩, (t.tenant).length, c5, t.tenant⟩ : Sl) (H.slOwn (i := 1) rfl) (hr7 _ (H.has (.obj b4 ob6) (by simp))) (by (try simp only []); omega) (by (try simp only []); omega)) ?_)
  rintro _ w ⟨a8, n9, c10, rfl, hn11, Hc⟩
  replace H : Hp _ w _ ([_, _, _, .own a8 n9 c10 ((be (t.serial).toNat 8 ++ cnt ((t.tenant).length) ++ t.tenant).map V8) 5 1]) := H.call Hc
  clear Hc
  try dsimp only at hn11
  refine l_op (o_val (r_mv) ?_)
  refine l_op (o_val (r_ext rfl rfl) ?_)
  refine l_op (o_val (r_ext rfl rfl) ?_)
  refine l_op (o_val (r_as) ?_)
  first | refine l_end ?_ | refine l_nil ?_
  repeat refine c_seq ?_
  refine wp_held (fun w => Hp w0 w [] [.blk b1 ([V64 t.serial, .string ⟨(t.tenant).toArray⟩, V8 t.rights, VI t.from_, VI t.until_, t.cs.v] ++ (t.tag).map V8) 76, .own a2 8 c3 ((be (t.serial).toNat 8).map V8) 5 1, .obj b4 ob6]) mixed ?_
  replace H := H.drew
  have HS := H.sub (.cons_cons _ (.cons_cons _ (.cons_cons _ (List.nil_sublist _))))
  refine t_take 0 rfl (by kernel_rfl) (by kernel_rfl) (by kernel_rfl) (fun _ _ _ h => h) (fun w HS => r_mv) HS ?_
  refine t_take 1 rfl (by kernel_rfl) (by kernel_rfl) (by kernel_rfl) (fun _ _ _ h => h) (fun w HS => r_fa rfl fo76_2) HS ?_
  refine t_take 2 rfl (by kernel_rfl) (by kernel_rfl) (by kernel_rfl) (fun _ _ _ h => h) (fun w HS => r_ld (v := V8 t.rights) HS (i := 0) rfl rfl ct73 rfl) HS ?_
  refine t_take 5 rfl (by kernel_rfl) (by kernel_rfl) (by kernel_rfl) (fun _ _ _ h => h) (fun w HS => r_fa rfl fo76_3) HS ?_
  refine t_take 6 rfl (by kernel_rfl) (by kernel_rfl) (by kernel_rfl) (fun _ _ _ h => h) (fun w HS => r_ld (v := VI t.from_) HS (i := 0) rfl rfl ct2 rfl) HS ?_
  refine t_take 8 rfl (by kernel_rfl) (by kernel_rfl) (by kernel_rfl) (fun _ _ _ h => h) (fun w HS => r_fa rfl fo76_4) HS ?_
  refine t_take 9 rfl (by kernel_rfl) (by kernel_rfl) (by kernel_rfl) (fun _ _ _ h => h) (fun w HS => r_ld (v := VI t.until_) HS (i := 0) rfl rfl ct2 rfl) HS ?_
  refine t_step 3 rfl (by kernel_rfl) (o_bslB ([t.rights]) H sl29 zc5 rfl rfl (by decide) (fun b12 w H hb12 => ?_))
  replace H : Hp _ w _ ([_, _, _, _, .own (some b12) 1 1 (([t.rights]).map V8) 5 1]) := H
  refine ⟨H.sub (.cons_cons _ (.cons_cons _ (.cons_cons _ (List.nil_sublist _)))), ?_⟩
  replace HS := H.sub (.cons_cons _ (.cons_cons _ (.cons_cons _ (List.nil_sublist _))))
  refine t_step 4 rfl (by kernel_rfl) (o_appB (s := ⟨hd (some b12), 1, 1, [t.rights]⟩) (l' := be (t.serial).toNat 8 ++ cnt ((t.tenant).length) ++ t.tenant ++ ([t.rights])) (len' := n9 + 1) rfl rfl H (i := 3) rfl sl29 Try.underlying29 rfl rfl (H.slOwn (i := 4) rfl) (by omega) (fun a13 c14 w H => ?_))
  replace H : Hp _ w _ ([_, _, _, .own a13 (n9 + 1) c14 ((be (t.serial).toNat 8 ++ cnt ((t.tenant).length) ++ t.tenant ++ ([t.rights])).map V8) 5 1, _]) := H
  refine ⟨H.sub (.cons_cons _ (.cons_cons _ (.cons_cons _ (List.nil_sublist _)))), ?_⟩
  replace HS := H.sub (.cons_cons _ (.cons_cons _ (.cons_cons _ (List.nil_sublist _))))
  refine t_step 7 rfl (by kernel_rfl) (o_callR Try.func141 rfl rfl rfl (time_ret _ ⟨hd a13, n9 + 1, c14, be (t.serial).toNat 8 ++ cnt ((t.tenant).length) ++ t.tenant ++ ([t.rights])⟩ (H.slOwn (i := 3) rfl) (by (try simp only []); omega) (t.from_)) ?_)
  rintro _ w ⟨a15, c16, rfl, Hc⟩
  replace H : Hp _ w _ ([_, _, _, _, _, .own a15 (n9 + 1 + 8) c16 ((be (t.serial).toNat 8 ++ cnt ((t.tenant).length) ++ t.tenant ++ ([t.rights]) ++ timeB (t.from_)).map V8) 5 1]) := H.call Hc
  clear Hc
  refine ⟨H.sub (.cons_cons _ (.cons_cons _ (.cons_cons _ (List.nil_sublist _)))), ?_⟩
  replace HS := H.sub (.cons_cons _ (.cons_cons _ (.cons_cons _ (List.nil_sublist _))))
  refine t_step 10 rfl (by kernel_rfl) (o_callR Try.func141 rfl rfl rfl (time_ret _ ⟨hd a15, n9 + 1 + 8, c16, be (t.serial).toNat 8 ++ cnt ((t.tenant).length) ++ t.tenant ++ ([t.rights]) ++ timeB (t.from_)⟩ (H.slOwn (i := 5) rfl) (by (try simp only []); omega) (t.until_)) ?_)
  rintro _ w ⟨a17, c18, rfl, Hc⟩
  replace H : Hp _ w _ ([_, _, _, _, _, _, .own a17 (n9 + 1 + 8 + 8) c18 ((be (t.serial).toNat 8 ++ cnt ((t.tenant).length) ++ t.tenant ++ ([t.rights]) ++ timeB (t.from_) ++ timeB (t.until_)).map V8) 5 1]) := H.call Hc
  clear Hc
  refine ⟨H.sub (.cons_cons _ (.cons_cons _ (.cons_cons _ (List.nil_sublist _)))), ?_⟩
  replace HS := H.sub (.cons_cons _ (.cons_cons _ (.cons_cons _ (List.nil_sublist _))))
  refine t_take 11 rfl (by kernel_rfl) (by kernel_rfl) (by kernel_rfl) (fun _ _ _ h => h) (fun w HS => r_as) HS ?_
  refine t_done (by kernel_rfl) ?_
  clear HS
  refine c_ret ?_
  try dsimp only [Exit.then, Exit.inBlock]
  refine e_ret1 (v := .slice (hd a17) (n9 + 1 + 8 + 8) c18) Try.results115 rfl ?_
  refine ⟨_, rfl, ?_⟩
  have e : be (t.serial).toNat 8 ++ cnt ((t.tenant).length) ++ t.tenant ++ ([t.rights]) ++ timeB (t.from_) ++ timeB (t.until_) = t.head := by simp [Tok.head, headB]
  rw [e] at H
  have hh := (H.ownLen (i := 6) rfl).1
  exact ⟨_, _, _, rfl, by omega, by simpa using hh, H.sub (.cons _ (.cons _ (.cons _ (.cons _ (.cons _ (.cons _ (.cons_cons _ (List.nil_sublist _))))))))⟩
end Go.Proofs.Ytjmbbhnpfmblpaa
namespace Go.Proofs.Ytjmbbhnpfmblpaa
open Go
set_option maxRecDepth 100000
/-- may it be a token? -/
def mayT (t : Tok) : Bool := (decide (t.tenant = []) || nameMay t.tenant) && rMay t.rights && decide (t.cs.len ≤ 8) && t.cs.l.all fun c => rMay c.1
theorem mayT_iff (t : Tok) : mayT t = true ↔ (t.tenant = [] ∨ nameMay t.tenant = true) ∧ rMay t.rights = true ∧ t.cs.len ≤ 8 ∧ ∀ (i : Nat) (c : Cav), t.cs.l[i]? = some c → rMay c.1 = true := by
  simp only [mayT, Bool.and_eq_true, Bool.or_eq_true, decide_eq_true_eq, List.all_eq_true, and_assoc]
  refine ⟨fun ⟨h1, h2, h3, h4⟩ => ⟨h1, h2, h3, fun i c hc => h4 c (List.mem_of_getElem? hc)⟩, fun ⟨h1, h2, h3, h4⟩ => ⟨h1, h2, h3, fun c hc => ?_⟩⟩
  obtain ⟨i, hi⟩ := List.getElem?_of_mem hc
  exact h4 i c hi
def onF (sum : List UInt8) (cs : List Cav) : List UInt8 := cs.foldl (fun s c => hmac s (framed [cavB c])) sum
theorem onF_len (sum : List UInt8) (h : sum.length = 32) : ∀ cs, (onF sum cs).length = 32 := by
  intro cs
  induction cs generalizing sum with
  | nil => exact h
  | cons c cs ih => exact ih _ (hmac_len _ _)
theorem onF_succ (sum : List UInt8) (cs : List Cav) (i : Nat) (c : Cav) (h : cs[i]? = some c) : hmac (onF sum (cs.take i)) (framed [cavB c]) = onF sum (cs.take (i + 1)) := by
  rw [List.take_add_one, h]; simp [onF]
theorem cavB_len (c : Cav) : (cavB c).length = 9 := by simp [cavB, timeB, be_len]
def effF (r : UInt8) (u : Int) (cs : List Cav) : UInt8 × Int := cs.foldl (fun p c => (p.1 &&& c.1, if c.2 < p.2 then c.2 else p.2)) (r, u)
theorem effF_succ (r : UInt8) (u : Int) (cs : List Cav) (i : Nat) (c : Cav) (h : cs[i]? = some c) : effF r u (cs.take (i + 1)) = ((effF r u (cs.take i)).1 &&& c.1, if c.2 < (effF r u (cs.take i)).2 then c.2 else (effF r u (cs.take i)).2) := by
  rw [List.take_add_one, h]; simp only [effF, Option.toList_some, List.foldl_append, List.foldl_cons, List.foldl_nil]; rfl
theorem may_ret (w0 : World) (t : Tok) (hc : t.cs.ok cavE 2 w0) (_htag : t.tag.length = 32) (hn : t.tenant.length ≤ 65536) :
    Ret Try.prog 75 [.agg ([V64 t.serial, .string ⟨(t.tenant).toArray⟩, V8 t.rights, VI t.from_, VI t.until_, t.cs.v] ++ (t.tag).map V8).toArray] w0 fun v w' => v = .bool (mayT t) ∧ Hp w0 w' [] [] := by
  refine ret_mk Try.func75 rfl Try.ntmps75 (by simp) ?_
  have H := Hp.refl w0 []
  repeat refine c_seq ?_
  refine c_region ?_
  refine l_op (o_box (v := .agg ([V64 t.serial, .string ⟨(t.tenant).toArray⟩, V8 t.rights, VI t.from_, VI t.until_, t.cs.v] ++ (t.tag).map V8).toArray) H rfl (fun b1 w H hb1 => ?_))
  replace H : Hp _ w _ ([.blk b1 ([V64 t.serial, .string ⟨(t.tenant).toArray⟩, V8 t.rights, VI t.from_, VI t.until_, t.cs.v] ++ (t.tag).map V8) 76]) := H
  refine l_op (o_val (r_as) ?_)
  first | refine l_end ?_ | refine l_nil ?_
  repeat refine c_seq ?_
  refine c_region ?_
  refine l_op (o_val (r_fa rfl fo76_1) ?_)
  refine l_op (o_val (r_ld (v := .string ⟨(t.tenant).toArray⟩) H (i := 0) rfl rfl ct9 rfl) ?_)
  refine l_op (o_val (r_strne (a := t.tenant) (b := ([] : List UInt8)) rfl rfl) ?_)
  refine l_op (o_val (r_mv) ?_)
  by_cases hc2 : t.tenant = ([] : List UInt8)
  ·
   refine l_no rfl rfl (by exact congrArg Value.bool (congrArg not (decide_eq_true hc2))) rfl ?_
   refine l_no rfl rfl (by exact congrArg Value.bool (congrArg not (decide_eq_true hc2))) rfl ?_
   refine l_no rfl rfl (by exact congrArg Value.bool (congrArg not (decide_eq_true hc2))) rfl ?_
   refine l_no rfl rfl (by exact congrArg Value.bool (congrArg not (decide_eq_true hc2))) rfl ?_
   refine l_op (o_val (r_pick (b := false) (congrArg Value.bool (congrArg not (decide_eq_true hc2)))) ?_)
   refine l_op (o_val (r_mv) ?_)
   refine l_yes rfl rfl rfl (o_val (r_fa rfl fo76_2) ?_)
   refine l_yes rfl rfl rfl (o_val (r_ld (v := V8 t.rights) H (i := 0) rfl rfl ct73 rfl) ?_)
   refine l_yes rfl rfl rfl (o_callR Try.func117 rfl rfl rfl (rmay_ret _ (t.rights)) ?_)
   rintro _ w' ⟨rfl, hw3⟩
   rw [hw3]; clear hw3 w'
   refine l_yes rfl rfl rfl (o_val (r_not rfl) ?_)
   refine l_op (o_val (r_pick rfl) ?_)
   refine l_op (o_val (r_mv) ?_)
   rcases Bool.eq_false_or_eq_true (rMay (t.rights)) with hc4 | hc4
   ·
    refine l_yes rfl rfl (by exact congrArg Value.bool (congrArg not hc4)) (o_val (r_fa rfl fo76_5) ?_)
    refine l_yes rfl rfl (by exact congrArg Value.bool (congrArg not hc4)) (o_val (r_ld (v := t.cs.v) H (i := 0) rfl rfl ct74 rfl) ?_)
    refine l_yes rfl rfl (by exact congrArg Value.bool (congrArg not hc4)) (o_val (r_lens el74 rfl) ?_)
    refine l_yes rfl rfl (by exact congrArg Value.bool (congrArg not hc4)) (o_val (r_bin (a := (t.cs.len : Int)) (b := 8) rfl rfl (fun _ => b_gtr)) ?_)
    refine l_op (o_val (r_pick (b := false) (congrArg Value.bool (congrArg not hc4))) ?_)
    first | refine l_end ?_ | refine l_nil ?_
    by_cases hc5 : 8 < (t.cs.len : Int)
    ·
     repeat refine c_seq ?_
     refine c_yes (by exact congrArg Value.bool (decide_eq_true hc5)) ?_
     repeat refine c_seq ?_
     refine c_region ?_
     refine l_op (o_val (r_as) ?_)
     first | refine l_end ?_ | refine l_nil ?_
     refine c_ret ?_
     try dsimp only [Exit.then, Exit.inBlock]
     refine e_ret1 (v := .bool false) Try.results75 rfl ?_
     refine ⟨_, rfl, ?_⟩
     refine ⟨?_, H.sub (List.nil_sublist _)⟩
     have e : mayT t = false := Bool.eq_false_iff.2 fun h => by
       have h2 := (mayT_iff t).1 h
       omega
     rw [e]
    ·
     repeat refine c_seq ?_
     refine c_no (by exact congrArg Value.bool (decide_eq_false hc5)) ?_
     refine c_skip ?_
     repeat refine c_seq ?_
     refine c_region ?_
     refine l_op (o_val (r_fa rfl fo76_5) ?_)
     refine l_op (o_val (r_ld (v := t.cs.v) H (i := 0) rfl rfl ct74 rfl) ?_)
     refine l_op (o_val (r_lens el74 rfl) ?_)
     refine l_op (o_val (r_mv) ?_)
     first | refine l_end ?_ | refine l_nil ?_
     repeat refine c_seq ?_
     refine c_block ?_
     repeat refine c_seq ?_
     refine c_loop (fun (i : Nat) => [(27, t.cs.v), (28, VI (t.cs.len : Int)), (29, VI (i : Int))])
       (fun (i : Nat) w => (i ≤ t.cs.len ∧ ∀ (j : Nat) (c : Cav), j < i → t.cs.l[j]? = some c → rMay c.1 = true) ∧ Hp w0 w [] ([.blk b1 ([V64 t.serial, .string ⟨(t.tenant).toArray⟩, V8 t.rights, VI t.from_, VI t.until_, t.cs.v] ++ (t.tag).map V8) 76]))
       (fun (i : Nat) => t.cs.len - i) 0 ⟨rfl, rfl, rfl, trivial⟩ ⟨⟨Nat.zero_le _, fun j c hj => absurd hj (by omega)⟩, H⟩ ?_
     clear H
     rintro i τ w ⟨⟨hi, hall⟩, H⟩
     repeat refine c_seq ?_
     refine c_region ?_
     refine l_op (o_val (r_bin (a := (i : Int)) (b := (t.cs.len : Int)) rfl rfl (fun _ => b_lss)) ?_)
     first | refine l_end ?_ | refine l_nil ?_
     by_cases hc6 : (i : Int) < (t.cs.len : Int)
     ·
      repeat refine c_seq ?_
      refine c_yes (by exact congrArg Value.bool (decide_eq_true hc6)) ?_
      refine c_skip ?_
      repeat refine c_seq ?_
      refine c_block ?_
      repeat refine c_seq ?_
      refine c_region ?_
      have ah9 := ((hc.up H)).addr (by decide) (by first | omega | (dsimp only; omega))
      obtain ⟨ab7, ao8, ah9⟩ := ah9
      refine l_op (o_val (r_isN i rfl rfl el74 ah9 (by omega) (by (try simp only [Sl.cut]); omega)) ?_)
      have he11 : ∃ c, t.cs.l[i]? = some c := ⟨_, List.getElem?_eq_getElem (by have := ((hc.up H)).ln; (try dsimp only at this ⊢); omega)⟩
      obtain ⟨e10, he11⟩ := he11
      have hez12 := ((hc.up H)).sz e10 (List.mem_of_getElem? he11)
      refine l_op (o_val (r_ldRow (s := t.cs) (k := i) (hc.up H) ah9 rfl rt78 (by decide) he11) ?_)
      refine l_op (o_alloc H zc78 (fun b13 w H hb13 => ?_))
      replace H : Hp _ w _ ([_, .blk b13 ([V8 (0 : UInt8), VI 0]) 78]) := H
      refine l_op (o_stW (C' := [V8 e10.1, VI e10.2]) H (i := 1) rfl rfl rfl cs78 (by simp [Value.oneCell']) (by rfl) (by rfl) (fun w H => ?_))
      replace H : Hp _ w _ ([_, .blk b13 ([V8 e10.1, VI e10.2]) 78]) := H
      first | refine l_end ?_ | refine l_nil ?_
      repeat refine c_seq ?_
      refine c_region ?_
      refine l_op (o_val (r_fa rfl fo78_0) ?_)
      refine l_op (o_val (r_ld (v := V8 e10.1) H (i := 1) rfl rfl ct73 rfl) ?_)
      refine l_op (o_callR Try.func117 rfl rfl rfl (rmay_ret _ (e10.1)) ?_)
      rintro _ w' ⟨rfl, hw14⟩
      rw [hw14]; clear hw14 w'
      refine l_op (o_val (r_not rfl) ?_)
      first | refine l_end ?_ | refine l_nil ?_
      rcases Bool.eq_false_or_eq_true (rMay (e10.1)) with hc15 | hc15
      ·
       repeat refine c_seq ?_
       refine c_no (by exact congrArg Value.bool (congrArg not hc15)) ?_
       refine c_skip ?_
       repeat refine c_seq ?_
       refine c_region ?_
       refine l_op (o_val (r_bin (a := (i : Int)) (b := 1) rfl rfl (fun _ => b_add (by omega) (by omega))) ?_)
       refine l_op (o_val (r_mv) ?_)
       first | refine l_end ?_ | refine l_nil ?_
       refine round_end (i + 1) ?_ ?_ ?_
       · exact ⟨rfl, rfl, show VI ((i : Int) + 1) = VI ((i + 1 : Nat) : Int) from congrArg VI (by omega), trivial⟩
       · refine ⟨?_, ?_⟩
         · try dsimp only
           exact ⟨by omega, fun j c hj hjc => by
             by_cases hji : j < i
             · exact hall j c hji hjc
             · have e : j = i := by omega
               rw [e, he11] at hjc
               cases hjc
               exact hc15⟩
         · exact H.sub (.cons_cons _ (List.nil_sublist _))
       · show t.cs.len - (i + 1 : Nat) < t.cs.len - i; omega
      ·
       repeat refine c_seq ?_
       refine c_yes (by exact congrArg Value.bool (congrArg not hc15)) ?_
       repeat refine c_seq ?_
       refine c_region ?_
       refine l_op (o_val (r_as) ?_)
       first | refine l_end ?_ | refine l_nil ?_
       refine c_ret ?_
       try dsimp only [Exit.then, Exit.inBlock]
       refine e_ret1 (v := .bool false) Try.results75 rfl ?_
       refine ⟨_, rfl, ?_⟩
       refine ⟨?_, H.sub (List.nil_sublist _)⟩
       have e : mayT t = false := Bool.eq_false_iff.2 fun h => by
         have h2 := (mayT_iff t).1 h
         have h3 := h2.2.2.2 i e10 he11
         rw [hc15] at h3; cases h3
       rw [e]
     ·
      repeat refine c_seq ?_
      refine c_no (by exact congrArg Value.bool (decide_eq_false hc6)) ?_
      refine c_exit ?_
      repeat refine c_seq ?_
      refine c_region ?_
      refine l_op (o_val (r_as) ?_)
      first | refine l_end ?_ | refine l_nil ?_
      refine c_ret ?_
      try dsimp only [Exit.then, Exit.inBlock]
      refine e_ret1 (v := .bool true) Try.results75 rfl ?_
      refine ⟨_, rfl, ?_⟩
      refine ⟨?_, H.sub (List.nil_sublist _)⟩
      rw [(mayT_iff t).2 ⟨.inl (of_decide_eq_true (decide_eq_true hc2)), hc4, by omega, fun j c hj => hall j c (by have := hc.ln; have := (List.getElem?_eq_some_iff.1 hj).1; omega) hj⟩]
   ·
    refine l_no rfl rfl (by exact congrArg Value.bool (congrArg not hc4)) rfl ?_
    refine l_no rfl rfl (by exact congrArg Value.bool (congrArg not hc4)) rfl ?_
    refine l_no rfl rfl (by exact congrArg Value.bool (congrArg not hc4)) rfl ?_
    refine l_no rfl rfl (by exact congrArg Value.bool (congrArg not hc4)) rfl ?_
    refine l_op (o_val (r_pick (b := true) (congrArg Value.bool (congrArg not hc4))) ?_)
    first | refine l_end ?_ | refine l_nil ?_
    repeat refine c_seq ?_
    refine c_yes rfl ?_
    repeat refine c_seq ?_
    refine c_region ?_
    refine l_op (o_val (r_as) ?_)
    first | refine l_end ?_ | refine l_nil ?_
    refine c_ret ?_
    try dsimp only [Exit.then, Exit.inBlock]
    refine e_ret1 (v := .bool false) Try.results75 rfl ?_
    refine ⟨_, rfl, ?_⟩
    refine ⟨?_, H.sub (List.nil_sublist _)⟩
    have e : mayT t = false := Bool.eq_false_iff.2 fun h => by
      have h2 := (mayT_iff t).1 h
      have h3 := h2.2.1
      rw [hc4] at h3; cases h3
    rw [e]
  ·
   refine l_yes rfl rfl (by exact congrArg Value.bool (congrArg not (decide_eq_false hc2))) (o_val (r_fa rfl fo76_1) ?_)
   refine l_yes rfl rfl (by exact congrArg Value.bool (congrArg not (decide_eq_false hc2))) (o_val (r_ld (v := .string ⟨(t.tenant).toArray⟩) H (i := 0) rfl rfl ct9 rfl) ?_)
   refine l_yes rfl rfl (by exact congrArg Value.bool (congrArg not (decide_eq_false hc2))) (o_callR Try.func123 rfl rfl rfl (nmay_ret _ (t.tenant) (by omega)) ?_)
   rintro _ w ⟨rfl, Hc⟩
   replace H : Hp _ w _ ([_]) := H.call Hc
   clear Hc
   refine l_yes rfl rfl (by exact congrArg Value.bool (congrArg not (decide_eq_false hc2))) (o_val (r_not rfl) ?_)
   refine l_op (o_val (r_pick (b := true) (congrArg Value.bool (congrArg not (decide_eq_false hc2)))) ?_)
   refine l_op (o_val (r_mv) ?_)
   rcases Bool.eq_false_or_eq_true (nameMay (t.tenant)) with hc16 | hc16
   ·
    refine l_yes rfl rfl (by exact congrArg Value.bool (congrArg not hc16)) (o_val (r_fa rfl fo76_2) ?_)
    refine l_yes rfl rfl (by exact congrArg Value.bool (congrArg not hc16)) (o_val (r_ld (v := V8 t.rights) H (i := 0) rfl rfl ct73 rfl) ?_)
    refine l_yes rfl rfl (by exact congrArg Value.bool (congrArg not hc16)) (o_callR Try.func117 rfl rfl rfl (rmay_ret _ (t.rights)) ?_)
    rintro _ w' ⟨rfl, hw17⟩
    rw [hw17]; clear hw17 w'
    refine l_yes rfl rfl (by exact congrArg Value.bool (congrArg not hc16)) (o_val (r_not rfl) ?_)
    refine l_op (o_val (r_pick (b := false) (congrArg Value.bool (congrArg not hc16))) ?_)
    refine l_op (o_val (r_mv) ?_)
    rcases Bool.eq_false_or_eq_true (rMay (t.rights)) with hc18 | hc18
    ·
     refine l_yes rfl rfl (by exact congrArg Value.bool (congrArg not hc18)) (o_val (r_fa rfl fo76_5) ?_)
     refine l_yes rfl rfl (by exact congrArg Value.bool (congrArg not hc18)) (o_val (r_ld (v := t.cs.v) H (i := 0) rfl rfl ct74 rfl) ?_)
     refine l_yes rfl rfl (by exact congrArg Value.bool (congrArg not hc18)) (o_val (r_lens el74 rfl) ?_)
     refine l_yes rfl rfl (by exact congrArg Value.bool (congrArg not hc18)) (o_val (r_bin (a := (t.cs.len : Int)) (b := 8) rfl rfl (fun _ => b_gtr)) ?_)
     refine l_op (o_val (r_pick (b := false) (congrArg Value.bool (congrArg not hc18))) ?_)
     first | refine l_end ?_ | refine l_nil ?_
     by_cases hc19 : 8 < (t.cs.len : Int)
     ·
      repeat refine c_seq ?_
      refine c_yes (by exact congrArg Value.bool (decide_eq_true hc19)) ?_
      repeat refine c_seq ?_
      refine c_region ?_
      refine l_op (o_val (r_as) ?_)
      first | refine l_end ?_ | refine l_nil ?_
      refine c_ret ?_
      try dsimp only [Exit.then, Exit.inBlock]
      refine e_ret1 (v := .bool false) Try.results75 rfl ?_
      refine ⟨_, rfl, ?_⟩
      refine ⟨?_, H.sub (List.nil_sublist _)⟩
      have e : mayT t = false := Bool.eq_false_iff.2 fun h => by
        have h2 := (mayT_iff t).1 h
        omega
      rw [e]
     ·
      repeat refine c_seq ?_
      refine c_no (by exact congrArg Value.bool (decide_eq_false hc19)) ?_
      refine c_skip ?_
      repeat refine c_seq ?_
      refine c_region ?_
      refine l_op (o_val (r_fa rfl fo76_5) ?_)
      refine l_op (o_val (r_ld (v := t.cs.v) H (i := 0) rfl rfl ct74 rfl) ?_)
      refine l_op (o_val (r_lens el74 rfl) ?_)
      refine l_op (o_val (r_mv) ?_)
      first | refine l_end ?_ | refine l_nil ?_
      repeat refine c_seq ?_
      refine c_block ?_
      repeat refine c_seq ?_
      refine c_loop (fun (i : Nat) => [(27, t.cs.v), (28, VI (t.cs.len : Int)), (29, VI (i : Int))])
        (fun (i : Nat) w => (i ≤ t.cs.len ∧ ∀ (j : Nat) (c : Cav), j < i → t.cs.l[j]? = some c → rMay c.1 = true) ∧ Hp w0 w [] ([.blk b1 ([V64 t.serial, .string ⟨(t.tenant).toArray⟩, V8 t.rights, VI t.from_, VI t.until_, t.cs.v] ++ (t.tag).map V8) 76]))
        (fun (i : Nat) => t.cs.len - i) 0 ⟨rfl, rfl, rfl, trivial⟩ ⟨⟨Nat.zero_le _, fun j c hj => absurd hj (by omega)⟩, H⟩ ?_
      clear H
      rintro i τ w ⟨⟨hi, hall⟩, H⟩
      repeat refine c_seq ?_
      refine c_region ?_
      refine l_op (o_val (r_bin (a := (i : Int)) (b := (t.cs.len : Int)) rfl rfl (fun _ => b_lss)) ?_)
      first | refine l_end ?_ | refine l_nil ?_
      by_cases hc20 : (i : Int) < (t.cs.len : Int)
      ·
       repeat refine c_seq ?_
       refine c_yes (by exact congrArg Value.bool (decide_eq_true hc20)) ?_
       refine c_skip ?_
       repeat refine c_seq ?_
       refine c_block ?_
       repeat refine c_seq ?_
       refine c_region ?_
       have ah23 := ((hc.up H)).addr (by decide) (by first | omega | (dsimp only; omega))
       obtain ⟨ab21, ao22, ah23⟩ := ah23
       refine l_op (o_val (r_isN i rfl rfl el74 ah23 (by omega) (by (try simp only [Sl.cut]); omega)) ?_)
       have he25 : ∃ c, t.cs.l[i]? = some c := ⟨_, List.getElem?_eq_getElem (by have := ((hc.up H)).ln; (try dsimp only at this ⊢); omega)⟩
       obtain ⟨e24, he25⟩ := he25
       have hez26 := ((hc.up H)).sz e24 (List.mem_of_getElem? he25)
       refine l_op (o_val (r_ldRow (s := t.cs) (k := i) (hc.up H) ah23 rfl rt78 (by decide) he25) ?_)
       refine l_op (o_alloc H zc78 (fun b27 w H hb27 => ?_))
       replace H : Hp _ w _ ([_, .blk b27 ([V8 (0 : UInt8), VI 0]) 78]) := H
       refine l_op (o_stW (C' := [V8 e24.1, VI e24.2]) H (i := 1) rfl rfl rfl cs78 (by simp [Value.oneCell']) (by rfl) (by rfl) (fun w H => ?_))
       replace H : Hp _ w _ ([_, .blk b27 ([V8 e24.1, VI e24.2]) 78]) := H
       first | refine l_end ?_ | refine l_nil ?_
       repeat refine c_seq ?_
       refine c_region ?_
       refine l_op (o_val (r_fa rfl fo78_0) ?_)
       refine l_op (o_val (r_ld (v := V8 e24.1) H (i := 1) rfl rfl ct73 rfl) ?_)
       refine l_op (o_callR Try.func117 rfl rfl rfl (rmay_ret _ (e24.1)) ?_)
       rintro _ w' ⟨rfl, hw28⟩
       rw [hw28]; clear hw28 w'
       refine l_op (o_val (r_not rfl) ?_)
       first | refine l_end ?_ | refine l_nil ?_
       rcases Bool.eq_false_or_eq_true (rMay (e24.1)) with hc29 | hc29
       ·
        repeat refine c_seq ?_
        refine c_no (by exact congrArg Value.bool (congrArg not hc29)) ?_
        refine c_skip ?_
        repeat refine c_seq ?_
        refine c_region ?_
        refine l_op (o_val (r_bin (a := (i : Int)) (b := 1) rfl rfl (fun _ => b_add (by omega) (by omega))) ?_)
        refine l_op (o_val (r_mv) ?_)
        first | refine l_end ?_ | refine l_nil ?_
        refine round_end (i + 1) ?_ ?_ ?_
        · exact ⟨rfl, rfl, show VI ((i : Int) + 1) = VI ((i + 1 : Nat) : Int) from congrArg VI (by omega), trivial⟩
        · refine ⟨?_, ?_⟩
          · try dsimp only
            exact ⟨by omega, fun j c hj hjc => by
              by_cases hji : j < i
              · exact hall j c hji hjc
              · have e : j = i := by omega
                rw [e, he25] at hjc
                cases hjc
                exact hc29⟩
          · exact H.sub (.cons_cons _ (List.nil_sublist _))
        · show t.cs.len - (i + 1 : Nat) < t.cs.len - i; omega
       ·
        repeat refine c_seq ?_
        refine c_yes (by exact congrArg Value.bool (congrArg not hc29)) ?_
        repeat refine c_seq ?_
        refine c_region ?_
        refine l_op (o_val (r_as) ?_)
        first | refine l_end ?_ | refine l_nil ?_
        refine c_ret ?_
        try dsimp only [Exit.then, Exit.inBlock]
        refine e_ret1 (v := .bool false) Try.results75 rfl ?_
        refine ⟨_, rfl, ?_⟩
        refine ⟨?_, H.sub (List.nil_sublist _)⟩
        have e : mayT t = false := Bool.eq_false_iff.2 fun h => by
          have h2 := (mayT_iff t).1 h
          have h3 := h2.2.2.2 i e24 he25
          rw [hc29] at h3; cases h3
        rw [e]
      ·
       repeat refine c_seq ?_
       refine c_no (by exact congrArg Value.bool (decide_eq_false hc20)) ?_
       refine c_exit ?_
       repeat refine c_seq ?_
       refine c_region ?_
       refine l_op (o_val (r_as) ?_)
       first | refine l_end ?_ | refine l_nil ?_
       refine c_ret ?_
       try dsimp only [Exit.then, Exit.inBlock]
       refine e_ret1 (v := .bool true) Try.results75 rfl ?_
       refine ⟨_, rfl, ?_⟩
       refine ⟨?_, H.sub (List.nil_sublist _)⟩
       rw [(mayT_iff t).2 ⟨.inr hc16, hc18, by omega, fun j c hj => hall j c (by have := hc.ln; have := (List.getElem?_eq_some_iff.1 hj).1; omega) hj⟩]
    ·
     refine l_no rfl rfl (by exact congrArg Value.bool (congrArg not hc18)) rfl ?_
     refine l_no rfl rfl (by exact congrArg Value.bool (congrArg not hc18)) rfl ?_
     refine l_no rfl rfl (by exact congrArg Value.bool (congrArg not hc18)) rfl ?_
     refine l_no rfl rfl (by exact congrArg Value.bool (congrArg not hc18)) rfl ?_
     refine l_op (o_val (r_pick (b := true) (congrArg Value.bool (congrArg not hc18))) ?_)
     first | refine l_end ?_ | refine l_nil ?_
     repeat refine c_seq ?_
     refine c_yes rfl ?_
     repeat refine c_seq ?_
     refine c_region ?_
     refine l_op (o_val (r_as) ?_)
     first | refine l_end ?_ | refine l_nil ?_
     refine c_ret ?_
     try dsimp only [Exit.then, Exit.inBlock]
     refine e_ret1 (v := .bool false) Try.results75 rfl ?_
     refine ⟨_, rfl, ?_⟩
     refine ⟨?_, H.sub (List.nil_sublist _)⟩
     have e : mayT t = false := Bool.eq_false_iff.2 fun h => by
       have h2 := (mayT_iff t).1 h
       have h3 := h2.2.1
       rw [hc18] at h3; cases h3
     rw [e]
   ·
    refine l_no rfl rfl (by exact congrArg Value.bool (congrArg not hc16)) rfl ?_
    refine l_no rfl rfl (by exact congrArg Value.bool (congrArg not hc16)) rfl ?_
    refine l_no rfl rfl (by exact congrArg Value.bool (congrArg not hc16)) rfl ?_
    refine l_no rfl rfl (by exact congrArg Value.bool (congrArg not hc16)) rfl ?_
    refine l_op (o_val (r_pick (b := true) (congrArg Value.bool (congrArg not hc16))) ?_)
    refine l_op (o_val (r_mv) ?_)
    refine l_no rfl rfl rfl rfl ?_
    refine l_no rfl rfl rfl rfl ?_
    refine l_no rfl rfl rfl rfl ?_
    refine l_no rfl rfl rfl rfl ?_
    refine l_op (o_val (r_pick rfl) ?_)
    first | refine l_end ?_ | refine l_nil ?_
    repeat refine c_seq ?_
    refine c_yes rfl ?_
    repeat refine c_seq ?_
    refine c_region ?_
    refine l_op (o_val (r_as) ?_)
    first | refine l_end ?_ | refine l_nil ?_
    refine c_ret ?_
    try dsimp only [Exit.then, Exit.inBlock]
    refine e_ret1 (v := .bool false) Try.results75 rfl ?_
    refine ⟨_, rfl, ?_⟩
    refine ⟨?_, H.sub (List.nil_sublist _)⟩
    have e : mayT t = false := Bool.eq_false_iff.2 fun h => by
      have h2 := (mayT_iff t).1 h
      rcases h2.1 with h3 | h3
      · exact absurd h3 (of_decide_eq_false (decide_eq_false hc2))
      · rw [hc16] at h3; cases h3
    rw [e]
theorem on_ret (w0 : World) (sum : List UInt8) (hsum : sum.length = 32) (x : Gl Cav) (hx : x.ok cavE 2 w0) :
    Ret Try.prog 118 [.agg ((sum).map V8).toArray, x.v] w0 fun v w' => v = .agg ((onF sum x.l).map V8).toArray ∧ Hp w0 w' [] [] := by
  refine ret_mk Try.func118 rfl Try.ntmps118 (by simp) ?_
  have H := Hp.refl w0 []
  have hxl := hx.le
  have hxm := hx.mx
  have hmL : maxLen = 9223372036854775807 := rfl
  repeat refine c_seq ?_
  refine c_region ?_
  refine l_op (o_box (v := .agg ((sum).map V8).toArray) H rfl (fun b1 w H hb1 => ?_))
  replace H : Hp _ w _ ([.blk b1 ((sum).map V8) 31]) := H
  refine l_op (o_alloc H zc31 (fun b2 w H hb2 => ?_))
  replace H : Hp _ w _ ([_, .blk b2 ((List.replicate 32 (0 : UInt8)).map V8) 31]) := H
  first | refine l_end ?_ | refine l_nil ?_
  repeat refine c_seq ?_
  refine c_region ?_
  refine l_op (o_val (r_mv) ?_)
  refine l_op (o_val (r_lens el74 rfl) ?_)
  refine l_op (o_val (r_mv) ?_)
  first | refine l_end ?_ | refine l_nil ?_
  repeat refine c_seq ?_
  refine c_block ?_
  repeat refine c_seq ?_
  refine c_loop (fun (i : Nat) => [(2, .pointer (some ⟨b1, 0, none⟩)), (4, .pointer (some ⟨b2, 0, none⟩)), (7, x.v), (8, VI (x.len : Int)), (9, VI (i : Int))])
    (fun (i : Nat) w => (i ≤ x.len) ∧ Hp w0 w [] ([.blk b1 ((onF sum (x.l.take i)).map V8) 31, .blk b2 ((List.replicate 32 (0 : UInt8)).map V8) 31]))
    (fun (i : Nat) => x.len - i) 0 ⟨rfl, rfl, rfl, rfl, rfl, trivial⟩ ⟨Nat.zero_le _, H⟩ ?_
  clear H
  rintro i τ w ⟨hi, H⟩
  repeat refine c_seq ?_
  refine c_region ?_
  refine l_op (o_val (r_bin (a := (i : Int)) (b := (x.len : Int)) rfl rfl (fun _ => b_lss)) ?_)
  first | refine l_end ?_ | refine l_nil ?_
  by_cases hc3 : (i : Int) < (x.len : Int)
  ·
   repeat refine c_seq ?_
   refine c_yes (by exact congrArg Value.bool (decide_eq_true hc3)) ?_
   refine c_skip ?_
   repeat refine c_seq ?_
   refine c_block ?_
   repeat refine c_seq ?_
   refine c_region ?_
   have ah6 := ((hx.up H)).addr (by decide) (by first | omega | (dsimp only; omega))
   obtain ⟨ab4, ao5, ah6⟩ := ah6
   refine l_op (o_val (r_isN i rfl rfl el74 ah6 (by omega) (by (try simp only [Sl.cut]); omega)) ?_)
   have he8 : ∃ c, x.l[i]? = some c := ⟨_, List.getElem?_eq_getElem (by have := ((hx.up H)).ln; (try dsimp only at this ⊢); omega)⟩
   obtain ⟨e7, he8⟩ := he8
   have hez9 := ((hx.up H)).sz e7 (List.mem_of_getElem? he8)
   refine l_op (o_val (r_ldRow (s := x) (k := i) (hx.up H) ah6 rfl rt78 (by decide) he8) ?_)
   refine l_op (o_alloc H zc78 (fun b10 w H hb10 => ?_))
   replace H : Hp _ w _ ([_, _, .blk b10 ([V8 (0 : UInt8), VI 0]) 78]) := H
   refine l_op (o_stW (C' := [V8 e7.1, VI e7.2]) H (i := 2) rfl rfl rfl cs78 (by simp [Value.oneCell']) (by rfl) (by rfl) (fun w H => ?_))
   replace H : Hp _ w _ ([_, _, .blk b10 ([V8 e7.1, VI e7.2]) 78]) := H
   first | refine l_end ?_ | refine l_nil ?_
   repeat refine c_seq ?_
   refine wp_held (fun w => Hp w0 w [] [.blk b2 ((List.replicate 32 (0 : UInt8)).map V8) 31, .blk b10 ([V8 e7.1, VI e7.2]) 78]) mixed ?_
   replace H := H.drew
   have HS := H.sub (.cons _ (.cons_cons _ (.cons_cons _ (List.nil_sublist _))))
   refine t_take 0 rfl (by kernel_rfl) (by kernel_rfl) (by kernel_rfl) (fun _ _ _ h => h) (fun w HS => r_slA (h := 32) (m := 32) (lv := none) (hv := none) (mv := none) rfl ar31 rfl rfl rfl (fun w => sbn w)) HS ?_
   refine t_take 1 rfl (by kernel_rfl) (by kernel_rfl) (by kernel_rfl) (fun _ _ _ h => h) (fun w HS => r_ldA (C := [V8 e7.1, VI e7.2]) HS (i := 1) rfl rfl rt78 (by rfl)) HS ?_
   refine t_step 2 rfl (by kernel_rfl) (o_callR Try.func125 rfl rfl rfl (caveat_ret _ e7) ?_)
   rintro _ w ⟨a11, c12, rfl, Hc⟩
   replace H : Hp _ w _ ([_, _, _, .own a11 9 c12 ((cavB e7).map V8) 5 1]) := H.call Hc
   clear Hc
   refine ⟨H.sub (.cons _ (.cons_cons _ (.cons_cons _ (List.nil_sublist _)))), ?_⟩
   replace HS := H.sub (.cons _ (.cons_cons _ (.cons_cons _ (List.nil_sublist _))))
   refine t_step 3 rfl (by kernel_rfl) (o_bslV ([.slice (hd a11) 9 c12]) H sl22 zc29 rfl (by simp [Value.oneCell']) rfl (by decide) (fun b13 w H hb13 => ?_))
   replace H : Hp _ w _ ([_, _, _, _, .own (some b13) 1 1 ([.slice (hd a11) 9 c12]) 29 1]) := H
   refine ⟨H.sub (.cons _ (.cons_cons _ (.cons_cons _ (List.nil_sublist _)))), ?_⟩
   replace HS := H.sub (.cons _ (.cons_cons _ (.cons_cons _ (List.nil_sublist _))))
   refine t_step 4 rfl (by kernel_rfl) (o_callR Try.func52 rfl rfl rfl (macOf_ret _ (⟨some ⟨b1, 0, none⟩, 32, 32, onF sum (x.l.take i)⟩ : Sl) (H.slBlkA (i := 0) rfl 32 (show (onF sum (x.l.take i)).length = 32 from onF_len _ hsum _) (by decide)) (hd (some b13)) 1 1 [⟨hd a11, 9, c12, cavB e7⟩] (H.own (i := 4) rfl) rfl (all1 (H.slOwn (i := 3) rfl)) (by omega) (by simp [framed, be_len, cavB_len])) ?_)
   rintro _ w ⟨rfl, Hc⟩
   replace H : Hp _ w _ ([_, _, _, _, _]) := H.call Hc
   clear Hc
   refine ⟨H.sub (.cons _ (.cons_cons _ (.cons_cons _ (List.nil_sublist _)))), ?_⟩
   replace HS := H.sub (.cons _ (.cons_cons _ (.cons_cons _ (List.nil_sublist _))))
   refine t_step 5 rfl (by kernel_rfl) (o_stA (l' := hmac (onF sum (x.l.take i)) (framed [cavB e7])) H (i := 0) rfl rfl rfl cs31 (show (onF sum (x.l.take i)).length = 32 from onF_len _ hsum _) (show (hmac (onF sum (x.l.take i)) (framed [cavB e7])).length = 32 from hmac_len _ _) (fun w H => ?_))
   replace H : Hp _ w _ ([.blk b1 ((hmac (onF sum (x.l.take i)) (framed [cavB e7])).map V8) 31, _, _, _, _]) := H
   refine ⟨H.sub (.cons _ (.cons_cons _ (.cons_cons _ (List.nil_sublist _)))), ?_⟩
   replace HS := H.sub (.cons _ (.cons_cons _ (.cons_cons _ (List.nil_sublist _))))
   refine t_done (by kernel_rfl) ?_
   clear HS
   repeat refine c_seq ?_
   refine c_region ?_
   refine l_op (o_val (r_bin (a := (i : Int)) (b := 1) rfl rfl (fun _ => b_add (by omega) (by omega))) ?_)
   refine l_op (o_val (r_mv) ?_)
   first | refine l_end ?_ | refine l_nil ?_
   rw [onF_succ sum x.l i e7 he8] at H
   refine round_end (i + 1) ?_ ?_ ?_
   · exact ⟨rfl, rfl, rfl, rfl, show VI ((i : Int) + 1) = VI ((i + 1 : Nat) : Int) from congrArg VI (by omega), trivial⟩
   · refine ⟨?_, ?_⟩
     · try dsimp only
       exact by omega
     · exact H.sub (.cons_cons _ (.cons_cons _ (List.nil_sublist _)))
   · show x.len - (i + 1 : Nat) < x.len - i; omega
  ·
   repeat refine c_seq ?_
   refine c_no (by exact congrArg Value.bool (decide_eq_false hc3)) ?_
   refine c_exit ?_
   repeat refine c_seq ?_
   refine c_region ?_
   refine l_op (o_val (r_ldAA (l := onF sum (x.l.take i)) H (i := 0) rfl rfl rt31 (show (onF sum (x.l.take i)).length = 32 from onF_len _ hsum _)) ?_)
   refine l_op (o_stA (l' := onF sum (x.l.take i)) H (i := 1) rfl rfl rfl cs31 (show (List.replicate 32 (0 : UInt8)).length = 32 from (List.length_replicate ..)) (show (onF sum (x.l.take i)).length = 32 from onF_len _ hsum _) (fun w H => ?_))
   replace H : Hp _ w _ ([_, .blk b2 ((onF sum (x.l.take i)).map V8) 31]) := H
   first | refine l_end ?_ | refine l_nil ?_
   refine c_ret ?_
   try dsimp only [Exit.then, Exit.inBlock]
   refine e_retA (l := onF sum (x.l.take i)) Try.results118 H (i := 1) rfl rfl rt31 (show (onF sum (x.l.take i)).length = 32 from onF_len _ hsum _) ?_
   refine ⟨_, rfl, ?_⟩
   have hi2 : i = x.len := by omega
   rw [List.take_of_length_le (by have := hx.ln; omega)]
   exact ⟨rfl, H.sub (List.nil_sublist _)⟩
theorem capown_ret (w0 : World) (t : Tok) (hc : t.cs.ok cavE 2 w0) (htag : t.tag.length = 32) (x : Gl Cav) (hx : x.ok cavE 2 w0) (h1 : t.cs.len ≤ 1048576) (h2 : x.len ≤ 1048576) :
    Ret Try.prog 119 [.agg ([V64 t.serial, .string ⟨(t.tenant).toArray⟩, V8 t.rights, VI t.from_, VI t.until_, t.cs.v] ++ (t.tag).map V8).toArray, x.v] w0 fun v w' => ∃ a c, v = .agg ([V64 t.serial, .string ⟨(t.tenant).toArray⟩, V8 t.rights, VI t.from_, VI t.until_, .slice (hd a) (t.cs.len + x.len) c] ++ (t.tag).map V8).toArray ∧ Hp w0 w' [] [.own a (t.cs.len + x.len) c ((t.cs.l ++ x.l).flatMap cavE) 78 2] := by
  refine ret_mk Try.func119 rfl Try.ntmps119 (by simp) ?_
  have H := Hp.refl w0 []
  repeat refine c_seq ?_
  refine c_region ?_
  refine l_op (o_box (v := .agg ([V64 t.serial, .string ⟨(t.tenant).toArray⟩, V8 t.rights, VI t.from_, VI t.until_, t.cs.v] ++ (t.tag).map V8).toArray) H rfl (fun b1 w H hb1 => ?_))
  replace H : Hp _ w _ ([.blk b1 ([V64 t.serial, .string ⟨(t.tenant).toArray⟩, V8 t.rights, VI t.from_, VI t.until_, t.cs.v] ++ (t.tag).map V8) 76]) := H
  refine l_op (o_alloc H zc76 (fun b2 w H hb2 => ?_))
  replace H : Hp _ w _ ([_, .blk b2 ([V64 (0 : UInt64), .string ⟨(([] : List UInt8)).toArray⟩, V8 (0 : UInt8), VI 0, VI 0, .slice none 0 0] ++ (List.replicate 32 (0 : UInt8)).map V8) 76]) := H
  first | refine l_end ?_ | refine l_nil ?_
  repeat refine c_seq ?_
  refine c_region ?_
  refine l_op (o_bslG0 (α := Cav) (enc := cavE) H sl74 zc78 (by decide) (fun b3 w H hb3 => ?_))
  replace H : Hp _ w _ ([_, _, .own (some b3) 0 0 ((([] : List Cav)).flatMap cavE) 78 2]) := H
  refine l_op (o_val (r_fa rfl fo76_5) ?_)
  refine l_op (o_val (r_ld (v := t.cs.v) H (i := 0) rfl rfl ct74 rfl) ?_)
  refine l_op (o_appG (enc := cavE) (s := t.cs) (l' := t.cs.l) (len' := t.cs.len) rfl (Nat.zero_add _) H (i := 2) rfl sl74 Try.underlying74 rfl rfl (hc.up H) (by decide) (fun _ _ => rfl) (by omega) (by decide) (fun a4 c5 w H => ?_))
  replace H : Hp _ w _ ([_, _, .own a4 t.cs.len c5 ((t.cs.l).flatMap cavE) 78 2]) := H
  refine l_op (o_val (r_mv) ?_)
  refine l_op (o_appG (enc := cavE) (s := x) (l' := t.cs.l ++ x.l) (len' := t.cs.len + x.len) rfl rfl H (i := 2) rfl sl74 Try.underlying74 rfl rfl (hx.up H) (by decide) (fun _ _ => rfl) (by omega) (by decide) (fun a6 c7 w H => ?_))
  replace H : Hp _ w _ ([_, _, .own a6 (t.cs.len + x.len) c7 ((t.cs.l ++ x.l).flatMap cavE) 78 2]) := H
  refine l_op (o_val (r_fa rfl fo76_5) ?_)
  refine l_op (o_st (v := .slice (hd a6) (t.cs.len + x.len) c7) H (i := 0) rfl rfl rfl cs74 rfl (by simp only [List.length_append, List.length_cons, List.length_nil]; omega) (fun w H => ?_))
  replace H : Hp _ w _ ([.blk b1 ([V64 t.serial, .string ⟨(t.tenant).toArray⟩, V8 t.rights, VI t.from_, VI t.until_, .slice (hd a6) (t.cs.len + x.len) c7] ++ (t.tag).map V8) 76, _, _]) := H
  first | refine l_end ?_ | refine l_nil ?_
  repeat refine c_seq ?_
  refine c_region ?_
  refine l_op (o_val (r_ldA (C := [V64 t.serial, .string ⟨(t.tenant).toArray⟩, V8 t.rights, VI t.from_, VI t.until_, .slice (hd a6) (t.cs.len + x.len) c7] ++ (t.tag).map V8) H (i := 0) rfl rfl rt76 (by rw [List.length_append, List.length_map, (show (t.tag).length = 32 from htag)]; rfl)) ?_)
  refine l_op (o_stW (C' := [V64 t.serial, .string ⟨(t.tenant).toArray⟩, V8 t.rights, VI t.from_, VI t.until_, .slice (hd a6) (t.cs.len + x.len) c7] ++ (t.tag).map V8) H (i := 1) rfl rfl rfl cs76 (by simp [Value.oneCell']) (by rw [List.length_append, List.length_map, (show (List.replicate 32 (0 : UInt8)).length = 32 from (List.length_replicate ..))]; rfl) (by rw [List.length_append, List.length_map, (show (t.tag).length = 32 from htag)]; rfl) (fun w H => ?_))
  replace H : Hp _ w _ ([_, .blk b2 ([V64 t.serial, .string ⟨(t.tenant).toArray⟩, V8 t.rights, VI t.from_, VI t.until_, .slice (hd a6) (t.cs.len + x.len) c7] ++ (t.tag).map V8) 76, _]) := H
  first | refine l_end ?_ | refine l_nil ?_
  refine c_ret ?_
  try dsimp only [Exit.then, Exit.inBlock]
  refine e_retc Try.results119 H (i := 1) rfl rfl rt76 (by rw [List.length_append, List.length_map, (show (t.tag).length = 32 from htag)]; rfl) ?_
  refine ⟨_, rfl, ?_⟩
  exact ⟨_, _, rfl, H.sub (.cons _ (.cons _ (.cons_cons _ (List.nil_sublist _))))⟩
theorem effect_ret (w0 : World) (t : Tok) (hc : t.cs.ok cavE 2 w0) (_htag : t.tag.length = 32) :
    Ret Try.prog 72 [.agg ([V64 t.serial, .string ⟨(t.tenant).toArray⟩, V8 t.rights, VI t.from_, VI t.until_, t.cs.v] ++ (t.tag).map V8).toArray] w0 fun v w' => v = .tuple #[V8 (effF t.rights t.until_ t.cs.l).1, VI (effF t.rights t.until_ t.cs.l).2] ∧ Hp w0 w' [] [] := by
  refine ret_mk Try.func72 rfl Try.ntmps72 (by simp) ?_
  have H := Hp.refl w0 []
  have hxl := hc.le
  have hxm := hc.mx
  have hmL : maxLen = 9223372036854775807 := rfl
  repeat refine c_seq ?_
  refine c_region ?_
  refine l_op (o_box (v := .agg ([V64 t.serial, .string ⟨(t.tenant).toArray⟩, V8 t.rights, VI t.from_, VI t.until_, t.cs.v] ++ (t.tag).map V8).toArray) H rfl (fun b1 w H hb1 => ?_))
  replace H : Hp _ w _ ([.blk b1 ([V64 t.serial, .string ⟨(t.tenant).toArray⟩, V8 t.rights, VI t.from_, VI t.until_, t.cs.v] ++ (t.tag).map V8) 76]) := H
  refine l_op (o_val (r_asV (c8 0 (by decide))) ?_)
  refine l_op (o_val (r_as) ?_)
  first | refine l_end ?_ | refine l_nil ?_
  repeat refine c_seq ?_
  refine c_still mixed (by kernel_rfl) ?_
  replace H := H.drew
  refine s_op (r_fa rfl fo76_2) ?_
  refine s_op (r_ld (v := V8 t.rights) H (i := 0) rfl rfl ct73 rfl) ?_
  refine s_op (r_fa rfl fo76_4) ?_
  refine s_op (r_ld (v := VI t.until_) H (i := 0) rfl rfl ct2 rfl) ?_
  refine s_op (r_as) ?_
  refine s_op (r_as) ?_
  refine s_nil ?_
  repeat refine c_seq ?_
  refine c_region ?_
  refine l_op (o_val (r_fa rfl fo76_5) ?_)
  refine l_op (o_val (r_ld (v := t.cs.v) H (i := 0) rfl rfl ct74 rfl) ?_)
  refine l_op (o_val (r_lens el74 rfl) ?_)
  refine l_op (o_val (r_mv) ?_)
  first | refine l_end ?_ | refine l_nil ?_
  repeat refine c_seq ?_
  refine c_block ?_
  repeat refine c_seq ?_
  refine c_loop (fun (i : Nat) => [(4, V8 ((effF t.rights t.until_ (t.cs.l.take i)).1)), (5, VI ((effF t.rights t.until_ (t.cs.l.take i)).2)), (13, t.cs.v), (14, VI (t.cs.len : Int)), (15, VI (i : Int))])
    (fun (i : Nat) w => (i ≤ t.cs.len) ∧ Hp w0 w [] ([.blk b1 ([V64 t.serial, .string ⟨(t.tenant).toArray⟩, V8 t.rights, VI t.from_, VI t.until_, t.cs.v] ++ (t.tag).map V8) 76]))
    (fun (i : Nat) => t.cs.len - i) 0 ⟨rfl, rfl, rfl, rfl, rfl, trivial⟩ ⟨Nat.zero_le _, H⟩ ?_
  clear H
  rintro i τ w ⟨hi, H⟩
  repeat refine c_seq ?_
  refine c_region ?_
  refine l_op (o_val (r_bin (a := (i : Int)) (b := (t.cs.len : Int)) rfl rfl (fun _ => b_lss)) ?_)
  first | refine l_end ?_ | refine l_nil ?_
  by_cases hc2 : (i : Int) < (t.cs.len : Int)
  ·
   repeat refine c_seq ?_
   refine c_yes (by exact congrArg Value.bool (decide_eq_true hc2)) ?_
   refine c_skip ?_
   repeat refine c_seq ?_
   refine c_block ?_
   repeat refine c_seq ?_
   refine c_region ?_
   have ah5 := ((hc.up H)).addr (by decide) (by first | omega | (dsimp only; omega))
   obtain ⟨ab3, ao4, ah5⟩ := ah5
   refine l_op (o_val (r_isN i rfl rfl el74 ah5 (by omega) (by (try simp only [Sl.cut]); omega)) ?_)
   have he7 : ∃ c, t.cs.l[i]? = some c := ⟨_, List.getElem?_eq_getElem (by have := ((hc.up H)).ln; (try dsimp only at this ⊢); omega)⟩
   obtain ⟨e6, he7⟩ := he7
   have hez8 := ((hc.up H)).sz e6 (List.mem_of_getElem? he7)
   refine l_op (o_val (r_ldRow (s := t.cs) (k := i) (hc.up H) ah5 rfl rt78 (by decide) he7) ?_)
   refine l_op (o_alloc H zc78 (fun b9 w H hb9 => ?_))
   replace H : Hp _ w _ ([_, .blk b9 ([V8 (0 : UInt8), VI 0]) 78]) := H
   refine l_op (o_stW (C' := [V8 e6.1, VI e6.2]) H (i := 1) rfl rfl rfl cs78 (by simp [Value.oneCell']) (by rfl) (by rfl) (fun w H => ?_))
   replace H : Hp _ w _ ([_, .blk b9 ([V8 e6.1, VI e6.2]) 78]) := H
   first | refine l_end ?_ | refine l_nil ?_
   repeat refine c_seq ?_
   refine c_still mixed (by kernel_rfl) ?_
   replace H := H.drew
   refine s_op (r_mv) ?_
   refine s_op (r_fa rfl fo78_0) ?_
   refine s_op (r_ld (v := V8 e6.1) H (i := 1) rfl rfl ct73 rfl) ?_
   refine s_call Try.func121 rfl rfl rfl (rmeet_ret _ ((effF t.rights t.until_ (t.cs.l.take i)).1) (e6.1)) ?_
   refine s_op (r_mv) ?_
   refine s_op (r_fa rfl fo78_1) ?_
   refine s_op (r_ld (v := VI e6.2) H (i := 1) rfl rfl ct2 rfl) ?_
   refine s_op (r_min rfl rfl) ?_
   refine s_op (r_as) ?_
   refine s_op (r_as) ?_
   refine s_nil ?_
   repeat refine c_seq ?_
   refine c_region ?_
   refine l_op (o_val (r_bin (a := (i : Int)) (b := 1) rfl rfl (fun _ => b_add (by omega) (by omega))) ?_)
   refine l_op (o_val (r_mv) ?_)
   first | refine l_end ?_ | refine l_nil ?_
   have es := effF_succ t.rights t.until_ t.cs.l i e6 he7
   refine round_end (i + 1) ?_ ?_ ?_
   · exact ⟨show V8 (((effF t.rights t.until_ (t.cs.l.take i)).1) &&& e6.1) = V8 ((effF t.rights t.until_ (t.cs.l.take (i + 1 : Nat))).1) from congrArg V8 (by rw [es]), show VI (if e6.2 < (effF t.rights t.until_ (t.cs.l.take i)).2 then e6.2 else (effF t.rights t.until_ (t.cs.l.take i)).2) = VI ((effF t.rights t.until_ (t.cs.l.take (i + 1 : Nat))).2) from congrArg VI (by rw [es]), rfl, rfl, show VI ((i : Int) + 1) = VI ((i + 1 : Nat) : Int) from congrArg VI (by omega), trivial⟩
   · refine ⟨?_, ?_⟩
     · try dsimp only
       exact by omega
     · exact H.sub (.cons_cons _ (List.nil_sublist _))
   · show t.cs.len - (i + 1 : Nat) < t.cs.len - i; omega
  ·
   repeat refine c_seq ?_
   refine c_no (by exact congrArg Value.bool (decide_eq_false hc2)) ?_
   refine c_exit ?_
   repeat refine c_seq ?_
   refine c_region ?_
   refine l_op (o_val (r_mv) ?_)
   refine l_op (o_val (r_mv) ?_)
   refine l_op (o_val (r_as) ?_)
   refine l_op (o_val (r_as) ?_)
   first | refine l_end ?_ | refine l_nil ?_
   refine c_ret ?_
   try dsimp only [Exit.then, Exit.inBlock]
   refine e_retN (vs := [V8 ((effF t.rights t.until_ (t.cs.l.take i)).1), VI ((effF t.rights t.until_ (t.cs.l.take i)).2)]) _ Try.results72 rfl (resT (v := V8 ((effF t.rights t.until_ (t.cs.l.take i)).1)) rfl (resT (v := VI ((effF t.rights t.until_ (t.cs.l.take i)).2)) rfl (resZ))) ?_
   refine ⟨_, rfl, ?_⟩
   rw [List.take_of_length_le (by have := hc.ln; omega)]
   exact ⟨rfl, H.sub (List.nil_sublist _)⟩
end Go.Proofs.Ytjmbbhnpfmblpaa
namespace Go.Proofs.Ytjmbbhnpfmblpaa
open Go
set_option maxRecDepth 100000
theorem issue_ok (w0 : World) (key : List UInt8) (hk : key.length = 32) (t : Tok) (hc : t.cs.ok cavE 2 w0) (htag : t.tag.length = 32) (hn : t.tenant.length ≤ 65536) (hm : mayT t = true) (h0 : t.cs.len = 0) :
    Ret Try.prog 68 [.agg ((key).map V8).toArray, .agg ([V64 t.serial, .string ⟨(t.tenant).toArray⟩, V8 t.rights, VI t.from_, VI t.until_, t.cs.v] ++ (t.tag).map V8).toArray] w0 fun v w' => v = .tuple #[.agg ([V64 t.serial, .string ⟨(t.tenant).toArray⟩, V8 t.rights, VI t.from_, VI t.until_, .slice none 0 0] ++ (hmac key (framed [t.head])).map V8).toArray, VI 0] ∧ Hp w0 w' [] [] := by
  refine ret_mk Try.func68 rfl Try.ntmps68 (by simp) ?_
  have H := Hp.refl w0 []
  repeat refine c_seq ?_
  refine c_region ?_
  refine l_op (o_box (v := .agg ((key).map V8).toArray) H rfl (fun b1 w H hb1 => ?_))
  replace H : Hp _ w _ ([.blk b1 ((key).map V8) 31]) := H
  refine l_op (o_box (v := .agg ([V64 t.serial, .string ⟨(t.tenant).toArray⟩, V8 t.rights, VI t.from_, VI t.until_, t.cs.v] ++ (t.tag).map V8).toArray) H rfl (fun b2 w H hb2 => ?_))
  replace H : Hp _ w _ ([_, .blk b2 ([V64 t.serial, .string ⟨(t.tenant).toArray⟩, V8 t.rights, VI t.from_, VI t.until_, t.cs.v] ++ (t.tag).map V8) 76]) := H
  refine l_op (o_alloc H zc76 (fun b3 w H hb3 => ?_))
  replace H : Hp _ w _ ([_, _, .blk b3 ([V64 (0 : UInt64), .string ⟨(([] : List UInt8)).toArray⟩, V8 (0 : UInt8), VI 0, VI 0, .slice none 0 0] ++ (List.replicate 32 (0 : UInt8)).map V8) 76]) := H
  refine l_op (o_val (r_as) ?_)
  first | refine l_end ?_ | refine l_nil ?_
  repeat refine c_seq ?_
  refine c_region ?_
  refine l_op (o_val (r_ldA (C := [V64 t.serial, .string ⟨(t.tenant).toArray⟩, V8 t.rights, VI t.from_, VI t.until_, t.cs.v] ++ (t.tag).map V8) H (i := 1) rfl rfl rt76 (by rw [List.length_append, List.length_map, (show (t.tag).length = 32 from htag)]; rfl)) ?_)
  refine l_op (o_callR Try.func75 rfl rfl rfl (may_ret _ t (hc.up H) (show (t.tag).length = 32 from htag) (by first | omega | (dsimp only; omega) | simp)) ?_)
  rintro _ w ⟨rfl, Hc⟩
  replace H : Hp _ w _ ([_, _, _]) := H.call Hc
  clear Hc
  have hk4 : (mayT t) = true := hm
  refine l_op (o_val (r_not rfl) ?_)
  refine l_op (o_val (r_mv) ?_)
  refine l_yes rfl rfl (by exact congrArg Value.bool (congrArg not hk4)) (o_val (r_fa rfl fo76_5) ?_)
  refine l_yes rfl rfl (by exact congrArg Value.bool (congrArg not hk4)) (o_val (r_ld (v := t.cs.v) H (i := 1) rfl rfl ct74 rfl) ?_)
  refine l_yes rfl rfl (by exact congrArg Value.bool (congrArg not hk4)) (o_val (r_lens el74 rfl) ?_)
  refine l_yes rfl rfl (by exact congrArg Value.bool (congrArg not hk4)) (o_val (r_bin (a := (t.cs.len : Int)) (b := 0) rfl rfl (fun _ => b_gtrB false (decide_eq_false (by omega)))) ?_)
  refine l_op (o_val (r_pick (b := false) (congrArg Value.bool (congrArg not hk4))) ?_)
  first | refine l_end ?_ | refine l_nil ?_
  repeat refine c_seq ?_
  refine c_no rfl ?_
  refine c_skip ?_
  repeat refine c_seq ?_
  refine wp_held (fun w => Hp w0 w [] [.blk b1 ((key).map V8) 31, .blk b3 ([V64 (0 : UInt64), .string ⟨(([] : List UInt8)).toArray⟩, V8 (0 : UInt8), VI 0, VI 0, .slice none 0 0] ++ (List.replicate 32 (0 : UInt8)).map V8) 76]) mixed ?_
  replace H := H.drew
  have HS := H.sub (.cons_cons _ (.cons _ (.cons_cons _ (List.nil_sublist _))))
  refine t_take 0 rfl (by kernel_rfl) (by kernel_rfl) (by kernel_rfl) (fun _ _ _ h => h) (fun w HS => r_slA (h := 32) (m := 32) (lv := none) (hv := none) (mv := none) rfl ar31 rfl rfl rfl (fun w => sbn w)) HS ?_
  refine t_step 1 rfl (by kernel_rfl) (o_val (r_ldA (C := [V64 t.serial, .string ⟨(t.tenant).toArray⟩, V8 t.rights, VI t.from_, VI t.until_, t.cs.v] ++ (t.tag).map V8) H (i := 1) rfl rfl rt76 (by rw [List.length_append, List.length_map, (show (t.tag).length = 32 from htag)]; rfl)) ?_)
  refine ⟨H.sub (.cons_cons _ (.cons _ (.cons_cons _ (List.nil_sublist _)))), ?_⟩
  replace HS := H.sub (.cons_cons _ (.cons _ (.cons_cons _ (List.nil_sublist _))))
  refine t_take 5 rfl (by kernel_rfl) (by kernel_rfl) (by kernel_rfl) (fun _ _ _ h => h) (fun w HS => r_fa rfl fo76_5) HS ?_
  refine t_step 2 rfl (by kernel_rfl) (o_callR Try.func115 rfl rfl rfl (head_ret _ t (hc.up H) (show (t.tag).length = 32 from htag) (by first | omega | (dsimp only; omega) | simp)) ?_)
  rintro _ w ⟨a5, n6, c7, rfl, hn8, hh9, Hc⟩
  replace H : Hp _ w _ ([_, _, _, .own a5 n6 c7 ((t.head).map V8) 5 1]) := H.call Hc
  clear Hc
  try dsimp only at hn8
  refine ⟨H.sub (.cons_cons _ (.cons _ (.cons_cons _ (List.nil_sublist _)))), ?_⟩
  replace HS := H.sub (.cons_cons _ (.cons _ (.cons_cons _ (List.nil_sublist _))))
  refine t_step 3 rfl (by kernel_rfl) (o_bslV ([.slice (hd a5) n6 c7]) H sl22 zc29 rfl (by simp [Value.oneCell']) rfl (by decide) (fun b10 w H hb10 => ?_))
  replace H : Hp _ w _ ([_, _, _, _, .own (some b10) 1 1 ([.slice (hd a5) n6 c7]) 29 1]) := H
  refine ⟨H.sub (.cons_cons _ (.cons _ (.cons_cons _ (List.nil_sublist _)))), ?_⟩
  replace HS := H.sub (.cons_cons _ (.cons _ (.cons_cons _ (List.nil_sublist _))))
  refine t_step 4 rfl (by kernel_rfl) (o_callR Try.func52 rfl rfl rfl (macOf_ret _ (⟨some ⟨b1, 0, none⟩, 32, 32, key⟩ : Sl) (H.slBlkA (i := 0) rfl 32 (show (key).length = 32 from hk) (by decide)) (hd (some b10)) 1 1 [⟨hd a5, n6, c7, t.head⟩] (H.own (i := 4) rfl) rfl (all1 (H.slOwn (i := 3) rfl)) (by omega) (by simp [framed, be_len]; omega)) ?_)
  rintro _ w ⟨rfl, Hc⟩
  replace H : Hp _ w _ ([_, _, _, _, _]) := H.call Hc
  clear Hc
  refine ⟨H.sub (.cons_cons _ (.cons _ (.cons_cons _ (List.nil_sublist _)))), ?_⟩
  replace HS := H.sub (.cons_cons _ (.cons _ (.cons_cons _ (List.nil_sublist _))))
  refine t_step 6 rfl (by kernel_rfl) (o_st (v := .slice none 0 0) H (i := 1) rfl rfl rfl cs74 rfl (by simp only [List.length_append, List.length_cons, List.length_nil]; omega) (fun w H => ?_))
  replace H : Hp _ w _ ([_, .blk b2 ([V64 t.serial, .string ⟨(t.tenant).toArray⟩, V8 t.rights, VI t.from_, VI t.until_, .slice none 0 0] ++ (t.tag).map V8) 76, _, _, _]) := H
  refine ⟨H.sub (.cons_cons _ (.cons _ (.cons_cons _ (List.nil_sublist _)))), ?_⟩
  replace HS := H.sub (.cons_cons _ (.cons _ (.cons_cons _ (List.nil_sublist _))))
  refine t_take 7 rfl (by kernel_rfl) (by kernel_rfl) (by kernel_rfl) (fun _ _ _ h => h) (fun w HS => r_fa rfl fo76_6) HS ?_
  refine t_step 8 rfl (by kernel_rfl) (o_stT (pre := [V64 t.serial, .string ⟨(t.tenant).toArray⟩, V8 t.rights, VI t.from_, VI t.until_, .slice none 0 0]) (l := t.tag) (l' := hmac (key) (framed [t.head])) H (i := 1) rfl rfl rfl cs31 rfl (show (t.tag).length = 32 from htag) (show (hmac (key) (framed [t.head])).length = 32 from hmac_len _ _) (fun w H => ?_))
  replace H : Hp _ w _ ([_, .blk b2 ([V64 t.serial, .string ⟨(t.tenant).toArray⟩, V8 t.rights, VI t.from_, VI t.until_, .slice none 0 0] ++ (hmac (key) (framed [t.head])).map V8) 76, _, _, _]) := H
  refine ⟨H.sub (.cons_cons _ (.cons _ (.cons_cons _ (List.nil_sublist _)))), ?_⟩
  replace HS := H.sub (.cons_cons _ (.cons _ (.cons_cons _ (List.nil_sublist _))))
  refine t_done (by kernel_rfl) ?_
  clear HS
  repeat refine c_seq ?_
  refine c_region ?_
  refine l_op (o_val (r_ldA (C := [V64 t.serial, .string ⟨(t.tenant).toArray⟩, V8 t.rights, VI t.from_, VI t.until_, .slice none 0 0] ++ (hmac (key) (framed [t.head])).map V8) H (i := 1) rfl rfl rt76 (by rw [List.length_append, List.length_map, (show (hmac (key) (framed [t.head])).length = 32 from hmac_len _ _)]; rfl)) ?_)
  refine l_op (o_stW (C' := [V64 t.serial, .string ⟨(t.tenant).toArray⟩, V8 t.rights, VI t.from_, VI t.until_, .slice none 0 0] ++ (hmac (key) (framed [t.head])).map V8) H (i := 2) rfl rfl rfl cs76 (by simp [Value.oneCell']) (by rw [List.length_append, List.length_map, (show (List.replicate 32 (0 : UInt8)).length = 32 from (List.length_replicate ..))]; rfl) (by rw [List.length_append, List.length_map, (show (hmac (key) (framed [t.head])).length = 32 from hmac_len _ _)]; rfl) (fun w H => ?_))
  replace H : Hp _ w _ ([_, _, .blk b3 ([V64 t.serial, .string ⟨(t.tenant).toArray⟩, V8 t.rights, VI t.from_, VI t.until_, .slice none 0 0] ++ (hmac (key) (framed [t.head])).map V8) 76, _, _]) := H
  refine l_op (o_val (r_as) ?_)
  first | refine l_end ?_ | refine l_nil ?_
  refine c_ret ?_
  try dsimp only [Exit.then, Exit.inBlock]
  refine e_retN (vs := [.agg ([V64 t.serial, .string ⟨(t.tenant).toArray⟩, V8 t.rights, VI t.from_, VI t.until_, .slice none 0 0] ++ (hmac (key) (framed [t.head])).map V8).toArray, VI 0]) _ Try.results68 rfl (H.resR (C := [V64 t.serial, .string ⟨(t.tenant).toArray⟩, V8 t.rights, VI t.from_, VI t.until_, .slice none 0 0] ++ (hmac (key) (framed [t.head])).map V8) (i := 2) rfl rfl rt76 (by rw [List.length_append, List.length_map, (show (hmac (key) (framed [t.head])).length = 32 from hmac_len _ _)]; rfl) (resT (v := VI 0) rfl (resZ))) ?_
  refine ⟨_, rfl, ?_⟩
  exact ⟨rfl, H.sub (List.nil_sublist _)⟩
theorem less_ok (w0 : World) (t : Tok) (c : Cav) (hc : t.cs.ok cavE 2 w0) (htag : t.tag.length = 32) (hn : t.tenant.length ≤ 65536) (hm : mayT t = true) (hr : rMay c.1 = true) (h8 : t.cs.len < 8) :
    Ret Try.prog 70 [.agg ([V64 t.serial, .string ⟨(t.tenant).toArray⟩, V8 t.rights, VI t.from_, VI t.until_, t.cs.v] ++ (t.tag).map V8).toArray, .agg ([V8 c.1, VI c.2]).toArray] w0 fun v w' => ∃ a k, v = .tuple #[.agg ([V64 t.serial, .string ⟨(t.tenant).toArray⟩, V8 t.rights, VI t.from_, VI t.until_, .slice (hd a) (t.cs.len + 1) k] ++ (onF t.tag [c]).map V8).toArray, VI 0] ∧ Hp w0 w' [] [.own a (t.cs.len + 1) k ((t.cs.l ++ [c]).flatMap cavE) 78 2] := by
  refine ret_mk Try.func70 rfl Try.ntmps70 (by simp) ?_
  have H := Hp.refl w0 []
  repeat refine c_seq ?_
  refine c_region ?_
  refine l_op (o_box (v := .agg ([V64 t.serial, .string ⟨(t.tenant).toArray⟩, V8 t.rights, VI t.from_, VI t.until_, t.cs.v] ++ (t.tag).map V8).toArray) H rfl (fun b1 w H hb1 => ?_))
  replace H : Hp _ w _ ([.blk b1 ([V64 t.serial, .string ⟨(t.tenant).toArray⟩, V8 t.rights, VI t.from_, VI t.until_, t.cs.v] ++ (t.tag).map V8) 76]) := H
  refine l_op (o_box (v := .agg ([V8 c.1, VI c.2]).toArray) H rfl (fun b2 w H hb2 => ?_))
  replace H : Hp _ w _ ([_, .blk b2 ([V8 c.1, VI c.2]) 78]) := H
  refine l_op (o_alloc H zc76 (fun b3 w H hb3 => ?_))
  replace H : Hp _ w _ ([_, _, .blk b3 ([V64 (0 : UInt64), .string ⟨(([] : List UInt8)).toArray⟩, V8 (0 : UInt8), VI 0, VI 0, .slice none 0 0] ++ (List.replicate 32 (0 : UInt8)).map V8) 76]) := H
  refine l_op (o_val (r_as) ?_)
  first | refine l_end ?_ | refine l_nil ?_
  repeat refine c_seq ?_
  refine c_block ?_
  repeat refine c_seq ?_
  refine c_region ?_
  refine l_op (o_val (r_ldA (C := [V64 t.serial, .string ⟨(t.tenant).toArray⟩, V8 t.rights, VI t.from_, VI t.until_, t.cs.v] ++ (t.tag).map V8) H (i := 0) rfl rfl rt76 (by rw [List.length_append, List.length_map, (show (t.tag).length = 32 from htag)]; rfl)) ?_)
  refine l_op (o_callR Try.func75 rfl rfl rfl (may_ret _ t (hc.up H) (show (t.tag).length = 32 from htag) (by first | omega | (dsimp only; omega) | simp)) ?_)
  rintro _ w ⟨rfl, Hc⟩
  replace H : Hp _ w _ ([_, _, _]) := H.call Hc
  clear Hc
  have hk4 : (mayT t) = true := hm
  refine l_op (o_val (r_not rfl) ?_)
  refine l_op (o_val (r_mv) ?_)
  refine l_yes rfl rfl (by exact congrArg Value.bool (congrArg not hk4)) (o_val (r_fa rfl fo78_0) ?_)
  refine l_yes rfl rfl (by exact congrArg Value.bool (congrArg not hk4)) (o_val (r_ld (v := V8 c.1) H (i := 1) rfl rfl ct73 rfl) ?_)
  refine l_yes rfl rfl (by exact congrArg Value.bool (congrArg not hk4)) (o_callR Try.func117 rfl rfl rfl (rmay_ret _ (c.1)) ?_)
  rintro _ w' ⟨rfl, hw5⟩
  rw [hw5]; clear hw5 w'
  have hk6 : (rMay (c.1)) = true := hr
  refine l_yes rfl rfl (by exact congrArg Value.bool (congrArg not hk4)) (o_val (r_not rfl) ?_)
  refine l_op (o_val (r_pick (b := false) (congrArg Value.bool (congrArg not hk4))) ?_)
  refine l_op (o_val (r_as) ?_)
  first | refine l_end ?_ | refine l_nil ?_
  repeat refine c_seq ?_
  refine c_no (by exact congrArg Value.bool (congrArg not hk6)) ?_
  repeat refine c_seq ?_
  refine c_region ?_
  refine l_op (o_val (r_fa rfl fo76_5) ?_)
  refine l_op (o_val (r_ld (v := t.cs.v) H (i := 0) rfl rfl ct74 rfl) ?_)
  refine l_op (o_val (r_lens el74 rfl) ?_)
  refine l_op (o_val (r_bin (a := (t.cs.len : Int)) (b := 8) rfl rfl (fun _ => b_eqlB false (decide_eq_false (by omega)))) ?_)
  refine l_op (o_val (r_as) ?_)
  first | refine l_end ?_ | refine l_nil ?_
  repeat refine c_seq ?_
  refine c_no rfl ?_
  refine c_skip ?_
  repeat refine c_seq ?_
  refine c_region ?_
  refine l_op (o_val (r_fa rfl fo76_6) ?_)
  refine l_op (o_val (r_ldT (pre := [V64 t.serial, .string ⟨(t.tenant).toArray⟩, V8 t.rights, VI t.from_, VI t.until_, t.cs.v]) (l := t.tag) H (i := 0) rfl rfl rt31 rfl (show (t.tag).length = 32 from htag)) ?_)
  refine l_op (o_val (r_ldA (C := [V8 c.1, VI c.2]) H (i := 1) rfl rfl rt78 (by rfl)) ?_)
  refine l_op (o_bslG1 (enc := cavE) (c) H sl74 zc78 (by rfl) (by decide) (by decide) rfl rfl (fun b7 w H hb7 => ?_))
  replace H : Hp _ w _ ([_, _, _, .own (some b7) 1 1 (([c]).flatMap cavE) 78 2]) := H
  refine l_op (o_callR Try.func118 rfl rfl rfl (on_ret _ (t.tag) (show (t.tag).length = 32 from htag) ⟨hd (some b7), 1, 1, [c]⟩ (H.glOwn (i := 3) rfl (by decide) (fun _ _ => rfl))) ?_)
  rintro _ w ⟨rfl, Hc⟩
  replace H : Hp _ w _ ([_, _, _, _]) := H.call Hc
  clear Hc
  refine l_op (o_val (r_fa rfl fo76_6) ?_)
  refine l_op (o_stT (pre := [V64 t.serial, .string ⟨(t.tenant).toArray⟩, V8 t.rights, VI t.from_, VI t.until_, t.cs.v]) (l := t.tag) (l' := onF (t.tag) ([c])) H (i := 0) rfl rfl rfl cs31 rfl (show (t.tag).length = 32 from htag) (show (onF (t.tag) ([c])).length = 32 from onF_len _ (show (t.tag).length = 32 from htag) _) (fun w H => ?_))
  replace H : Hp _ w _ ([.blk b1 ([V64 t.serial, .string ⟨(t.tenant).toArray⟩, V8 t.rights, VI t.from_, VI t.until_, t.cs.v] ++ (onF (t.tag) ([c])).map V8) 76, _, _, _]) := H
  first | refine l_end ?_ | refine l_nil ?_
  repeat refine c_seq ?_
  refine c_region ?_
  refine l_op (o_val (r_ldA (C := [V64 t.serial, .string ⟨(t.tenant).toArray⟩, V8 t.rights, VI t.from_, VI t.until_, t.cs.v] ++ (onF (t.tag) ([c])).map V8) H (i := 0) rfl rfl rt76 (by rw [List.length_append, List.length_map, (show (onF (t.tag) ([c])).length = 32 from onF_len _ (show (t.tag).length = 32 from htag) _)]; rfl)) ?_)
  refine l_op (o_val (r_ldA (C := [V8 c.1, VI c.2]) H (i := 1) rfl rfl rt78 (by rfl)) ?_)
  refine l_op (o_bslG1 (enc := cavE) (c) H sl74 zc78 (by rfl) (by decide) (by decide) rfl rfl (fun b8 w H hb8 => ?_))
  replace H : Hp _ w _ ([_, _, _, _, .own (some b8) 1 1 (([c]).flatMap cavE) 78 2]) := H
  refine l_op (o_callR Try.func119 rfl rfl rfl (capown_ret _ (⟨t.serial, t.tenant, t.rights, t.from_, t.until_, t.cs, onF (t.tag) ([c])⟩ : Tok) (hc.up H) (show (onF (t.tag) ([c])).length = 32 from onF_len _ (show (t.tag).length = 32 from htag) _) ⟨hd (some b8), 1, 1, [c]⟩ (H.glOwn (i := 4) rfl (by decide) (fun _ _ => rfl)) (by first | omega | (dsimp only; omega) | simp) (by first | omega | (dsimp only; omega) | simp)) ?_)
  rintro _ w ⟨a9, c10, rfl, Hc⟩
  replace H : Hp _ w _ ([_, _, _, _, _, .own a9 (t.cs.len + 1) c10 ((t.cs.l ++ ([c])).flatMap cavE) 78 2]) := H.call Hc
  clear Hc
  refine l_op (o_stW (C' := [V64 t.serial, .string ⟨(t.tenant).toArray⟩, V8 t.rights, VI t.from_, VI t.until_, .slice (hd a9) (t.cs.len + 1) c10] ++ (onF (t.tag) ([c])).map V8) H (i := 2) rfl rfl rfl cs76 (by simp [Value.oneCell']) (by rw [List.length_append, List.length_map, (show (List.replicate 32 (0 : UInt8)).length = 32 from (List.length_replicate ..))]; rfl) (by rw [List.length_append, List.length_map, (show (onF (t.tag) ([c])).length = 32 from onF_len _ (show (t.tag).length = 32 from htag) _)]; rfl) (fun w H => ?_))
  replace H : Hp _ w _ ([_, _, .blk b3 ([V64 t.serial, .string ⟨(t.tenant).toArray⟩, V8 t.rights, VI t.from_, VI t.until_, .slice (hd a9) (t.cs.len + 1) c10] ++ (onF (t.tag) ([c])).map V8) 76, _, _, _]) := H
  refine l_op (o_val (r_as) ?_)
  first | refine l_end ?_ | refine l_nil ?_
  refine c_ret ?_
  try dsimp only [Exit.then, Exit.inBlock]
  refine e_retN (vs := [.agg ([V64 t.serial, .string ⟨(t.tenant).toArray⟩, V8 t.rights, VI t.from_, VI t.until_, .slice (hd a9) (t.cs.len + 1) c10] ++ (onF (t.tag) ([c])).map V8).toArray, VI 0]) _ Try.results70 rfl (H.resR (C := [V64 t.serial, .string ⟨(t.tenant).toArray⟩, V8 t.rights, VI t.from_, VI t.until_, .slice (hd a9) (t.cs.len + 1) c10] ++ (onF (t.tag) ([c])).map V8) (i := 2) rfl rfl rt76 (by rw [List.length_append, List.length_map, (show (onF (t.tag) ([c])).length = 32 from onF_len _ (show (t.tag).length = 32 from htag) _)]; rfl) (resT (v := VI 0) rfl (resZ))) ?_
  refine ⟨_, rfl, ?_⟩
  exact ⟨_, _, rfl, H.sub (.cons _ (.cons _ (.cons _ (.cons _ (.cons _ (.cons_cons _ (List.nil_sublist _)))))))⟩
def checkT (key : List UInt8) (t : Tok) (now : Int) : Int :=
  if mayT t = false then 1
  else if ¬ onF (hmac key (framed [t.head])) t.cs.l = t.tag then 13
  else if now < t.from_ ∨ (effF t.rights t.until_ t.cs.l).2 ≤ now then 14
  else 0
theorem check14_ret (w0 : World) (key : List UInt8) (hk : key.length = 32) (t : Tok) (hc : t.cs.ok cavE 2 w0) (htag : t.tag.length = 32) (hn : t.tenant.length ≤ 65536) (now : Int) :
    Ret Try.prog 77 [.agg ((key).map V8).toArray, .agg ([V64 t.serial, .string ⟨(t.tenant).toArray⟩, V8 t.rights, VI t.from_, VI t.until_, t.cs.v] ++ (t.tag).map V8).toArray, VI now] w0 fun v w' => v = VI (checkT key t now) ∧ Hp w0 w' [] [] := by
  refine ret_mk Try.func77 rfl Try.ntmps77 (by simp) ?_
  have H := Hp.refl w0 []
  repeat refine c_seq ?_
  refine c_region ?_
  refine l_op (o_box (v := .agg ((key).map V8).toArray) H rfl (fun b1 w H hb1 => ?_))
  replace H : Hp _ w _ ([.blk b1 ((key).map V8) 31]) := H
  refine l_op (o_box (v := .agg ([V64 t.serial, .string ⟨(t.tenant).toArray⟩, V8 t.rights, VI t.from_, VI t.until_, t.cs.v] ++ (t.tag).map V8).toArray) H rfl (fun b2 w H hb2 => ?_))
  replace H : Hp _ w _ ([_, .blk b2 ([V64 t.serial, .string ⟨(t.tenant).toArray⟩, V8 t.rights, VI t.from_, VI t.until_, t.cs.v] ++ (t.tag).map V8) 76]) := H
  refine l_op (o_val (r_as) ?_)
  first | refine l_end ?_ | refine l_nil ?_
  repeat refine c_seq ?_
  refine c_region ?_
  refine l_op (o_val (r_ldA (C := [V64 t.serial, .string ⟨(t.tenant).toArray⟩, V8 t.rights, VI t.from_, VI t.until_, t.cs.v] ++ (t.tag).map V8) H (i := 1) rfl rfl rt76 (by rw [List.length_append, List.length_map, (show (t.tag).length = 32 from htag)]; rfl)) ?_)
  refine l_op (o_callR Try.func75 rfl rfl rfl (may_ret _ t (hc.up H) (show (t.tag).length = 32 from htag) (by first | omega | (dsimp only; omega) | simp)) ?_)
  rintro _ w ⟨rfl, Hc⟩
  replace H : Hp _ w _ ([_, _]) := H.call Hc
  clear Hc
  refine l_op (o_val (r_not rfl) ?_)
  first | refine l_end ?_ | refine l_nil ?_
  rcases Bool.eq_false_or_eq_true (mayT t) with hc3 | hc3
  ·
   repeat refine c_seq ?_
   refine c_no (by exact congrArg Value.bool (congrArg not hc3)) ?_
   refine c_skip ?_
   repeat refine c_seq ?_
   refine wp_held (fun w => Hp w0 w [] [.blk b1 ((key).map V8) 31, .blk b2 ([V64 t.serial, .string ⟨(t.tenant).toArray⟩, V8 t.rights, VI t.from_, VI t.until_, t.cs.v] ++ (t.tag).map V8) 76]) mixed ?_
   replace H := H.drew
   have HS := H
   refine t_take 0 rfl (by kernel_rfl) (by kernel_rfl) (by kernel_rfl) (fun _ _ _ h => h) (fun w HS => r_slA (h := 32) (m := 32) (lv := none) (hv := none) (mv := none) rfl ar31 rfl rfl rfl (fun w => sbn w)) HS ?_
   refine t_take 1 rfl (by kernel_rfl) (by kernel_rfl) (by kernel_rfl) (fun _ _ _ h => h) (fun w HS => r_ldA (C := [V64 t.serial, .string ⟨(t.tenant).toArray⟩, V8 t.rights, VI t.from_, VI t.until_, t.cs.v] ++ (t.tag).map V8) HS (i := 1) rfl rfl rt76 (by rw [List.length_append, List.length_map, (show (t.tag).length = 32 from htag)]; rfl)) HS ?_
   refine t_take 5 rfl (by kernel_rfl) (by kernel_rfl) (by kernel_rfl) (fun _ _ _ h => h) (fun w HS => r_fa rfl fo76_5) HS ?_
   refine t_take 6 rfl (by kernel_rfl) (by kernel_rfl) (by kernel_rfl) (fun _ _ _ h => h) (fun w HS => r_ld (v := t.cs.v) HS (i := 1) rfl rfl ct74 rfl) HS ?_
   refine t_all [2, 8] (by kernel_rfl) (by simp) (all_cons (w_op 2 rfl ?_) (all_cons (w_op 8 rfl ?_) (all_nil)))
   ·
    refine (o_callR Try.func115 rfl rfl rfl (head_ret _ t (hc.up H) (show (t.tag).length = 32 from htag) (by first | omega | (dsimp only; omega) | simp)) ?_)
    rintro _ w ⟨a4, n5, c6, rfl, hn7, hh8, Hc⟩
    replace H : Hp _ w _ ([_, _, .own a4 n5 c6 ((t.head).map V8) 5 1]) := H.call Hc
    clear Hc
    try dsimp only at hn7
    refine ⟨H.sub (.cons_cons _ (.cons_cons _ (List.nil_sublist _))), ?_⟩
    replace HS := H.sub (.cons_cons _ (.cons_cons _ (List.nil_sublist _)))
    refine t_all [3, 8] (by kernel_rfl) (by simp) (all_cons (w_op 3 rfl ?_) (all_cons (w_op 8 rfl ?_) (all_nil)))
    ·
     refine (o_bslV ([.slice (hd a4) n5 c6]) H sl22 zc29 rfl (by simp [Value.oneCell']) rfl (by decide) (fun b9 w H hb9 => ?_))
     replace H : Hp _ w _ ([_, _, _, .own (some b9) 1 1 ([.slice (hd a4) n5 c6]) 29 1]) := H
     refine ⟨H.sub (.cons_cons _ (.cons_cons _ (List.nil_sublist _))), ?_⟩
     replace HS := H.sub (.cons_cons _ (.cons_cons _ (List.nil_sublist _)))
     refine t_all [4, 8] (by kernel_rfl) (by simp) (all_cons (w_op 4 rfl ?_) (all_cons (w_op 8 rfl ?_) (all_nil)))
     ·
      refine (o_callR Try.func52 rfl rfl rfl (macOf_ret _ (⟨some ⟨b1, 0, none⟩, 32, 32, key⟩ : Sl) (H.slBlkA (i := 0) rfl 32 (show (key).length = 32 from hk) (by decide)) (hd (some b9)) 1 1 [⟨hd a4, n5, c6, t.head⟩] (H.own (i := 3) rfl) rfl (all1 (H.slOwn (i := 2) rfl)) (by omega) (by simp [framed, be_len]; omega)) ?_)
      rintro _ w ⟨rfl, Hc⟩
      replace H : Hp _ w _ ([_, _, _, _]) := H.call Hc
      clear Hc
      refine ⟨H.sub (.cons_cons _ (.cons_cons _ (List.nil_sublist _))), ?_⟩
      replace HS := H.sub (.cons_cons _ (.cons_cons _ (List.nil_sublist _)))
      refine t_all [7, 8] (by kernel_rfl) (by simp) (all_cons (w_op 7 rfl ?_) (all_cons (w_op 8 rfl ?_) (all_nil)))
      ·
       refine (o_callR Try.func118 rfl rfl rfl (on_ret _ (hmac (key) (framed [t.head])) (show (hmac (key) (framed [t.head])).length = 32 from hmac_len _ _) t.cs (hc.up H)) ?_)
       rintro _ w ⟨rfl, Hc⟩
       replace H : Hp _ w _ ([_, _, _, _]) := H.call Hc
       clear Hc
       refine ⟨H.sub (.cons_cons _ (.cons_cons _ (List.nil_sublist _))), ?_⟩
       replace HS := H.sub (.cons_cons _ (.cons_cons _ (List.nil_sublist _)))
       refine t_step 8 rfl (by kernel_rfl) (o_alloc H zc31 (fun b10 w H hb10 => ?_))
       replace H : Hp _ w _ ([_, _, _, _, .blk b10 ((List.replicate 32 (0 : UInt8)).map V8) 31]) := H
       refine ⟨H.sub (.cons_cons _ (.cons_cons _ (List.nil_sublist _))), ?_⟩
       replace HS := H.sub (.cons_cons _ (.cons_cons _ (List.nil_sublist _)))
       refine t_step 9 rfl (by kernel_rfl) (o_stA (l' := onF (hmac (key) (framed [t.head])) (t.cs.l)) H (i := 4) rfl rfl rfl cs31 (show (List.replicate 32 (0 : UInt8)).length = 32 from (List.length_replicate ..)) (show (onF (hmac (key) (framed [t.head])) (t.cs.l)).length = 32 from onF_len _ (show (hmac (key) (framed [t.head])).length = 32 from hmac_len _ _) _) (fun w H => ?_))
       replace H : Hp _ w _ ([_, _, _, _, .blk b10 ((onF (hmac (key) (framed [t.head])) (t.cs.l)).map V8) 31]) := H
       refine ⟨H.sub (.cons_cons _ (.cons_cons _ (List.nil_sublist _))), ?_⟩
       replace HS := H.sub (.cons_cons _ (.cons_cons _ (List.nil_sublist _)))
       refine t_done (by kernel_rfl) ?_
       clear HS
       repeat refine c_seq ?_
       refine wp_held (fun w => Hp w0 w [] [.blk b1 ((key).map V8) 31, .blk b2 ([V64 t.serial, .string ⟨(t.tenant).toArray⟩, V8 t.rights, VI t.from_, VI t.until_, t.cs.v] ++ (t.tag).map V8) 76, .own a4 n5 c6 ((t.head).map V8) 5 1, .own (some b9) 1 1 ([.slice (hd a4) n5 c6]) 29 1, .blk b10 ((onF (hmac (key) (framed [t.head])) (t.cs.l)).map V8) 31]) mixed ?_
       replace H := H.drew
       have HS := H
       refine t_take 0 rfl (by kernel_rfl) (by kernel_rfl) (by kernel_rfl) (fun _ _ _ h => h) (fun w HS => r_slA (h := 32) (m := 32) (lv := none) (hv := none) (mv := none) rfl ar31 rfl rfl rfl (fun w => sbn w)) HS ?_
       refine t_take 1 rfl (by kernel_rfl) (by kernel_rfl) (by kernel_rfl) (fun _ _ _ h => h) (fun w HS => r_fa rfl fo76_6) HS ?_
       refine t_take 2 rfl (by kernel_rfl) (by kernel_rfl) (by kernel_rfl) (fun _ _ _ h => h) (fun w HS => r_slAo (o := 6) (h := 32) (m := 32) (lv := none) (hv := none) (mv := none) rfl ar31 rfl rfl rfl (fun w => sbn w)) HS ?_
       refine t_step 3 rfl (by kernel_rfl) (o_callR Try.func48 rfl rfl rfl (equal_ret _ (⟨some ⟨b10, 0, none⟩, 32, 32, onF (hmac (key) (framed [t.head])) (t.cs.l)⟩ : Sl) (⟨some ⟨b2, 6, none⟩, 32, 32, t.tag⟩ : Sl) (H.slBlkA (i := 4) rfl 32 (show (onF (hmac (key) (framed [t.head])) (t.cs.l)).length = 32 from onF_len _ (show (hmac (key) (framed [t.head])).length = 32 from hmac_len _ _) _) (by decide)) (H.slTail (i := 1) (o := 6) (pre := [V64 t.serial, .string ⟨(t.tenant).toArray⟩, V8 t.rights, VI t.from_, VI t.until_, t.cs.v]) rfl rfl (show (t.tag).length = 32 from htag) (by decide))) ?_)
       rintro _ w ⟨rfl, Hc⟩
       replace H : Hp _ w _ ([_, _, _, _, _]) := H.call Hc
       clear Hc
       refine ⟨H, ?_⟩
       replace HS := H
       refine t_take 4 rfl (by kernel_rfl) (by kernel_rfl) (by kernel_rfl) (fun _ _ _ h => h) (fun w HS => r_not rfl) HS ?_
       refine t_done (by kernel_rfl) ?_
       clear HS
       by_cases hc11 : onF (hmac (key) (framed [t.head])) (t.cs.l) = t.tag
       ·
        repeat refine c_seq ?_
        refine c_no (by exact congrArg Value.bool (congrArg not (decide_eq_true hc11))) ?_
        refine c_skip ?_
        repeat refine c_seq ?_
        refine c_region ?_
        refine l_op (o_val (r_ldA (C := [V64 t.serial, .string ⟨(t.tenant).toArray⟩, V8 t.rights, VI t.from_, VI t.until_, t.cs.v] ++ (t.tag).map V8) H (i := 1) rfl rfl rt76 (by rw [List.length_append, List.length_map, (show (t.tag).length = 32 from htag)]; rfl)) ?_)
        refine l_op (o_callR Try.func72 rfl rfl rfl (effect_ret _ t (hc.up H) (show (t.tag).length = 32 from htag)) ?_)
        rintro _ w ⟨rfl, Hc⟩
        replace H : Hp _ w _ ([_, _, _, _, _]) := H.call Hc
        clear Hc
        refine l_op (o_val (r_mv) ?_)
        refine l_op (o_val (r_ext rfl rfl) ?_)
        refine l_op (o_val (r_ext rfl rfl) ?_)
        refine l_op (o_val (r_as) ?_)
        refine l_op (o_val (r_as) ?_)
        first | refine l_end ?_ | refine l_nil ?_
        repeat refine c_seq ?_
        refine c_region ?_
        refine l_op (o_val (r_mv) ?_)
        refine l_op (o_val (r_fa rfl fo76_3) ?_)
        refine l_op (o_val (r_ld (v := VI t.from_) H (i := 1) rfl rfl ct2 rfl) ?_)
        refine l_op (o_val (r_bin (a := now) (b := t.from_) rfl rfl (fun _ => b_lss)) ?_)
        refine l_op (o_val (r_mv) ?_)
        by_cases hc12 : now < t.from_
        ·
         refine l_no rfl rfl (by exact congrArg Value.bool (decide_eq_true hc12)) rfl ?_
         refine l_no rfl rfl (by exact congrArg Value.bool (decide_eq_true hc12)) rfl ?_
         refine l_no rfl rfl (by exact congrArg Value.bool (decide_eq_true hc12)) rfl ?_
         refine l_op (o_val (r_pick (b := true) (congrArg Value.bool (decide_eq_true hc12))) ?_)
         first | refine l_end ?_ | refine l_nil ?_
         repeat refine c_seq ?_
         refine c_yes rfl ?_
         repeat refine c_seq ?_
         refine c_region ?_
         refine l_op (o_val (r_as) ?_)
         first | refine l_end ?_ | refine l_nil ?_
         refine c_ret ?_
         try dsimp only [Exit.then, Exit.inBlock]
         refine e_ret1 (v := VI 14) Try.results77 rfl ?_
         refine ⟨_, rfl, ?_⟩
         refine ⟨?_, H.sub (List.nil_sublist _)⟩
         rw [checkT, if_neg (by rw [hc3]; decide), if_neg (not_not_intro hc11), if_pos (by omega)]
        ·
         refine l_yes rfl rfl (by exact congrArg Value.bool (decide_eq_false hc12)) (o_val (r_mv) ?_)
         refine l_yes rfl rfl (by exact congrArg Value.bool (decide_eq_false hc12)) (o_val (r_mv) ?_)
         refine l_yes rfl rfl (by exact congrArg Value.bool (decide_eq_false hc12)) (o_val (r_bin (a := now) (b := (effF (t.rights) (t.until_) t.cs.l).2) rfl rfl (fun _ => b_geq)) ?_)
         refine l_op (o_val (r_pick (b := false) (congrArg Value.bool (decide_eq_false hc12))) ?_)
         first | refine l_end ?_ | refine l_nil ?_
         by_cases hc13 : (effF (t.rights) (t.until_) t.cs.l).2 ≤ now
         ·
          repeat refine c_seq ?_
          refine c_yes (by exact congrArg Value.bool (decide_eq_true hc13)) ?_
          repeat refine c_seq ?_
          refine c_region ?_
          refine l_op (o_val (r_as) ?_)
          first | refine l_end ?_ | refine l_nil ?_
          refine c_ret ?_
          try dsimp only [Exit.then, Exit.inBlock]
          refine e_ret1 (v := VI 14) Try.results77 rfl ?_
          refine ⟨_, rfl, ?_⟩
          refine ⟨?_, H.sub (List.nil_sublist _)⟩
          rw [checkT, if_neg (by rw [hc3]; decide), if_neg (not_not_intro hc11), if_pos (by omega)]
         ·
          repeat refine c_seq ?_
          refine c_no (by exact congrArg Value.bool (decide_eq_false hc13)) ?_
          refine c_skip ?_
          repeat refine c_seq ?_
          refine c_region ?_
          refine l_op (o_val (r_as) ?_)
          first | refine l_end ?_ | refine l_nil ?_
          refine c_ret ?_
          try dsimp only [Exit.then, Exit.inBlock]
          refine e_ret1 (v := VI 0) Try.results77 rfl ?_
          refine ⟨_, rfl, ?_⟩
          refine ⟨?_, H.sub (List.nil_sublist _)⟩
          rw [checkT, if_neg (by rw [hc3]; decide), if_neg (not_not_intro hc11), if_neg (by omega)]
       ·
        repeat refine c_seq ?_
        refine c_yes (by exact congrArg Value.bool (congrArg not (decide_eq_false hc11))) ?_
        repeat refine c_seq ?_
        refine c_region ?_
        refine l_op (o_val (r_as) ?_)
        first | refine l_end ?_ | refine l_nil ?_
        refine c_ret ?_
        try dsimp only [Exit.then, Exit.inBlock]
        refine e_ret1 (v := VI 13) Try.results77 rfl ?_
        refine ⟨_, rfl, ?_⟩
        refine ⟨?_, H.sub (List.nil_sublist _)⟩
        rw [checkT, if_neg (by rw [hc3]; decide), if_pos hc11]
      ·
       refine (o_alloc H zc31 (fun b14 w H hb14 => ?_))
       replace H : Hp _ w _ ([_, _, _, _, .blk b14 ((List.replicate 32 (0 : UInt8)).map V8) 31]) := H
       refine ⟨H.sub (.cons_cons _ (.cons_cons _ (List.nil_sublist _))), ?_⟩
       replace HS := H.sub (.cons_cons _ (.cons_cons _ (List.nil_sublist _)))
       refine t_step 7 rfl (by kernel_rfl) (o_callR Try.func118 rfl rfl rfl (on_ret _ (hmac (key) (framed [t.head])) (show (hmac (key) (framed [t.head])).length = 32 from hmac_len _ _) t.cs (hc.up H)) ?_)
       rintro _ w ⟨rfl, Hc⟩
       replace H : Hp _ w _ ([_, _, _, _, _]) := H.call Hc
       clear Hc
       refine ⟨H.sub (.cons_cons _ (.cons_cons _ (List.nil_sublist _))), ?_⟩
       replace HS := H.sub (.cons_cons _ (.cons_cons _ (List.nil_sublist _)))
       refine t_step 9 rfl (by kernel_rfl) (o_stA (l' := onF (hmac (key) (framed [t.head])) (t.cs.l)) H (i := 4) rfl rfl rfl cs31 (show (List.replicate 32 (0 : UInt8)).length = 32 from (List.length_replicate ..)) (show (onF (hmac (key) (framed [t.head])) (t.cs.l)).length = 32 from onF_len _ (show (hmac (key) (framed [t.head])).length = 32 from hmac_len _ _) _) (fun w H => ?_))
       replace H : Hp _ w _ ([_, _, _, _, .blk b14 ((onF (hmac (key) (framed [t.head])) (t.cs.l)).map V8) 31]) := H
       refine ⟨H.sub (.cons_cons _ (.cons_cons _ (List.nil_sublist _))), ?_⟩
       replace HS := H.sub (.cons_cons _ (.cons_cons _ (List.nil_sublist _)))
       refine t_done (by kernel_rfl) ?_
       clear HS
       repeat refine c_seq ?_
       refine wp_held (fun w => Hp w0 w [] [.blk b1 ((key).map V8) 31, .blk b2 ([V64 t.serial, .string ⟨(t.tenant).toArray⟩, V8 t.rights, VI t.from_, VI t.until_, t.cs.v] ++ (t.tag).map V8) 76, .own a4 n5 c6 ((t.head).map V8) 5 1, .own (some b9) 1 1 ([.slice (hd a4) n5 c6]) 29 1, .blk b14 ((onF (hmac (key) (framed [t.head])) (t.cs.l)).map V8) 31]) mixed ?_
       replace H := H.drew
       have HS := H
       refine t_take 0 rfl (by kernel_rfl) (by kernel_rfl) (by kernel_rfl) (fun _ _ _ h => h) (fun w HS => r_slA (h := 32) (m := 32) (lv := none) (hv := none) (mv := none) rfl ar31 rfl rfl rfl (fun w => sbn w)) HS ?_
       refine t_take 1 rfl (by kernel_rfl) (by kernel_rfl) (by kernel_rfl) (fun _ _ _ h => h) (fun w HS => r_fa rfl fo76_6) HS ?_
       refine t_take 2 rfl (by kernel_rfl) (by kernel_rfl) (by kernel_rfl) (fun _ _ _ h => h) (fun w HS => r_slAo (o := 6) (h := 32) (m := 32) (lv := none) (hv := none) (mv := none) rfl ar31 rfl rfl rfl (fun w => sbn w)) HS ?_
       refine t_step 3 rfl (by kernel_rfl) (o_callR Try.func48 rfl rfl rfl (equal_ret _ (⟨some ⟨b14, 0, none⟩, 32, 32, onF (hmac (key) (framed [t.head])) (t.cs.l)⟩ : Sl) (⟨some ⟨b2, 6, none⟩, 32, 32, t.tag⟩ : Sl) (H.slBlkA (i := 4) rfl 32 (show (onF (hmac (key) (framed [t.head])) (t.cs.l)).length = 32 from onF_len _ (show (hmac (key) (framed [t.head])).length = 32 from hmac_len _ _) _) (by decide)) (H.slTail (i := 1) (o := 6) (pre := [V64 t.serial, .string ⟨(t.tenant).toArray⟩, V8 t.rights, VI t.from_, VI t.until_, t.cs.v]) rfl rfl (show (t.tag).length = 32 from htag) (by decide))) ?_)
       rintro _ w ⟨rfl, Hc⟩
       replace H : Hp _ w _ ([_, _, _, _, _]) := H.call Hc
       clear Hc
       refine ⟨H, ?_⟩
       replace HS := H
       refine t_take 4 rfl (by kernel_rfl) (by kernel_rfl) (by kernel_rfl) (fun _ _ _ h => h) (fun w HS => r_not rfl) HS ?_
       refine t_done (by kernel_rfl) ?_
       clear HS
       by_cases hc15 : onF (hmac (key) (framed [t.head])) (t.cs.l) = t.tag
       ·
        repeat refine c_seq ?_
        refine c_no (by exact congrArg Value.bool (congrArg not (decide_eq_true hc15))) ?_
        refine c_skip ?_
        repeat refine c_seq ?_
        refine c_region ?_
        refine l_op (o_val (r_ldA (C := [V64 t.serial, .string ⟨(t.tenant).toArray⟩, V8 t.rights, VI t.from_, VI t.until_, t.cs.v] ++ (t.tag).map V8) H (i := 1) rfl rfl rt76 (by rw [List.length_append, List.length_map, (show (t.tag).length = 32 from htag)]; rfl)) ?_)
        refine l_op (o_callR Try.func72 rfl rfl rfl (effect_ret _ t (hc.up H) (show (t.tag).length = 32 from htag)) ?_)
        rintro _ w ⟨rfl, Hc⟩
        replace H : Hp _ w _ ([_, _, _, _, _]) := H.call Hc
        clear Hc
        refine l_op (o_val (r_mv) ?_)
        refine l_op (o_val (r_ext rfl rfl) ?_)
        refine l_op (o_val (r_ext rfl rfl) ?_)
        refine l_op (o_val (r_as) ?_)
        refine l_op (o_val (r_as) ?_)
        first | refine l_end ?_ | refine l_nil ?_
        repeat refine c_seq ?_
        refine c_region ?_
        refine l_op (o_val (r_mv) ?_)
        refine l_op (o_val (r_fa rfl fo76_3) ?_)
        refine l_op (o_val (r_ld (v := VI t.from_) H (i := 1) rfl rfl ct2 rfl) ?_)
        refine l_op (o_val (r_bin (a := now) (b := t.from_) rfl rfl (fun _ => b_lss)) ?_)
        refine l_op (o_val (r_mv) ?_)
        by_cases hc16 : now < t.from_
        ·
         refine l_no rfl rfl (by exact congrArg Value.bool (decide_eq_true hc16)) rfl ?_
         refine l_no rfl rfl (by exact congrArg Value.bool (decide_eq_true hc16)) rfl ?_
         refine l_no rfl rfl (by exact congrArg Value.bool (decide_eq_true hc16)) rfl ?_
         refine l_op (o_val (r_pick (b := true) (congrArg Value.bool (decide_eq_true hc16))) ?_)
         first | refine l_end ?_ | refine l_nil ?_
         repeat refine c_seq ?_
         refine c_yes rfl ?_
         repeat refine c_seq ?_
         refine c_region ?_
         refine l_op (o_val (r_as) ?_)
         first | refine l_end ?_ | refine l_nil ?_
         refine c_ret ?_
         try dsimp only [Exit.then, Exit.inBlock]
         refine e_ret1 (v := VI 14) Try.results77 rfl ?_
         refine ⟨_, rfl, ?_⟩
         refine ⟨?_, H.sub (List.nil_sublist _)⟩
         rw [checkT, if_neg (by rw [hc3]; decide), if_neg (not_not_intro hc15), if_pos (by omega)]
        ·
         refine l_yes rfl rfl (by exact congrArg Value.bool (decide_eq_false hc16)) (o_val (r_mv) ?_)
         refine l_yes rfl rfl (by exact congrArg Value.bool (decide_eq_false hc16)) (o_val (r_mv) ?_)
         refine l_yes rfl rfl (by exact congrArg Value.bool (decide_eq_false hc16)) (o_val (r_bin (a := now) (b := (effF (t.rights) (t.until_) t.cs.l).2) rfl rfl (fun _ => b_geq)) ?_)
         refine l_op (o_val (r_pick (b := false) (congrArg Value.bool (decide_eq_false hc16))) ?_)
         first | refine l_end ?_ | refine l_nil ?_
         by_cases hc17 : (effF (t.rights) (t.until_) t.cs.l).2 ≤ now
         ·
          repeat refine c_seq ?_
          refine c_yes (by exact congrArg Value.bool (decide_eq_true hc17)) ?_
          repeat refine c_seq ?_
          refine c_region ?_
          refine l_op (o_val (r_as) ?_)
          first | refine l_end ?_ | refine l_nil ?_
          refine c_ret ?_
          try dsimp only [Exit.then, Exit.inBlock]
          refine e_ret1 (v := VI 14) Try.results77 rfl ?_
          refine ⟨_, rfl, ?_⟩
          refine ⟨?_, H.sub (List.nil_sublist _)⟩
          rw [checkT, if_neg (by rw [hc3]; decide), if_neg (not_not_intro hc15), if_pos (by omega)]
         ·
          repeat refine c_seq ?_
          refine c_no (by exact congrArg Value.bool (decide_eq_false hc17)) ?_
          refine c_skip ?_
          repeat refine c_seq ?_
          refine c_region ?_
          refine l_op (o_val (r_as) ?_)
          first | refine l_end ?_ | refine l_nil ?_
          refine c_ret ?_
          try dsimp only [Exit.then, Exit.inBlock]
          refine e_ret1 (v := VI 0) Try.results77 rfl ?_
          refine ⟨_, rfl, ?_⟩
          refine ⟨?_, H.sub (List.nil_sublist _)⟩
          rw [checkT, if_neg (by rw [hc3]; decide), if_neg (not_not_intro hc15), if_neg (by omega)]
       ·
        repeat refine c_seq ?_
        refine c_yes (by exact congrArg Value.bool (congrArg not (decide_eq_false hc15))) ?_
        repeat refine c_seq ?_
        refine c_region ?_
        refine l_op (o_val (r_as) ?_)
        first | refine l_end ?_ | refine l_nil ?_
        refine c_ret ?_
        try dsimp only [Exit.then, Exit.inBlock]
        refine e_ret1 (v := VI 13) Try.results77 rfl ?_
        refine ⟨_, rfl, ?_⟩
        refine ⟨?_, H.sub (List.nil_sublist _)⟩
        rw [checkT, if_neg (by rw [hc3]; decide), if_pos hc15]
     ·
      refine (o_alloc H zc31 (fun b18 w H hb18 => ?_))
      replace H : Hp _ w _ ([_, _, _, _, .blk b18 ((List.replicate 32 (0 : UInt8)).map V8) 31]) := H
      refine ⟨H.sub (.cons_cons _ (.cons_cons _ (List.nil_sublist _))), ?_⟩
      replace HS := H.sub (.cons_cons _ (.cons_cons _ (List.nil_sublist _)))
      refine t_step 4 rfl (by kernel_rfl) (o_callR Try.func52 rfl rfl rfl (macOf_ret _ (⟨some ⟨b1, 0, none⟩, 32, 32, key⟩ : Sl) (H.slBlkA (i := 0) rfl 32 (show (key).length = 32 from hk) (by decide)) (hd (some b9)) 1 1 [⟨hd a4, n5, c6, t.head⟩] (H.own (i := 3) rfl) rfl (all1 (H.slOwn (i := 2) rfl)) (by omega) (by simp [framed, be_len]; omega)) ?_)
      rintro _ w ⟨rfl, Hc⟩
      replace H : Hp _ w _ ([_, _, _, _, _]) := H.call Hc
      clear Hc
      refine ⟨H.sub (.cons_cons _ (.cons_cons _ (List.nil_sublist _))), ?_⟩
      replace HS := H.sub (.cons_cons _ (.cons_cons _ (List.nil_sublist _)))
      refine t_step 7 rfl (by kernel_rfl) (o_callR Try.func118 rfl rfl rfl (on_ret _ (hmac (key) (framed [t.head])) (show (hmac (key) (framed [t.head])).length = 32 from hmac_len _ _) t.cs (hc.up H)) ?_)
      rintro _ w ⟨rfl, Hc⟩
      replace H : Hp _ w _ ([_, _, _, _, _]) := H.call Hc
      clear Hc
      refine ⟨H.sub (.cons_cons _ (.cons_cons _ (List.nil_sublist _))), ?_⟩
      replace HS := H.sub (.cons_cons _ (.cons_cons _ (List.nil_sublist _)))
      refine t_step 9 rfl (by kernel_rfl) (o_stA (l' := onF (hmac (key) (framed [t.head])) (t.cs.l)) H (i := 4) rfl rfl rfl cs31 (show (List.replicate 32 (0 : UInt8)).length = 32 from (List.length_replicate ..)) (show (onF (hmac (key) (framed [t.head])) (t.cs.l)).length = 32 from onF_len _ (show (hmac (key) (framed [t.head])).length = 32 from hmac_len _ _) _) (fun w H => ?_))
      replace H : Hp _ w _ ([_, _, _, _, .blk b18 ((onF (hmac (key) (framed [t.head])) (t.cs.l)).map V8) 31]) := H
      refine ⟨H.sub (.cons_cons _ (.cons_cons _ (List.nil_sublist _))), ?_⟩
      replace HS := H.sub (.cons_cons _ (.cons_cons _ (List.nil_sublist _)))
      refine t_done (by kernel_rfl) ?_
      clear HS
      repeat refine c_seq ?_
      refine wp_held (fun w => Hp w0 w [] [.blk b1 ((key).map V8) 31, .blk b2 ([V64 t.serial, .string ⟨(t.tenant).toArray⟩, V8 t.rights, VI t.from_, VI t.until_, t.cs.v] ++ (t.tag).map V8) 76, .own a4 n5 c6 ((t.head).map V8) 5 1, .own (some b9) 1 1 ([.slice (hd a4) n5 c6]) 29 1, .blk b18 ((onF (hmac (key) (framed [t.head])) (t.cs.l)).map V8) 31]) mixed ?_
      replace H := H.drew
      have HS := H
      refine t_take 0 rfl (by kernel_rfl) (by kernel_rfl) (by kernel_rfl) (fun _ _ _ h => h) (fun w HS => r_slA (h := 32) (m := 32) (lv := none) (hv := none) (mv := none) rfl ar31 rfl rfl rfl (fun w => sbn w)) HS ?_
      refine t_take 1 rfl (by kernel_rfl) (by kernel_rfl) (by kernel_rfl) (fun _ _ _ h => h) (fun w HS => r_fa rfl fo76_6) HS ?_
      refine t_take 2 rfl (by kernel_rfl) (by kernel_rfl) (by kernel_rfl) (fun _ _ _ h => h) (fun w HS => r_slAo (o := 6) (h := 32) (m := 32) (lv := none) (hv := none) (mv := none) rfl ar31 rfl rfl rfl (fun w => sbn w)) HS ?_
      refine t_step 3 rfl (by kernel_rfl) (o_callR Try.func48 rfl rfl rfl (equal_ret _ (⟨some ⟨b18, 0, none⟩, 32, 32, onF (hmac (key) (framed [t.head])) (t.cs.l)⟩ : Sl) (⟨some ⟨b2, 6, none⟩, 32, 32, t.tag⟩ : Sl) (H.slBlkA (i := 4) rfl 32 (show (onF (hmac (key) (framed [t.head])) (t.cs.l)).length = 32 from onF_len _ (show (hmac (key) (framed [t.head])).length = 32 from hmac_len _ _) _) (by decide)) (H.slTail (i := 1) (o := 6) (pre := [V64 t.serial, .string ⟨(t.tenant).toArray⟩, V8 t.rights, VI t.from_, VI t.until_, t.cs.v]) rfl rfl (show (t.tag).length = 32 from htag) (by decide))) ?_)
      rintro _ w ⟨rfl, Hc⟩
      replace H : Hp _ w _ ([_, _, _, _, _]) := H.call Hc
      clear Hc
      refine ⟨H, ?_⟩
      replace HS := H
      refine t_take 4 rfl (by kernel_rfl) (by kernel_rfl) (by kernel_rfl) (fun _ _ _ h => h) (fun w HS => r_not rfl) HS ?_
      refine t_done (by kernel_rfl) ?_
      clear HS
      by_cases hc19 : onF (hmac (key) (framed [t.head])) (t.cs.l) = t.tag
      ·
       repeat refine c_seq ?_
       refine c_no (by exact congrArg Value.bool (congrArg not (decide_eq_true hc19))) ?_
       refine c_skip ?_
       repeat refine c_seq ?_
       refine c_region ?_
       refine l_op (o_val (r_ldA (C := [V64 t.serial, .string ⟨(t.tenant).toArray⟩, V8 t.rights, VI t.from_, VI t.until_, t.cs.v] ++ (t.tag).map V8) H (i := 1) rfl rfl rt76 (by rw [List.length_append, List.length_map, (show (t.tag).length = 32 from htag)]; rfl)) ?_)
       refine l_op (o_callR Try.func72 rfl rfl rfl (effect_ret _ t (hc.up H) (show (t.tag).length = 32 from htag)) ?_)
       rintro _ w ⟨rfl, Hc⟩
       replace H : Hp _ w _ ([_, _, _, _, _]) := H.call Hc
       clear Hc
       refine l_op (o_val (r_mv) ?_)
       refine l_op (o_val (r_ext rfl rfl) ?_)
       refine l_op (o_val (r_ext rfl rfl) ?_)
       refine l_op (o_val (r_as) ?_)
       refine l_op (o_val (r_as) ?_)
       first | refine l_end ?_ | refine l_nil ?_
       repeat refine c_seq ?_
       refine c_region ?_
       refine l_op (o_val (r_mv) ?_)
       refine l_op (o_val (r_fa rfl fo76_3) ?_)
       refine l_op (o_val (r_ld (v := VI t.from_) H (i := 1) rfl rfl ct2 rfl) ?_)
       refine l_op (o_val (r_bin (a := now) (b := t.from_) rfl rfl (fun _ => b_lss)) ?_)
       refine l_op (o_val (r_mv) ?_)
       by_cases hc20 : now < t.from_
       ·
        refine l_no rfl rfl (by exact congrArg Value.bool (decide_eq_true hc20)) rfl ?_
        refine l_no rfl rfl (by exact congrArg Value.bool (decide_eq_true hc20)) rfl ?_
        refine l_no rfl rfl (by exact congrArg Value.bool (decide_eq_true hc20)) rfl ?_
        refine l_op (o_val (r_pick (b := true) (congrArg Value.bool (decide_eq_true hc20))) ?_)
        first | refine l_end ?_ | refine l_nil ?_
        repeat refine c_seq ?_
        refine c_yes rfl ?_
        repeat refine c_seq ?_
        refine c_region ?_
        refine l_op (o_val (r_as) ?_)
        first | refine l_end ?_ | refine l_nil ?_
        refine c_ret ?_
        try dsimp only [Exit.then, Exit.inBlock]
        refine e_ret1 (v := VI 14) Try.results77 rfl ?_
        refine ⟨_, rfl, ?_⟩
        refine ⟨?_, H.sub (List.nil_sublist _)⟩
        rw [checkT, if_neg (by rw [hc3]; decide), if_neg (not_not_intro hc19), if_pos (by omega)]
       ·
        refine l_yes rfl rfl (by exact congrArg Value.bool (decide_eq_false hc20)) (o_val (r_mv) ?_)
        refine l_yes rfl rfl (by exact congrArg Value.bool (decide_eq_false hc20)) (o_val (r_mv) ?_)
        refine l_yes rfl rfl (by exact congrArg Value.bool (decide_eq_false hc20)) (o_val (r_bin (a := now) (b := (effF (t.rights) (t.until_) t.cs.l).2) rfl rfl (fun _ => b_geq)) ?_)
        refine l_op (o_val (r_pick (b := false) (congrArg Value.bool (decide_eq_false hc20))) ?_)
        first | refine l_end ?_ | refine l_nil ?_
        by_cases hc21 : (effF (t.rights) (t.until_) t.cs.l).2 ≤ now
        ·
         repeat refine c_seq ?_
         refine c_yes (by exact congrArg Value.bool (decide_eq_true hc21)) ?_
         repeat refine c_seq ?_
         refine c_region ?_
         refine l_op (o_val (r_as) ?_)
         first | refine l_end ?_ | refine l_nil ?_
         refine c_ret ?_
         try dsimp only [Exit.then, Exit.inBlock]
         refine e_ret1 (v := VI 14) Try.results77 rfl ?_
         refine ⟨_, rfl, ?_⟩
         refine ⟨?_, H.sub (List.nil_sublist _)⟩
         rw [checkT, if_neg (by rw [hc3]; decide), if_neg (not_not_intro hc19), if_pos (by omega)]
        ·
         repeat refine c_seq ?_
         refine c_no (by exact congrArg Value.bool (decide_eq_false hc21)) ?_
         refine c_skip ?_
         repeat refine c_seq ?_
         refine c_region ?_
         refine l_op (o_val (r_as) ?_)
         first | refine l_end ?_ | refine l_nil ?_
         refine c_ret ?_
         try dsimp only [Exit.then, Exit.inBlock]
         refine e_ret1 (v := VI 0) Try.results77 rfl ?_
         refine ⟨_, rfl, ?_⟩
         refine ⟨?_, H.sub (List.nil_sublist _)⟩
         rw [checkT, if_neg (by rw [hc3]; decide), if_neg (not_not_intro hc19), if_neg (by omega)]
      ·
       repeat refine c_seq ?_
       refine c_yes (by exact congrArg Value.bool (congrArg not (decide_eq_false hc19))) ?_
       repeat refine c_seq ?_
       refine c_region ?_
       refine l_op (o_val (r_as) ?_)
       first | refine l_end ?_ | refine l_nil ?_
       refine c_ret ?_
       try dsimp only [Exit.then, Exit.inBlock]
       refine e_ret1 (v := VI 13) Try.results77 rfl ?_
       refine ⟨_, rfl, ?_⟩
       refine ⟨?_, H.sub (List.nil_sublist _)⟩
       rw [checkT, if_neg (by rw [hc3]; decide), if_pos hc19]
    ·
     refine (o_alloc H zc31 (fun b22 w H hb22 => ?_))
     replace H : Hp _ w _ ([_, _, _, .blk b22 ((List.replicate 32 (0 : UInt8)).map V8) 31]) := H
     refine ⟨H.sub (.cons_cons _ (.cons_cons _ (List.nil_sublist _))), ?_⟩
     replace HS := H.sub (.cons_cons _ (.cons_cons _ (List.nil_sublist _)))
     refine t_step 3 rfl (by kernel_rfl) (o_bslV ([.slice (hd a4) n5 c6]) H sl22 zc29 rfl (by simp [Value.oneCell']) rfl (by decide) (fun b23 w H hb23 => ?_))
     replace H : Hp _ w _ ([_, _, _, _, .own (some b23) 1 1 ([.slice (hd a4) n5 c6]) 29 1]) := H
     refine ⟨H.sub (.cons_cons _ (.cons_cons _ (List.nil_sublist _))), ?_⟩
     replace HS := H.sub (.cons_cons _ (.cons_cons _ (List.nil_sublist _)))
     refine t_step 4 rfl (by kernel_rfl) (o_callR Try.func52 rfl rfl rfl (macOf_ret _ (⟨some ⟨b1, 0, none⟩, 32, 32, key⟩ : Sl) (H.slBlkA (i := 0) rfl 32 (show (key).length = 32 from hk) (by decide)) (hd (some b23)) 1 1 [⟨hd a4, n5, c6, t.head⟩] (H.own (i := 4) rfl) rfl (all1 (H.slOwn (i := 2) rfl)) (by omega) (by simp [framed, be_len]; omega)) ?_)
     rintro _ w ⟨rfl, Hc⟩
     replace H : Hp _ w _ ([_, _, _, _, _]) := H.call Hc
     clear Hc
     refine ⟨H.sub (.cons_cons _ (.cons_cons _ (List.nil_sublist _))), ?_⟩
     replace HS := H.sub (.cons_cons _ (.cons_cons _ (List.nil_sublist _)))
     refine t_step 7 rfl (by kernel_rfl) (o_callR Try.func118 rfl rfl rfl (on_ret _ (hmac (key) (framed [t.head])) (show (hmac (key) (framed [t.head])).length = 32 from hmac_len _ _) t.cs (hc.up H)) ?_)
     rintro _ w ⟨rfl, Hc⟩
     replace H : Hp _ w _ ([_, _, _, _, _]) := H.call Hc
     clear Hc
     refine ⟨H.sub (.cons_cons _ (.cons_cons _ (List.nil_sublist _))), ?_⟩
     replace HS := H.sub (.cons_cons _ (.cons_cons _ (List.nil_sublist _)))
     refine t_step 9 rfl (by kernel_rfl) (o_stA (l' := onF (hmac (key) (framed [t.head])) (t.cs.l)) H (i := 3) rfl rfl rfl cs31 (show (List.replicate 32 (0 : UInt8)).length = 32 from (List.length_replicate ..)) (show (onF (hmac (key) (framed [t.head])) (t.cs.l)).length = 32 from onF_len _ (show (hmac (key) (framed [t.head])).length = 32 from hmac_len _ _) _) (fun w H => ?_))
     replace H : Hp _ w _ ([_, _, _, .blk b22 ((onF (hmac (key) (framed [t.head])) (t.cs.l)).map V8) 31, _]) := H
     refine ⟨H.sub (.cons_cons _ (.cons_cons _ (List.nil_sublist _))), ?_⟩
     replace HS := H.sub (.cons_cons _ (.cons_cons _ (List.nil_sublist _)))
     refine t_done (by kernel_rfl) ?_
     clear HS
     repeat refine c_seq ?_
     refine wp_held (fun w => Hp w0 w [] [.blk b1 ((key).map V8) 31, .blk b2 ([V64 t.serial, .string ⟨(t.tenant).toArray⟩, V8 t.rights, VI t.from_, VI t.until_, t.cs.v] ++ (t.tag).map V8) 76, .own a4 n5 c6 ((t.head).map V8) 5 1, .blk b22 ((onF (hmac (key) (framed [t.head])) (t.cs.l)).map V8) 31, .own (some b23) 1 1 ([.slice (hd a4) n5 c6]) 29 1]) mixed ?_
     replace H := H.drew
     have HS := H
     refine t_take 0 rfl (by kernel_rfl) (by kernel_rfl) (by kernel_rfl) (fun _ _ _ h => h) (fun w HS => r_slA (h := 32) (m := 32) (lv := none) (hv := none) (mv := none) rfl ar31 rfl rfl rfl (fun w => sbn w)) HS ?_
     refine t_take 1 rfl (by kernel_rfl) (by kernel_rfl) (by kernel_rfl) (fun _ _ _ h => h) (fun w HS => r_fa rfl fo76_6) HS ?_
     refine t_take 2 rfl (by kernel_rfl) (by kernel_rfl) (by kernel_rfl) (fun _ _ _ h => h) (fun w HS => r_slAo (o := 6) (h := 32) (m := 32) (lv := none) (hv := none) (mv := none) rfl ar31 rfl rfl rfl (fun w => sbn w)) HS ?_
     refine t_step 3 rfl (by kernel_rfl) (o_callR Try.func48 rfl rfl rfl (equal_ret _ (⟨some ⟨b22, 0, none⟩, 32, 32, onF (hmac (key) (framed [t.head])) (t.cs.l)⟩ : Sl) (⟨some ⟨b2, 6, none⟩, 32, 32, t.tag⟩ : Sl) (H.slBlkA (i := 3) rfl 32 (show (onF (hmac (key) (framed [t.head])) (t.cs.l)).length = 32 from onF_len _ (show (hmac (key) (framed [t.head])).length = 32 from hmac_len _ _) _) (by decide)) (H.slTail (i := 1) (o := 6) (pre := [V64 t.serial, .string ⟨(t.tenant).toArray⟩, V8 t.rights, VI t.from_, VI t.until_, t.cs.v]) rfl rfl (show (t.tag).length = 32 from htag) (by decide))) ?_)
     rintro _ w ⟨rfl, Hc⟩
     replace H : Hp _ w _ ([_, _, _, _, _]) := H.call Hc
     clear Hc
     refine ⟨H, ?_⟩
     replace HS := H
     refine t_take 4 rfl (by kernel_rfl) (by kernel_rfl) (by kernel_rfl) (fun _ _ _ h => h) (fun w HS => r_not rfl) HS ?_
     refine t_done (by kernel_rfl) ?_
     clear HS
     by_cases hc24 : onF (hmac (key) (framed [t.head])) (t.cs.l) = t.tag
     ·
      repeat refine c_seq ?_
      refine c_no (by exact congrArg Value.bool (congrArg not (decide_eq_true hc24))) ?_
      refine c_skip ?_
      repeat refine c_seq ?_
      refine c_region ?_
      refine l_op (o_val (r_ldA (C := [V64 t.serial, .string ⟨(t.tenant).toArray⟩, V8 t.rights, VI t.from_, VI t.until_, t.cs.v] ++ (t.tag).map V8) H (i := 1) rfl rfl rt76 (by rw [List.length_append, List.length_map, (show (t.tag).length = 32 from htag)]; rfl)) ?_)
      refine l_op (o_callR Try.func72 rfl rfl rfl (effect_ret _ t (hc.up H) (show (t.tag).length = 32 from htag)) ?_)
      rintro _ w ⟨rfl, Hc⟩
      replace H : Hp _ w _ ([_, _, _, _, _]) := H.call Hc
      clear Hc
      refine l_op (o_val (r_mv) ?_)
      refine l_op (o_val (r_ext rfl rfl) ?_)
      refine l_op (o_val (r_ext rfl rfl) ?_)
      refine l_op (o_val (r_as) ?_)
      refine l_op (o_val (r_as) ?_)
      first | refine l_end ?_ | refine l_nil ?_
      repeat refine c_seq ?_
      refine c_region ?_
      refine l_op (o_val (r_mv) ?_)
      refine l_op (o_val (r_fa rfl fo76_3) ?_)
      refine l_op (o_val (r_ld (v := VI t.from_) H (i := 1) rfl rfl ct2 rfl) ?_)
      refine l_op (o_val (r_bin (a := now) (b := t.from_) rfl rfl (fun _ => b_lss)) ?_)
      refine l_op (o_val (r_mv) ?_)
      by_cases hc25 : now < t.from_
      ·
       refine l_no rfl rfl (by exact congrArg Value.bool (decide_eq_true hc25)) rfl ?_
       refine l_no rfl rfl (by exact congrArg Value.bool (decide_eq_true hc25)) rfl ?_
       refine l_no rfl rfl (by exact congrArg Value.bool (decide_eq_true hc25)) rfl ?_
       refine l_op (o_val (r_pick (b := true) (congrArg Value.bool (decide_eq_true hc25))) ?_)
       first | refine l_end ?_ | refine l_nil ?_
       repeat refine c_seq ?_
       refine c_yes rfl ?_
       repeat refine c_seq ?_
       refine c_region ?_
       refine l_op (o_val (r_as) ?_)
       first | refine l_end ?_ | refine l_nil ?_
       refine c_ret ?_
       try dsimp only [Exit.then, Exit.inBlock]
       refine e_ret1 (v := VI 14) Try.results77 rfl ?_
       refine ⟨_, rfl, ?_⟩
       refine ⟨?_, H.sub (List.nil_sublist _)⟩
       rw [checkT, if_neg (by rw [hc3]; decide), if_neg (not_not_intro hc24), if_pos (by omega)]
      ·
       refine l_yes rfl rfl (by exact congrArg Value.bool (decide_eq_false hc25)) (o_val (r_mv) ?_)
       refine l_yes rfl rfl (by exact congrArg Value.bool (decide_eq_false hc25)) (o_val (r_mv) ?_)
       refine l_yes rfl rfl (by exact congrArg Value.bool (decide_eq_false hc25)) (o_val (r_bin (a := now) (b := (effF (t.rights) (t.until_) t.cs.l).2) rfl rfl (fun _ => b_geq)) ?_)
       refine l_op (o_val (r_pick (b := false) (congrArg Value.bool (decide_eq_false hc25))) ?_)
       first | refine l_end ?_ | refine l_nil ?_
       by_cases hc26 : (effF (t.rights) (t.until_) t.cs.l).2 ≤ now
       ·
        repeat refine c_seq ?_
        refine c_yes (by exact congrArg Value.bool (decide_eq_true hc26)) ?_
        repeat refine c_seq ?_
        refine c_region ?_
        refine l_op (o_val (r_as) ?_)
        first | refine l_end ?_ | refine l_nil ?_
        refine c_ret ?_
        try dsimp only [Exit.then, Exit.inBlock]
        refine e_ret1 (v := VI 14) Try.results77 rfl ?_
        refine ⟨_, rfl, ?_⟩
        refine ⟨?_, H.sub (List.nil_sublist _)⟩
        rw [checkT, if_neg (by rw [hc3]; decide), if_neg (not_not_intro hc24), if_pos (by omega)]
       ·
        repeat refine c_seq ?_
        refine c_no (by exact congrArg Value.bool (decide_eq_false hc26)) ?_
        refine c_skip ?_
        repeat refine c_seq ?_
        refine c_region ?_
        refine l_op (o_val (r_as) ?_)
        first | refine l_end ?_ | refine l_nil ?_
        refine c_ret ?_
        try dsimp only [Exit.then, Exit.inBlock]
        refine e_ret1 (v := VI 0) Try.results77 rfl ?_
        refine ⟨_, rfl, ?_⟩
        refine ⟨?_, H.sub (List.nil_sublist _)⟩
        rw [checkT, if_neg (by rw [hc3]; decide), if_neg (not_not_intro hc24), if_neg (by omega)]
     ·
      repeat refine c_seq ?_
      refine c_yes (by exact congrArg Value.bool (congrArg not (decide_eq_false hc24))) ?_
      repeat refine c_seq ?_
      refine c_region ?_
      refine l_op (o_val (r_as) ?_)
      first | refine l_end ?_ | refine l_nil ?_
      refine c_ret ?_
      try dsimp only [Exit.then, Exit.inBlock]
      refine e_ret1 (v := VI 13) Try.results77 rfl ?_
      refine ⟨_, rfl, ?_⟩
      refine ⟨?_, H.sub (List.nil_sublist _)⟩
      rw [checkT, if_neg (by rw [hc3]; decide), if_pos hc24]
   ·
    refine (o_alloc H zc31 (fun b27 w H hb27 => ?_))
    replace H : Hp _ w _ ([_, _, .blk b27 ((List.replicate 32 (0 : UInt8)).map V8) 31]) := H
    refine ⟨H.sub (.cons_cons _ (.cons_cons _ (List.nil_sublist _))), ?_⟩
    replace HS := H.sub (.cons_cons _ (.cons_cons _ (List.nil_sublist _)))
    refine t_step 2 rfl (by kernel_rfl) (o_callR Try.func115 rfl rfl rfl (head_ret _ t (hc.up H) (show (t.tag).length = 32 from htag) (by first | omega | (dsimp only; omega) | simp)) ?_)
    rintro _ w ⟨a28, n29, c30, rfl, hn31, hh32, Hc⟩
    replace H : Hp _ w _ ([_, _, _, .own a28 n29 c30 ((t.head).map V8) 5 1]) := H.call Hc
    clear Hc
    try dsimp only at hn31
    refine ⟨H.sub (.cons_cons _ (.cons_cons _ (List.nil_sublist _))), ?_⟩
    replace HS := H.sub (.cons_cons _ (.cons_cons _ (List.nil_sublist _)))
    refine t_step 3 rfl (by kernel_rfl) (o_bslV ([.slice (hd a28) n29 c30]) H sl22 zc29 rfl (by simp [Value.oneCell']) rfl (by decide) (fun b33 w H hb33 => ?_))
    replace H : Hp _ w _ ([_, _, _, _, .own (some b33) 1 1 ([.slice (hd a28) n29 c30]) 29 1]) := H
    refine ⟨H.sub (.cons_cons _ (.cons_cons _ (List.nil_sublist _))), ?_⟩
    replace HS := H.sub (.cons_cons _ (.cons_cons _ (List.nil_sublist _)))
    refine t_step 4 rfl (by kernel_rfl) (o_callR Try.func52 rfl rfl rfl (macOf_ret _ (⟨some ⟨b1, 0, none⟩, 32, 32, key⟩ : Sl) (H.slBlkA (i := 0) rfl 32 (show (key).length = 32 from hk) (by decide)) (hd (some b33)) 1 1 [⟨hd a28, n29, c30, t.head⟩] (H.own (i := 4) rfl) rfl (all1 (H.slOwn (i := 3) rfl)) (by omega) (by simp [framed, be_len]; omega)) ?_)
    rintro _ w ⟨rfl, Hc⟩
    replace H : Hp _ w _ ([_, _, _, _, _]) := H.call Hc
    clear Hc
    refine ⟨H.sub (.cons_cons _ (.cons_cons _ (List.nil_sublist _))), ?_⟩
    replace HS := H.sub (.cons_cons _ (.cons_cons _ (List.nil_sublist _)))
    refine t_step 7 rfl (by kernel_rfl) (o_callR Try.func118 rfl rfl rfl (on_ret _ (hmac (key) (framed [t.head])) (show (hmac (key) (framed [t.head])).length = 32 from hmac_len _ _) t.cs (hc.up H)) ?_)
    rintro _ w ⟨rfl, Hc⟩
    replace H : Hp _ w _ ([_, _, _, _, _]) := H.call Hc
    clear Hc
    refine ⟨H.sub (.cons_cons _ (.cons_cons _ (List.nil_sublist _))), ?_⟩
    replace HS := H.sub (.cons_cons _ (.cons_cons _ (List.nil_sublist _)))
    refine t_step 9 rfl (by kernel_rfl) (o_stA (l' := onF (hmac (key) (framed [t.head])) (t.cs.l)) H (i := 2) rfl rfl rfl cs31 (show (List.replicate 32 (0 : UInt8)).length = 32 from (List.length_replicate ..)) (show (onF (hmac (key) (framed [t.head])) (t.cs.l)).length = 32 from onF_len _ (show (hmac (key) (framed [t.head])).length = 32 from hmac_len _ _) _) (fun w H => ?_))
    replace H : Hp _ w _ ([_, _, .blk b27 ((onF (hmac (key) (framed [t.head])) (t.cs.l)).map V8) 31, _, _]) := H
    refine ⟨H.sub (.cons_cons _ (.cons_cons _ (List.nil_sublist _))), ?_⟩
    replace HS := H.sub (.cons_cons _ (.cons_cons _ (List.nil_sublist _)))
    refine t_done (by kernel_rfl) ?_
    clear HS
    repeat refine c_seq ?_
    refine wp_held (fun w => Hp w0 w [] [.blk b1 ((key).map V8) 31, .blk b2 ([V64 t.serial, .string ⟨(t.tenant).toArray⟩, V8 t.rights, VI t.from_, VI t.until_, t.cs.v] ++ (t.tag).map V8) 76, .blk b27 ((onF (hmac (key) (framed [t.head])) (t.cs.l)).map V8) 31, .own a28 n29 c30 ((t.head).map V8) 5 1, .own (some b33) 1 1 ([.slice (hd a28) n29 c30]) 29 1]) mixed ?_
    replace H := H.drew
    have HS := H
    refine t_take 0 rfl (by kernel_rfl) (by kernel_rfl) (by kernel_rfl) (fun _ _ _ h => h) (fun w HS => r_slA (h := 32) (m := 32) (lv := none) (hv := none) (mv := none) rfl ar31 rfl rfl rfl (fun w => sbn w)) HS ?_
    refine t_take 1 rfl (by kernel_rfl) (by kernel_rfl) (by kernel_rfl) (fun _ _ _ h => h) (fun w HS => r_fa rfl fo76_6) HS ?_
    refine t_take 2 rfl (by kernel_rfl) (by kernel_rfl) (by kernel_rfl) (fun _ _ _ h => h) (fun w HS => r_slAo (o := 6) (h := 32) (m := 32) (lv := none) (hv := none) (mv := none) rfl ar31 rfl rfl rfl (fun w => sbn w)) HS ?_
    refine t_step 3 rfl (by kernel_rfl) (o_callR Try.func48 rfl rfl rfl (equal_ret _ (⟨some ⟨b27, 0, none⟩, 32, 32, onF (hmac (key) (framed [t.head])) (t.cs.l)⟩ : Sl) (⟨some ⟨b2, 6, none⟩, 32, 32, t.tag⟩ : Sl) (H.slBlkA (i := 2) rfl 32 (show (onF (hmac (key) (framed [t.head])) (t.cs.l)).length = 32 from onF_len _ (show (hmac (key) (framed [t.head])).length = 32 from hmac_len _ _) _) (by decide)) (H.slTail (i := 1) (o := 6) (pre := [V64 t.serial, .string ⟨(t.tenant).toArray⟩, V8 t.rights, VI t.from_, VI t.until_, t.cs.v]) rfl rfl (show (t.tag).length = 32 from htag) (by decide))) ?_)
    rintro _ w ⟨rfl, Hc⟩
    replace H : Hp _ w _ ([_, _, _, _, _]) := H.call Hc
    clear Hc
    refine ⟨H, ?_⟩
    replace HS := H
    refine t_take 4 rfl (by kernel_rfl) (by kernel_rfl) (by kernel_rfl) (fun _ _ _ h => h) (fun w HS => r_not rfl) HS ?_
    refine t_done (by kernel_rfl) ?_
    clear HS
    by_cases hc34 : onF (hmac (key) (framed [t.head])) (t.cs.l) = t.tag
    ·
     repeat refine c_seq ?_
     refine c_no (by exact congrArg Value.bool (congrArg not (decide_eq_true hc34))) ?_
     refine c_skip ?_
     repeat refine c_seq ?_
     refine c_region ?_
     refine l_op (o_val (r_ldA (C := [V64 t.serial, .string ⟨(t.tenant).toArray⟩, V8 t.rights, VI t.from_, VI t.until_, t.cs.v] ++ (t.tag).map V8) H (i := 1) rfl rfl rt76 (by rw [List.length_append, List.length_map, (show (t.tag).length = 32 from htag)]; rfl)) ?_)
     refine l_op (o_callR Try.func72 rfl rfl rfl (effect_ret _ t (hc.up H) (show (t.tag).length = 32 from htag)) ?_)
     rintro _ w ⟨rfl, Hc⟩
     replace H : Hp _ w _ ([_, _, _, _, _]) := H.call Hc
     clear Hc
     refine l_op (o_val (r_mv) ?_)
     refine l_op (o_val (r_ext rfl rfl) ?_)
     refine l_op (o_val (r_ext rfl rfl) ?_)
     refine l_op (o_val (r_as) ?_)
     refine l_op (o_val (r_as) ?_)
     first | refine l_end ?_ | refine l_nil ?_
     repeat refine c_seq ?_
     refine c_region ?_
     refine l_op (o_val (r_mv) ?_)
     refine l_op (o_val (r_fa rfl fo76_3) ?_)
     refine l_op (o_val (r_ld (v := VI t.from_) H (i := 1) rfl rfl ct2 rfl) ?_)
     refine l_op (o_val (r_bin (a := now) (b := t.from_) rfl rfl (fun _ => b_lss)) ?_)
     refine l_op (o_val (r_mv) ?_)
     by_cases hc35 : now < t.from_
     ·
      refine l_no rfl rfl (by exact congrArg Value.bool (decide_eq_true hc35)) rfl ?_
      refine l_no rfl rfl (by exact congrArg Value.bool (decide_eq_true hc35)) rfl ?_
      refine l_no rfl rfl (by exact congrArg Value.bool (decide_eq_true hc35)) rfl ?_
      refine l_op (o_val (r_pick (b := true) (congrArg Value.bool (decide_eq_true hc35))) ?_)
      first | refine l_end ?_ | refine l_nil ?_
      repeat refine c_seq ?_
      refine c_yes rfl ?_
      repeat refine c_seq ?_
      refine c_region ?_
      refine l_op (o_val (r_as) ?_)
      first | refine l_end ?_ | refine l_nil ?_
      refine c_ret ?_
      try dsimp only [Exit.then, Exit.inBlock]
      refine e_ret1 (v := VI 14) Try.results77 rfl ?_
      refine ⟨_, rfl, ?_⟩
      refine ⟨?_, H.sub (List.nil_sublist _)⟩
      rw [checkT, if_neg (by rw [hc3]; decide), if_neg (not_not_intro hc34), if_pos (by omega)]
     ·
      refine l_yes rfl rfl (by exact congrArg Value.bool (decide_eq_false hc35)) (o_val (r_mv) ?_)
      refine l_yes rfl rfl (by exact congrArg Value.bool (decide_eq_false hc35)) (o_val (r_mv) ?_)
      refine l_yes rfl rfl (by exact congrArg Value.bool (decide_eq_false hc35)) (o_val (r_bin (a := now) (b := (effF (t.rights) (t.until_) t.cs.l).2) rfl rfl (fun _ => b_geq)) ?_)
      refine l_op (o_val (r_pick (b := false) (congrArg Value.bool (decide_eq_false hc35))) ?_)
      first | refine l_end ?_ | refine l_nil ?_
      by_cases hc36 : (effF (t.rights) (t.until_) t.cs.l).2 ≤ now
      ·
       repeat refine c_seq ?_
       refine c_yes (by exact congrArg Value.bool (decide_eq_true hc36)) ?_
       repeat refine c_seq ?_
       refine c_region ?_
       refine l_op (o_val (r_as) ?_)
       first | refine l_end ?_ | refine l_nil ?_
       refine c_ret ?_
       try dsimp only [Exit.then, Exit.inBlock]
       refine e_ret1 (v := VI 14) Try.results77 rfl ?_
       refine ⟨_, rfl, ?_⟩
       refine ⟨?_, H.sub (List.nil_sublist _)⟩
       rw [checkT, if_neg (by rw [hc3]; decide), if_neg (not_not_intro hc34), if_pos (by omega)]
      ·
       repeat refine c_seq ?_
       refine c_no (by exact congrArg Value.bool (decide_eq_false hc36)) ?_
       refine c_skip ?_
       repeat refine c_seq ?_
       refine c_region ?_
       refine l_op (o_val (r_as) ?_)
       first | refine l_end ?_ | refine l_nil ?_
       refine c_ret ?_
       try dsimp only [Exit.then, Exit.inBlock]
       refine e_ret1 (v := VI 0) Try.results77 rfl ?_
       refine ⟨_, rfl, ?_⟩
       refine ⟨?_, H.sub (List.nil_sublist _)⟩
       rw [checkT, if_neg (by rw [hc3]; decide), if_neg (not_not_intro hc34), if_neg (by omega)]
    ·
     repeat refine c_seq ?_
     refine c_yes (by exact congrArg Value.bool (congrArg not (decide_eq_false hc34))) ?_
     repeat refine c_seq ?_
     refine c_region ?_
     refine l_op (o_val (r_as) ?_)
     first | refine l_end ?_ | refine l_nil ?_
     refine c_ret ?_
     try dsimp only [Exit.then, Exit.inBlock]
     refine e_ret1 (v := VI 13) Try.results77 rfl ?_
     refine ⟨_, rfl, ?_⟩
     refine ⟨?_, H.sub (List.nil_sublist _)⟩
     rw [checkT, if_neg (by rw [hc3]; decide), if_pos hc34]
  ·
   repeat refine c_seq ?_
   refine c_yes (by exact congrArg Value.bool (congrArg not hc3)) ?_
   repeat refine c_seq ?_
   refine c_region ?_
   refine l_op (o_val (r_as) ?_)
   first | refine l_end ?_ | refine l_nil ?_
   refine c_ret ?_
   try dsimp only [Exit.then, Exit.inBlock]
   refine e_ret1 (v := VI 1) Try.results77 rfl ?_
   refine ⟨_, rfl, ?_⟩
   refine ⟨?_, H.sub (List.nil_sublist _)⟩
   rw [checkT, if_pos hc3]
end Go.Proofs.Ytjmbbhnpfmblpaa
namespace Go.Proofs.Ytjmbbhnpfmblpaa
open Go Go.ChangeShapes Go.WideShapes Go.ChangeAt Go.RowKit Go.Deep Go.ChangeMaps
set_option maxRecDepth 100000
section
variable {H : Type} {enc : TypeId × Value → H} {W : World} {base : Nat} {spare : Nat → Bool} {held : Bool}
/-- a slice of structs, of which each row can be opened. -/
theorem open_rows {P : Program} {α : Type} [Inhabited α] {en : α → List Value} {sz : Nat} {t e : TypeId} {fuel : Nat} {cs : List Value} {x : DataW H × List MemPlace} (ht : P.underlying t = some (.slice e)) (hsz : P.cellsOf e = sz) (hz : 0 < sz)
    (hrow : ∀ (fuel : Nat) (cs : List Value) (x : DataW H × List MemPlace), DataW.trod enc P W base spare held fuel e cs = some x → ∃ c : α, cs = en c ∧ (en c).length = sz)
    (h : DataW.trod enc P W base spare held fuel t cs = some x) : ∃ g : Gl α, cs = [g.v] ∧ g.ok en sz W := by
  rcases DataW.trod_slice ht h with ⟨rfl, _⟩ | ⟨a, len, cap, elems, rest, n, _, rfl, _, _, hl, hm, hlen, hel, _, _⟩
  · exact ⟨⟨none, 0, 0, []⟩, rfl, Gl.ok_nil _⟩
  · have hs : ∀ i, i < len → ∃ c : α, (∀ j v, (en c)[j]? = some v → W.cell? (a.add (i * sz + j)) = some v) ∧ (en c).length = sz := by
      intro i hi
      have h1 := hel i hi
      rw [List.getElem?_eq_getElem (by omega), hsz] at h1
      obtain ⟨cs, hcs, htr⟩ := Option.bind_eq_some_iff.1 h1
      obtain ⟨c, rfl, hc⟩ := hrow _ _ _ htr
      refine ⟨c, fun j v hv => ?_, hc⟩
      have hlt : j < sz := by rw [← hc]; exact (List.getElem?_eq_some_iff.1 hv).1
      obtain ⟨_, _, hq⟩ := World.cells?_some hcs
      have := hq j hlt
      rw [hv, Addr.add_add] at this
      exact this
    obtain ⟨F, hF⟩ := choose_lt (α := α) (p := fun i c => (∀ j v, (en c)[j]? = some v → W.cell? (a.add (i * sz + j)) = some v) ∧ (en c).length = sz) hs
    have hsz' : ∀ c ∈ (List.range len).map F, (en c).length = sz := by
      intro c hc
      simp only [List.mem_map, List.mem_range] at hc
      obtain ⟨i, hi, rfl⟩ := hc
      exact (hF i hi).2
    refine ⟨⟨some a, len, cap, (List.range len).map F⟩, rfl, ⟨rd_of_cells fun i v hv => ?_, by simp, hl, hm, hsz'⟩⟩
    have hlt : i < len * sz := by
      have := (List.getElem?_eq_some_iff.1 hv).1
      rw [flat_len hsz'] at this; simpa using this
    have hq : i / sz < len := Nat.div_lt_of_lt_mul (by rw [Nat.mul_comm]; exact hlt)
    have hk : ((List.range len).map F)[i / sz]? = some (F (i / sz)) := by simp [hq]
    have hrow' := flat_at hsz' hk
    have hv' : (en (F (i / sz)))[i % sz]? = some v := by
      rw [← hrow', List.getElem?_take_of_lt (Nat.mod_lt _ hz), List.getElem?_drop, Nat.div_add_mod']
      exact hv
    have := (hF (i / sz) hq).1 _ _ hv'
    rwa [Nat.div_add_mod'] at this
instance : Inhabited Cav := ⟨(0, 0)⟩
theorem cellsCav : Try.prog.cellsOf 78 = 2 := by kernel_rfl
theorem open_u8v {fuel : Nat} {cs : List Value} {x : DataW H × List MemPlace} {t : TypeId} (ht : Try.prog.underlying t = some (.int .u8)) (h : DataW.trod enc Try.prog W base spare held fuel t cs = some x) : ∃ u : UInt8, cs = [V8 u] := by
  obtain ⟨n, rfl, _, hw⟩ := DataW.trod_int ht h
  exact ⟨byteOf (.int .u8 n), by rw [byteOf_V8 hw]⟩
theorem open_u64v {fuel : Nat} {cs : List Value} {x : DataW H × List MemPlace} {t : TypeId} (ht : Try.prog.underlying t = some (.int .u64)) (h : DataW.trod enc Try.prog W base spare held fuel t cs = some x) : ∃ u : UInt64, cs = [V64 u] := by
  obtain ⟨n, rfl, _, hw⟩ := DataW.trod_int ht h
  have hb := bounds_u64 hw
  refine ⟨UInt64.ofNat n.toNat, ?_⟩
  simp only [V64, UInt64.toNat_ofNat']
  congr 2; omega
theorem trod_cav (fuel : Nat) (cs : List Value) (x : DataW H × List MemPlace) (h : DataW.trod enc Try.prog W base spare held fuel 78 cs = some x) : ∃ c : Cav, cs = cavE c ∧ (cavE c).length = 2 := by
  obtain ⟨y0, y1, n, _, hl, h0, h1⟩ := trod_struct2 Try.underlying78 h
  obtain ⟨u, hu⟩ := open_u8v (t := 73) (by kernel_rfl) h0
  obtain ⟨k, hk, _, _⟩ := DataW.trod_int (t := 2) (k := .i64) (by kernel_rfl) h1
  rw [cellsCav] at hl
  have e1 : Try.prog.cellsOf 73 = 1 := by kernel_rfl
  have e2 : Try.prog.cellsOf 2 = 1 := by kernel_rfl
  simp only [e1, e2] at hu hk
  refine ⟨(u, k), ?_, rfl⟩
  match cs, hl with
  | [a, b], _ =>
    simp at hu hk
    simp [cavE, hu, hk]
theorem open_agg {v : Value} {cs : List Value} (h : v.cells.toList = cs) (hl : 1 < cs.length) : v = .agg cs.toArray := by
  cases v <;> simp only [Value.cells] at h <;> first | (subst h; simp at hl; done) | skip
  subst h; simp
theorem trod_tok {fuel : Nat} {cs : List Value} {x : DataW H × List MemPlace} (h : DataW.trod enc Try.prog W base spare held fuel 76 cs = some x) :
    ∃ t : Tok, cs = [V64 t.serial, .string ⟨t.tenant.toArray⟩, V8 t.rights, VI t.from_, VI t.until_, t.cs.v] ++ t.tag.map V8 ∧ t.cs.ok cavE 2 W ∧ t.tag.length = 32 := by
  obtain ⟨xs, n, _, _, hl, hx, hi⟩ := DataW.trod_struct Try.underlying76 h
  have hs : ∀ i, i < 7 → ∃ y, xs[i]? = some y := fun i hi => ⟨_, List.getElem?_eq_getElem (by rw [hx]; exact hi)⟩
  obtain ⟨y0, e0⟩ := hs 0 (by decide)
  obtain ⟨y1, e1⟩ := hs 1 (by decide)
  obtain ⟨y2, e2⟩ := hs 2 (by decide)
  obtain ⟨y3, e3⟩ := hs 3 (by decide)
  obtain ⟨y4, e4⟩ := hs 4 (by decide)
  obtain ⟨y5, e5⟩ := hs 5 (by decide)
  obtain ⟨y6, e6⟩ := hs 6 (by decide)
  have h0 := (hi 0 _ rfl).trans e0
  have h1 := (hi 1 _ rfl).trans e1
  have h2 := (hi 2 _ rfl).trans e2
  have h3 := (hi 3 _ rfl).trans e3
  have h4 := (hi 4 _ rfl).trans e4
  have h5 := (hi 5 _ rfl).trans e5
  have h6 := (hi 6 _ rfl).trans e6
  obtain ⟨a0, q0⟩ := open_u64v (t := 35) (by kernel_rfl) h0
  obtain ⟨a1, q1, _, _⟩ := DataW.trod_string (t := 9) (by kernel_rfl) h1
  obtain ⟨a2, q2⟩ := open_u8v (t := 73) (by kernel_rfl) h2
  obtain ⟨a3, q3, _, _⟩ := DataW.trod_int (t := 2) (k := .i64) (by kernel_rfl) h3
  obtain ⟨a4, q4, _, _⟩ := DataW.trod_int (t := 2) (k := .i64) (by kernel_rfl) h4
  obtain ⟨a5, q5, ok5⟩ := open_rows Try.underlying74 cellsCav (by decide) trod_cav h5
  obtain ⟨a6, q6, l6⟩ := trod_id h6
  have f1 : Try.prog.cellsOf 35 = 1 := by kernel_rfl
  have f2 : Try.prog.cellsOf 9 = 1 := by kernel_rfl
  have f3 : Try.prog.cellsOf 73 = 1 := by kernel_rfl
  have f4 : Try.prog.cellsOf 2 = 1 := by kernel_rfl
  have f5 : Try.prog.cellsOf 74 = 1 := by kernel_rfl
  have f7 : Try.prog.cellsOf 76 = 38 := by kernel_rfl
  replace q0 : (cs.drop 0).take (Try.prog.cellsOf 35) = _ := q0
  rw [f1] at q0
  replace q1 : (cs.drop 1).take (Try.prog.cellsOf 9) = _ := q1
  rw [f2] at q1
  replace q2 : (cs.drop 2).take (Try.prog.cellsOf 73) = _ := q2
  rw [f3] at q2
  replace q3 : (cs.drop 3).take (Try.prog.cellsOf 2) = _ := q3
  rw [f4] at q3
  replace q4 : (cs.drop 4).take (Try.prog.cellsOf 2) = _ := q4
  rw [f4] at q4
  replace q5 : (cs.drop 5).take (Try.prog.cellsOf 74) = _ := q5
  rw [f5] at q5
  replace q6 : (cs.drop 6).take (Try.prog.cellsOf 31) = _ := q6
  rw [cellsId] at q6
  rw [f7] at hl
  have s : ∀ k v, (cs.drop k).take 1 = [v] → cs.drop k = v :: cs.drop (k + 1) := fun k v h => by
    have := List.take_append_drop 1 (cs.drop k)
    rw [h, List.drop_drop] at this
    exact this.symm
  refine ⟨⟨a0, a1.data.toList, a2, a3, a4, a5, a6⟩, ?_, ok5, l6⟩
  have z : cs.drop 0 = [V64 a0, .string a1, V8 a2, VI a3, VI a4, a5.v] ++ a6.map V8 := by
    rw [s 0 _ q0, s (0 + 1) _ q1, s (0 + 1 + 1) _ q2, s (0 + 1 + 1 + 1) _ q3, s (0 + 1 + 1 + 1 + 1) _ q4, s (0 + 1 + 1 + 1 + 1 + 1) _ q5, ← q6, List.take_of_length_le (by simp; omega)]
    rfl
  rw [List.drop_zero] at z
  exact z
theorem open_tok {base0 : Nat} {v : Value} {d : DataW H} {p : List MemPlace} (_ : Value.okWide Try.prog W .any base0 76 v) (h : DataW.Trod enc Try.prog W base spare held 76 v d p) :
    ∃ t : Tok, v = .agg ([V64 t.serial, .string ⟨t.tenant.toArray⟩, V8 t.rights, VI t.from_, VI t.until_, t.cs.v] ++ t.tag.map V8).toArray ∧ t.cs.ok cavE 2 W ∧ t.tag.length = 32 := by
  obtain ⟨fuel, hf⟩ := h
  obtain ⟨t, ht, h1, h2⟩ := trod_tok hf
  exact ⟨t, open_agg ht (by simp), h1, h2⟩
end
end Go.Proofs.Ytjmbbhnpfmblpaa
namespace Go.Proofs.Ytjmbbhnpfmblpaa
open Go
section
variable {P : Program} {Q : Exit → Act → World → Prop} {n : Nat} {σ : Nat → Value} {w : World} {ty : TypeId} {pos : String} {aft : Array Edge} {d : Nat} {Qs : Act → Prop}
theorem yielded_non (ops : Array Oper) (j d : Nat) (h : (ops[j]?).bind (·.dst) = some d) (hd : Nat.blt d n = true) (hv : σ d = undef) :
    yielded ops (mk n σ).tmps j = none := by
  have hd' : d < n := by rw [Nat.blt_eq] at hd; exact hd
  unfold yielded
  simp [h, mk, hd', hv, undef]
theorem l_non {ops : Array Oper} {rest : List Oper} {op : Op} {j e : Nat} {b : Bool}
    (he : (ops[j]?).bind (·.dst) = some e) (hb : Nat.blt e n = true) (hv : σ e = undef)
    (h : wpList P ops Q rest (mk n (up σ d undef)) w) : wpList P ops Q (⟨some d, op, ty, pos, aft, some (j, b)⟩ :: rest) (mk n σ) w := by
  have hw := yielded_non ops j e he hb hv
  unfold wpList
  rw [if_neg (by simp [Region.wanted, hw]), mk_put]
  exact h
end
end Go.Proofs.Ytjmbbhnpfmblpaa
namespace Go.Proofs.Ytjmbbhnpfmblpaa
open Go
set_option maxRecDepth 100000
def cavsB (cs : List Cav) : List UInt8 := cs.flatMap cavB
theorem cavsB_succ (cs : List Cav) (i : Nat) (c : Cav) (h : cs[i]? = some c) : cavsB (cs.take i) ++ cavB c = cavsB (cs.take (i + 1)) := by rw [List.take_add_one, h]; simp [cavsB]
/-- a token's bytes. -/
def Tok.bytes (t : Tok) : List UInt8 := [1] ++ t.head ++ [UInt8.ofNat t.cs.len] ++ cavsB t.cs.l ++ t.tag
theorem capbytes_ok (w0 : World) (t : Tok) (hc : t.cs.ok cavE 2 w0) (htag : t.tag.length = 32) (hn : t.tenant.length ≤ 65536) (hm : mayT t = true) :
    Ret Try.prog 81 [.agg ([V64 t.serial, .string ⟨(t.tenant).toArray⟩, V8 t.rights, VI t.from_, VI t.until_, t.cs.v] ++ (t.tag).map V8).toArray] w0 fun v w' => ∃ a n k, v = .tuple #[.slice (hd a) n k, VI 0] ∧ n ≤ t.tenant.length + 200 ∧ Hp w0 w' [] [.own a n k (t.bytes.map V8) 5 1] := by
  refine ret_mk Try.func81 rfl Try.ntmps81 (by simp) ?_
  have H := Hp.refl w0 []
  have hcl := hc.ln
  have h8 := ((mayT_iff t).1 hm).2.2.1
  repeat refine c_seq ?_
  refine c_region ?_
  refine l_op (o_box (v := .agg ([V64 t.serial, .string ⟨(t.tenant).toArray⟩, V8 t.rights, VI t.from_, VI t.until_, t.cs.v] ++ (t.tag).map V8).toArray) H rfl (fun b1 w H hb1 => ?_))
  replace H : Hp _ w _ ([.blk b1 ([V64 t.serial, .string ⟨(t.tenant).toArray⟩, V8 t.rights, VI t.from_, VI t.until_, t.cs.v] ++ (t.tag).map V8) 76]) := H
  refine l_op (o_val (r_as) ?_)
  refine l_op (o_val (r_as) ?_)
  first | refine l_end ?_ | refine l_nil ?_
  repeat refine c_seq ?_
  refine c_region ?_
  refine l_op (o_val (r_ldA (C := [V64 t.serial, .string ⟨(t.tenant).toArray⟩, V8 t.rights, VI t.from_, VI t.until_, t.cs.v] ++ (t.tag).map V8) H (i := 0) rfl rfl rt76 (by rw [List.length_append, List.length_map, (show (t.tag).length = 32 from htag)]; rfl)) ?_)
  refine l_op (o_callR Try.func75 rfl rfl rfl (may_ret _ t (hc.up H) (show (t.tag).length = 32 from htag) (by first | omega | (dsimp only; omega) | simp)) ?_)
  rintro _ w ⟨rfl, Hc⟩
  replace H : Hp _ w _ ([_]) := H.call Hc
  clear Hc
  have hk2 : (mayT t) = true := hm
  refine l_op (o_val (r_not rfl) ?_)
  first | refine l_end ?_ | refine l_nil ?_
  repeat refine c_seq ?_
  refine c_no (by exact congrArg Value.bool (congrArg not hk2)) ?_
  refine c_skip ?_
  repeat refine c_seq ?_
  refine c_region ?_
  refine l_op (o_bslB ([(1 : UInt8)]) H sl29 zc5 rfl rfl (by decide) (fun b3 w H hb3 => ?_))
  replace H : Hp _ w _ ([_, .own (some b3) 1 1 (([(1 : UInt8)]).map V8) 5 1]) := H
  refine l_op (o_val (r_ldA (C := [V64 t.serial, .string ⟨(t.tenant).toArray⟩, V8 t.rights, VI t.from_, VI t.until_, t.cs.v] ++ (t.tag).map V8) H (i := 0) rfl rfl rt76 (by rw [List.length_append, List.length_map, (show (t.tag).length = 32 from htag)]; rfl)) ?_)
  refine l_op (o_callR Try.func115 rfl rfl rfl (head_ret _ t (hc.up H) (show (t.tag).length = 32 from htag) (by first | omega | (dsimp only; omega) | simp)) ?_)
  rintro _ w ⟨a4, n5, c6, rfl, hn7, hh8, Hc⟩
  replace H : Hp _ w _ ([_, _, .own a4 n5 c6 ((t.head).map V8) 5 1]) := H.call Hc
  clear Hc
  try dsimp only at hn7
  refine l_op (o_appB (s := ⟨hd a4, n5, c6, t.head⟩) (l' := [(1 : UInt8)] ++ t.head) (len' := 1 + n5) rfl rfl H (i := 1) rfl sl29 Try.underlying29 rfl rfl (H.slOwn (i := 2) rfl) (by omega) (fun a9 c10 w H => ?_))
  replace H : Hp _ w _ ([_, .own a9 (1 + n5) c10 (([(1 : UInt8)] ++ t.head).map V8) 5 1, _]) := H
  refine l_op (o_val (r_as) ?_)
  first | refine l_end ?_ | refine l_nil ?_
  repeat refine c_seq ?_
  refine c_region ?_
  refine l_op (o_val (r_mv) ?_)
  refine l_op (o_val (r_fa rfl fo76_5) ?_)
  refine l_op (o_val (r_ld (v := t.cs.v) H (i := 0) rfl rfl ct74 rfl) ?_)
  refine l_op (o_val (r_lens el74 rfl) ?_)
  refine l_op (o_val (r_conv (v := ((UInt8.ofNat t.cs.len).toNat : Int)) Try.underlying3 Try.underlying5 rfl (w_u8_N t.cs.len (by omega))) ?_)
  refine l_op (o_bslB ([UInt8.ofNat t.cs.len]) H sl29 zc5 rfl rfl (by decide) (fun b11 w H hb11 => ?_))
  replace H : Hp _ w _ ([_, _, _, .own (some b11) 1 1 (([UInt8.ofNat t.cs.len]).map V8) 5 1]) := H
  refine l_op (o_appB (s := ⟨hd (some b11), 1, 1, [UInt8.ofNat t.cs.len]⟩) (l' := [(1 : UInt8)] ++ t.head ++ ([UInt8.ofNat t.cs.len])) (len' := 1 + n5 + 1) rfl rfl H (i := 1) rfl sl29 Try.underlying29 rfl rfl (H.slOwn (i := 3) rfl) (by omega) (fun a12 c13 w H => ?_))
  replace H : Hp _ w _ ([_, .own a12 (1 + n5 + 1) c13 (([(1 : UInt8)] ++ t.head ++ ([UInt8.ofNat t.cs.len])).map V8) 5 1, _, _]) := H
  refine l_op (o_val (r_as) ?_)
  first | refine l_end ?_ | refine l_nil ?_
  repeat refine c_seq ?_
  refine c_region ?_
  refine l_op (o_val (r_fa rfl fo76_5) ?_)
  refine l_op (o_val (r_ld (v := t.cs.v) H (i := 0) rfl rfl ct74 rfl) ?_)
  refine l_op (o_val (r_lens el74 rfl) ?_)
  refine l_op (o_val (r_mv) ?_)
  first | refine l_end ?_ | refine l_nil ?_
  repeat refine c_seq ?_
  refine c_block ?_
  repeat refine c_seq ?_
  refine c_loop4 (fun (i : Nat) (a : Option Nat) (ln : Nat) (k : Nat) => [(1, .pointer (some ⟨b1, 0, none⟩)), (4, .slice (hd a) ln k), (22, t.cs.v), (23, VI (t.cs.len : Int)), (24, VI (i : Int))])
    (fun (i : Nat) (a : Option Nat) (ln : Nat) (k : Nat) w => (i ≤ t.cs.len ∧ ln ≤ t.tenant.length + 66 + 9 * i) ∧ Hp w0 w [] ([.blk b1 ([V64 t.serial, .string ⟨(t.tenant).toArray⟩, V8 t.rights, VI t.from_, VI t.until_, t.cs.v] ++ (t.tag).map V8) 76, .own a ln k (([1] ++ t.head ++ [UInt8.ofNat t.cs.len] ++ cavsB (t.cs.l.take i)).map V8) 5 1, .own a4 n5 c6 ((t.head).map V8) 5 1, .own (some b11) 1 1 (([UInt8.ofNat t.cs.len]).map V8) 5 1]))
    (fun (i : Nat) (a : Option Nat) (ln : Nat) (k : Nat) => t.cs.len - i) 0 a12 (1 + n5 + 1) c13 ⟨rfl, rfl, rfl, rfl, rfl, trivial⟩ ⟨⟨Nat.zero_le _, by omega⟩, (by rw [show cavsB (t.cs.l.take 0) = [] from rfl, List.append_nil]; exact H)⟩ ?_
  clear H
  rintro i a ln k τ w ⟨⟨hi, hln⟩, H⟩
  repeat refine c_seq ?_
  refine c_region ?_
  refine l_op (o_val (r_bin (a := (i : Int)) (b := (t.cs.len : Int)) rfl rfl (fun _ => b_lss)) ?_)
  first | refine l_end ?_ | refine l_nil ?_
  by_cases hc14 : (i : Int) < (t.cs.len : Int)
  ·
   repeat refine c_seq ?_
   refine c_yes (by exact congrArg Value.bool (decide_eq_true hc14)) ?_
   refine c_skip ?_
   repeat refine c_seq ?_
   refine c_block ?_
   repeat refine c_seq ?_
   refine c_region ?_
   have ah17 := ((hc.up H)).addr (by decide) (by first | omega | (dsimp only; omega))
   obtain ⟨ab15, ao16, ah17⟩ := ah17
   refine l_op (o_val (r_isN i rfl rfl el74 ah17 (by omega) (by (try simp only [Sl.cut]); omega)) ?_)
   have he19 : ∃ c, t.cs.l[i]? = some c := ⟨_, List.getElem?_eq_getElem (by have := ((hc.up H)).ln; (try dsimp only at this ⊢); omega)⟩
   obtain ⟨e18, he19⟩ := he19
   have hez20 := ((hc.up H)).sz e18 (List.mem_of_getElem? he19)
   refine l_op (o_val (r_ldRow (s := t.cs) (k := i) (hc.up H) ah17 rfl rt78 (by decide) he19) ?_)
   refine l_op (o_alloc H zc78 (fun b21 w H hb21 => ?_))
   replace H : Hp _ w _ ([_, _, _, _, .blk b21 ([V8 (0 : UInt8), VI 0]) 78]) := H
   refine l_op (o_stW (C' := [V8 e18.1, VI e18.2]) H (i := 4) rfl rfl rfl cs78 (by simp [Value.oneCell']) (by rfl) (by rfl) (fun w H => ?_))
   replace H : Hp _ w _ ([_, _, _, _, .blk b21 ([V8 e18.1, VI e18.2]) 78]) := H
   first | refine l_end ?_ | refine l_nil ?_
   repeat refine c_seq ?_
   refine c_region ?_
   refine l_op (o_val (r_mv) ?_)
   refine l_op (o_val (r_ldA (C := [V8 e18.1, VI e18.2]) H (i := 4) rfl rfl rt78 (by rfl)) ?_)
   refine l_op (o_callR Try.func125 rfl rfl rfl (caveat_ret _ e18) ?_)
   rintro _ w ⟨a22, c23, rfl, Hc⟩
   replace H : Hp _ w _ ([_, _, _, _, _, .own a22 9 c23 ((cavB e18).map V8) 5 1]) := H.call Hc
   clear Hc
   refine l_op (o_appB (s := ⟨hd a22, 9, c23, cavB e18⟩) (l' := [1] ++ t.head ++ [UInt8.ofNat t.cs.len] ++ cavsB (t.cs.l.take i) ++ (cavB e18)) (len' := ln + 9) rfl rfl H (i := 1) rfl sl29 Try.underlying29 rfl rfl (H.slOwn (i := 5) rfl) (by omega) (fun a24 c25 w H => ?_))
   replace H : Hp _ w _ ([_, .own a24 (ln + 9) c25 (([1] ++ t.head ++ [UInt8.ofNat t.cs.len] ++ cavsB (t.cs.l.take i) ++ (cavB e18)).map V8) 5 1, _, _, _, _]) := H
   refine l_op (o_val (r_as) ?_)
   first | refine l_end ?_ | refine l_nil ?_
   repeat refine c_seq ?_
   refine c_region ?_
   refine l_op (o_val (r_bin (a := (i : Int)) (b := 1) rfl rfl (fun _ => b_add (by omega) (by omega))) ?_)
   refine l_op (o_val (r_mv) ?_)
   first | refine l_end ?_ | refine l_nil ?_
   rw [List.append_assoc, cavsB_succ t.cs.l i e18 he19] at H
   refine round_end (i + 1, a24, ln + 9, c25) ?_ ?_ ?_
   · exact ⟨rfl, rfl, rfl, rfl, show VI ((i : Int) + 1) = VI ((i + 1 : Nat) : Int) from congrArg VI (by omega), trivial⟩
   · refine ⟨?_, ?_⟩
     · try dsimp only
       exact ⟨by omega, by omega⟩
     · exact H.sub (.cons_cons _ (.cons_cons _ (.cons_cons _ (.cons_cons _ (List.nil_sublist _)))))
   · show t.cs.len - (i + 1 : Nat) < t.cs.len - i; omega
  ·
   repeat refine c_seq ?_
   refine c_no (by exact congrArg Value.bool (decide_eq_false hc14)) ?_
   refine c_exit ?_
   repeat refine c_seq ?_
   refine c_region ?_
   refine l_op (o_val (r_mv) ?_)
   refine l_op (o_val (r_fa rfl fo76_6) ?_)
   refine l_op (o_val (r_slAo (o := 6) (h := 32) (m := 32) (lv := none) (hv := none) (mv := none) rfl ar31 rfl rfl rfl (fun w => sbn w)) ?_)
   refine l_op (o_appB (s := (⟨some ⟨b1, 6, none⟩, 32, 32, t.tag⟩ : Sl)) (l' := [1] ++ t.head ++ [UInt8.ofNat t.cs.len] ++ cavsB (t.cs.l.take i) ++ t.tag) (len' := ln + 32) rfl rfl H (i := 1) rfl sl29 Try.underlying29 rfl rfl (H.slTail (i := 0) (o := 6) (pre := [V64 t.serial, .string ⟨(t.tenant).toArray⟩, V8 t.rights, VI t.from_, VI t.until_, t.cs.v]) rfl rfl (show (t.tag).length = 32 from htag) (by decide)) (by omega) (fun a26 c27 w H => ?_))
   replace H : Hp _ w _ ([_, .own a26 (ln + 32) c27 (([1] ++ t.head ++ [UInt8.ofNat t.cs.len] ++ cavsB (t.cs.l.take i) ++ t.tag).map V8) 5 1, _, _]) := H
   refine l_op (o_val (r_as) ?_)
   refine l_op (o_val (r_as) ?_)
   first | refine l_end ?_ | refine l_nil ?_
   refine c_ret ?_
   try dsimp only [Exit.then, Exit.inBlock]
   refine e_retN (vs := [.slice (hd a26) (ln + 32) c27, VI 0]) _ Try.results81 rfl (resT (v := .slice (hd a26) (ln + 32) c27) rfl (resT (v := VI 0) rfl (resZ))) ?_
   refine ⟨_, rfl, ?_⟩
   have hi2 : i = t.cs.len := by omega
   refine ⟨_, _, _, rfl, by omega, ?_⟩
   rw [List.take_of_length_le (by have := hc.ln; omega)] at H
   exact H.sub (.cons _ (.cons_cons _ (List.nil_sublist _)))
end Go.Proofs.Ytjmbbhnpfmblpaa
namespace Go.Proofs.Ytjmbbhnpfmblpaa
open Go
set_option maxRecDepth 100000
theorem rem_be (v : UInt64) (m : Nat) (h : v.toNat = m) : (v % 256).toUInt8 = UInt8.ofNat m := by
  apply UInt8.toNat_inj.1
  rw [UInt64.toNat_toUInt8, UInt64.toNat_mod, UInt8.toNat_ofNat', h]
  have : (256 : UInt64).toNat = 256 := rfl
  rw [this]; omega
theorem quo_be (v : UInt64) (x i : Nat) (h : v.toNat = x / 256 ^ i) : (v / 256).toNat = x / 256 ^ (i + 1) := by
  rw [UInt64.toNat_div, h, Nat.pow_succ, Nat.div_div_eq_div_mul]; rfl
theorem put1_ret (w0 : World) (s : Sl) (hs : s.ok w0) (u : UInt64) (n : Nat) (h1 : 1 ≤ n) (h8 : n ≤ 8) (hf : u.toNat < 256 ^ n) (hm : s.len ≤ 1048576) :
    Ret Try.prog 110 [s.v, V64 u, VI (n : Int)] w0 fun v w' => ∃ a cap, v = .tuple #[.slice (hd a) (s.len + n) cap, VI 0] ∧ Hp w0 w' [] [.own a (s.len + n) cap ((s.l ++ be u.toNat n).map V8) 5 1] := by
  refine ret_mk Try.func110 rfl Try.ntmps110 (by simp) ?_
  have H := Hp.refl w0 []
  repeat refine c_seq ?_
  refine c_region ?_
  refine l_op (o_val (r_as) ?_)
  refine l_op (o_val (r_as) ?_)
  first | refine l_end ?_ | refine l_nil ?_
  repeat refine c_seq ?_
  refine c_region ?_
  refine l_op (o_val (r_mv) ?_)
  refine l_op (o_val (r_bin (a := (n : Int)) (b := 1) rfl rfl (fun _ => b_lssB false (decide_eq_false (by omega)))) ?_)
  refine l_op (o_val (r_mv) ?_)
  refine l_yes rfl rfl rfl (o_val (r_mv) ?_)
  refine l_yes rfl rfl rfl (o_val (r_bin (a := (n : Int)) (b := 8) rfl rfl (fun _ => b_gtrB false (decide_eq_false (by omega)))) ?_)
  refine l_op (o_val (r_pick rfl) ?_)
  first | refine l_end ?_ | refine l_nil ?_
  repeat refine c_seq ?_
  refine c_no rfl ?_
  refine c_skip ?_
  repeat refine c_seq ?_
  refine c_region ?_
  refine l_op (o_val (r_as) ?_)
  first | refine l_end ?_ | refine l_nil ?_
  repeat refine c_seq ?_
  refine c_region ?_
  refine l_op (o_val (r_as) ?_)
  first | refine l_end ?_ | refine l_nil ?_
  repeat refine c_seq ?_
  refine c_block ?_
  repeat refine c_seq ?_
  refine c_loop4 (fun (i : Nat) (x : UInt64) (a : Option Nat) (c : Nat) => [(0, s.v), (1, V64 x), (2, VI (n : Int)), (8, .slice (hd a) i c), (9, VI (i : Int))])
    (fun (i : Nat) (x : UInt64) (a : Option Nat) (c : Nat) w => (i ≤ n ∧ x.toNat = u.toNat / 256 ^ i) ∧ Hp w0 w [] ([.own a i c ((be u.toNat i).map V8) 5 1]))
    (fun (i : Nat) (x : UInt64) (a : Option Nat) (c : Nat) => n - i) 0 u none 0 ⟨rfl, rfl, rfl, rfl, rfl, trivial⟩ ⟨⟨Nat.zero_le _, by simp⟩, (H.nilEnd 5 1)⟩ ?_
  clear H
  rintro i x a c τ w ⟨⟨hi, hx⟩, H⟩
  repeat refine c_seq ?_
  refine c_region ?_
  refine l_op (o_val (r_mv) ?_)
  refine l_op (o_val (r_mv) ?_)
  refine l_op (o_val (r_bin (a := (i : Int)) (b := (n : Int)) rfl rfl (fun _ => b_lss)) ?_)
  first | refine l_end ?_ | refine l_nil ?_
  by_cases hc1 : (i : Int) < (n : Int)
  ·
   repeat refine c_seq ?_
   refine c_yes (by exact congrArg Value.bool (decide_eq_true hc1)) ?_
   refine c_skip ?_
   repeat refine c_seq ?_
   refine c_block ?_
   repeat refine c_seq ?_
   refine c_region ?_
   refine l_op (o_val (r_mv) ?_)
   refine l_op (o_val (r_bin rfl (c64 256 (by decide)) (fun _ => b_rem_u64 (by decide))) ?_)
   refine l_op (o_val (r_conv Try.underlying35 Try.underlying5 rfl (w_u8_64 _)) ?_)
   refine l_op (o_bslB ([(x % (256 : UInt64)).toUInt8]) H sl29 zc5 rfl rfl (by decide) (fun b2 w H hb2 => ?_))
   replace H : Hp _ w _ ([_, .own (some b2) 1 1 (([(x % (256 : UInt64)).toUInt8]).map V8) 5 1]) := H
   refine l_op (o_val (r_mv) ?_)
   refine l_op (o_appB (s := ⟨hd a, i, c, be u.toNat i⟩) (l' := be u.toNat (i + 1)) (len' := i + 1) (by rw [be, rem_be x _ hx]; rfl) (by (try dsimp only); omega) H (i := 1) rfl sl29 Try.underlying29 rfl rfl (H.slOwn (i := 0) rfl) (by omega) (fun a3 c4 w H => ?_))
   replace H : Hp _ w _ ([_, .own a3 (i + 1) c4 ((be u.toNat (i + 1)).map V8) 5 1]) := H
   refine l_op (o_val (r_as) ?_)
   first | refine l_end ?_ | refine l_nil ?_
   repeat refine c_seq ?_
   refine c_region ?_
   refine l_op (o_val (r_mv) ?_)
   refine l_op (o_val (r_bin rfl (c64 256 (by decide)) (fun _ => b_quo_u64 (by decide))) ?_)
   refine l_op (o_val (r_as) ?_)
   first | refine l_end ?_ | refine l_nil ?_
   repeat refine c_seq ?_
   refine c_region ?_
   refine l_op (o_val (r_mv) ?_)
   refine l_op (o_val (r_bin (a := (i : Int)) (b := 1) rfl rfl (fun _ => b_add (by omega) (by omega))) ?_)
   refine l_op (o_val (r_as) ?_)
   first | refine l_end ?_ | refine l_nil ?_
   refine round_end (i + 1, x / (256 : UInt64), a3, c4) ?_ ?_ ?_
   · exact ⟨rfl, show V64 (x / (256 : UInt64)) = V64 (x / (256 : UInt64) : UInt64) from congrArg V64 rfl, rfl, rfl, show VI ((i : Int) + 1) = VI ((i + 1 : Nat) : Int) from congrArg VI (by omega), trivial⟩
   · refine ⟨?_, ?_⟩
     · try dsimp only
       exact ⟨by omega, quo_be _ _ _ hx⟩
     · exact H.sub (.cons _ (.cons_cons _ (List.nil_sublist _)))
   · show n - (i + 1 : Nat) < n - i; omega
  ·
   repeat refine c_seq ?_
   refine c_no (by exact congrArg Value.bool (decide_eq_false hc1)) ?_
   refine c_exit ?_
   have hx0 : x.toNat = 0 := by
     have hi2 : i = n := by omega
     rw [hx, hi2]; exact Nat.div_eq_of_lt hf
   repeat refine c_seq ?_
   refine c_region ?_
   refine l_op (o_val (r_mv) ?_)
   refine l_op (o_val (r_bin (a := (x.toNat : Int)) (b := 0) rfl rfl (fun _ => b_gtrB false (decide_eq_false (by omega)))) ?_)
   first | refine l_end ?_ | refine l_nil ?_
   repeat refine c_seq ?_
   refine c_no rfl ?_
   refine c_skip ?_
   repeat refine c_seq ?_
   refine c_region ?_
   refine l_op (o_bslB (([] : List UInt8)) H sl29 zc5 rfl rfl (by decide) (fun b5 w H hb5 => ?_))
   replace H : Hp _ w _ ([_, .own (some b5) 0 0 ((([] : List UInt8)).map V8) 5 1]) := H
   refine l_op (o_val (r_mv) ?_)
   refine l_op (o_appB (s := s) (l' := s.l) (len' := s.len) rfl (Nat.zero_add _) H (i := 1) rfl sl29 Try.underlying29 rfl rfl (hs.up H (fun _ => apart_nil _)) (by omega) (fun a6 c7 w H => ?_))
   replace H : Hp _ w _ ([_, .own a6 s.len c7 ((s.l).map V8) 5 1]) := H
   refine l_op (o_val (r_mv) ?_)
   refine l_op (o_appB (s := ⟨hd a, i, c, be u.toNat i⟩) (l' := s.l ++ (be u.toNat i)) (len' := s.len + i) rfl rfl H (i := 1) rfl sl29 Try.underlying29 rfl rfl (H.slOwn (i := 0) rfl) (by omega) (fun a8 c9 w H => ?_))
   replace H : Hp _ w _ ([_, .own a8 (s.len + i) c9 ((s.l ++ (be u.toNat i)).map V8) 5 1]) := H
   refine l_op (o_val (r_as) ?_)
   refine l_op (o_val (r_as) ?_)
   first | refine l_end ?_ | refine l_nil ?_
   refine c_ret ?_
   try dsimp only [Exit.then, Exit.inBlock]
   refine e_retN (vs := [.slice (hd a8) (s.len + i) c9, VI 0]) _ Try.results110 rfl (resT (v := .slice (hd a8) (s.len + i) c9) rfl (resT (v := VI 0) rfl (resZ))) ?_
   refine ⟨_, rfl, ?_⟩
   have hi2 : i = n := by omega
   subst hi2
   exact ⟨_, _, rfl, H.sub (.cons _ (.cons_cons _ (List.nil_sublist _)))⟩
theorem u64_fit8 (u : UInt64) : u.toNat < 256 ^ 8 := u.toNat_lt
theorem put1z_ret (w0 : World) (u : UInt64) (n : Nat) (h1 : 1 ≤ n) (h8 : n ≤ 8) (hf : u.toNat < 256 ^ n) :
    Ret Try.prog 110 [.slice none 0 0, V64 u, VI (n : Int)] w0 fun v w' => ∃ a cap, v = .tuple #[.slice (hd a) n cap, VI 0] ∧ Hp w0 w' [] [.own a n cap ((be u.toNat n).map V8) 5 1] :=
  (put1_ret w0 ⟨none, 0, 0, []⟩ (Sl.ok_nil _) u n h1 h8 hf (by simp)).mono fun v w' ⟨a, c, hv, H⟩ => ⟨a, c, by simpa using hv, by simpa using H⟩
theorem eight_ret (w0 : World) (u : UInt64) :
    Ret Try.prog 55 [V64 u] w0 fun v w' => ∃ a cap, v = .slice (hd a) 8 cap ∧ Hp w0 w' [] [.own a 8 cap ((be u.toNat 8).map V8) 5 1] := by
  refine ret_mk Try.func55 rfl Try.ntmps55 (by simp) ?_
  have H := Hp.refl w0 []
  repeat refine c_seq ?_
  refine c_region ?_
  refine l_op (o_val (r_as) ?_)
  first | refine l_end ?_ | refine l_nil ?_
  repeat refine c_seq ?_
  refine c_region ?_
  refine l_op (o_val (r_mv) ?_)
  refine l_op (o_callR Try.func110 rfl rfl rfl (put1z_ret _ (u) 8 (by omega) (by omega) (u64_fit8 _)) ?_)
  rintro _ w ⟨a1, c2, rfl, Hc⟩
  replace H : Hp _ w _ ([.own a1 8 c2 ((be (u).toNat 8).map V8) 5 1]) := H.call Hc
  clear Hc
  refine l_op (o_val (r_mv) ?_)
  refine l_op (o_val (r_ext rfl rfl) ?_)
  refine l_op (o_val (r_ext rfl rfl) ?_)
  refine l_op (o_val (r_as) ?_)
  refine l_op (o_val (r_as) ?_)
  first | refine l_end ?_ | refine l_nil ?_
  repeat refine c_seq ?_
  refine c_region ?_
  refine l_op (o_val (r_mv) ?_)
  refine l_op (o_val (r_as) ?_)
  first | refine l_end ?_ | refine l_nil ?_
  refine c_ret ?_
  try dsimp only [Exit.then, Exit.inBlock]
  refine e_ret1 (v := .slice (hd a1) 8 c2) Try.results55 rfl ?_
  refine ⟨_, rfl, ?_⟩
  exact ⟨_, _, rfl, H⟩
theorem kpad_len (K : List UInt8) (m : UInt8) (hK : K.length ≤ 64) : (kpad K m).length = 64 := by rw [kpad, List.length_map, padk_len K hK]
theorem kpad_step (K : List UInt8) (m c : UInt8) (i : Nat) (h : i < 64) (hK : K.length ≤ 64) (hc : c = K.getD i 0) : (kpad K m).take i ++ [c ^^^ m] = (kpad K m).take (i + 1) := by
  have hg : (padk K)[i]? = some c := by
    rw [hc, padk]
    by_cases hi : i < K.length
    · rw [List.getElem?_append_left hi, List.getD_eq_getElem?_getD]; simp [hi]
    · rw [List.getElem?_append_right (by omega), List.getElem?_replicate, if_pos (by omega), List.getD_eq_getElem?_getD, List.getElem?_eq_none (by omega)]; rfl
  have hk : (kpad K m)[i]? = some (c ^^^ m) := by rw [kpad, List.getElem?_map, hg]; rfl
  rw [List.take_add_one, hk]; rfl
theorem kpad_all (K : List UInt8) (m : UInt8) (hK : K.length ≤ 64) : (kpad K m).take 64 = kpad K m := List.take_of_length_le (Nat.le_of_eq (kpad_len K m hK))
theorem getD_none (K : List UInt8) (i : Nat) (h : K.length ≤ i) : (0 : UInt8) = K.getD i 0 := by
  rw [List.getD_eq_getElem?_getD, List.getElem?_eq_none h]; rfl
theorem raw3_ret (w0 : World) (s u : Sl) (hs : s.ok w0) (hu : u.ok w0) (h1 : s.len ≤ 1000000) (h2 : u.len ≤ 1000000) :
    Ret Try.prog 50 [s.v, u.v] w0 fun v w' => v = .agg ((hmac s.l u.l).map V8).toArray ∧ Hp w0 w' [] [] := by
  refine ret_mk Try.func50 rfl Try.ntmps50 (by simp) ?_
  have H := Hp.refl w0 []
  have hsl := hs.ln
  have hul := hu.ln
  repeat refine c_seq ?_
  refine c_region ?_
  refine l_op (o_alloc H zc31 (fun b1 w H hb1 => ?_))
  replace H : Hp _ w _ ([.blk b1 ((List.replicate 32 (0 : UInt8)).map V8) 31]) := H
  first | refine l_end ?_ | refine l_nil ?_
  repeat refine c_seq ?_
  refine c_region ?_
  refine l_op (o_bslB (([] : List UInt8)) H sl29 zc5 rfl rfl (by decide) (fun b2 w H hb2 => ?_))
  replace H : Hp _ w _ ([_, .own (some b2) 0 0 ((([] : List UInt8)).map V8) 5 1]) := H
  refine l_op (o_val (r_mv) ?_)
  refine l_op (o_appB (s := s) (l' := s.l) (len' := s.len) rfl (Nat.zero_add _) H (i := 1) rfl sl29 Try.underlying29 rfl rfl (hs.up H (fun _ => apart_nil _)) (by omega) (fun a3 c4 w H => ?_))
  replace H : Hp _ w _ ([_, .own a3 s.len c4 ((s.l).map V8) 5 1]) := H
  refine l_op (o_val (r_as) ?_)
  first | refine l_end ?_ | refine l_nil ?_
  repeat refine c_seq ?_
  refine c_region ?_
  refine l_op (o_val (r_mv) ?_)
  refine l_op (o_val (r_lens el29 rfl) ?_)
  refine l_op (o_val (r_bin (a := (s.len : Int)) (b := 64) rfl rfl (fun _ => b_gtr)) ?_)
  first | refine l_end ?_ | refine l_nil ?_
  by_cases hc5 : 64 < (s.len : Int)
  ·
   repeat refine c_seq ?_
   refine c_yes (by exact congrArg Value.bool (decide_eq_true hc5)) ?_
   repeat refine c_seq ?_
   refine c_region ?_
   refine l_op (o_val (r_mv) ?_)
   refine l_op (o_callR Try.func45 rfl rfl rfl (sum2_ret _ ⟨hd a3, s.len, c4, s.l⟩ (H.slOwn (i := 1) rfl) (by (try dsimp only); omega)) ?_)
   rintro _ w ⟨rfl, Hc⟩
   replace H : Hp _ w _ ([_, _]) := H.call Hc
   clear Hc
   refine l_op (o_alloc H zc31 (fun b6 w H hb6 => ?_))
   replace H : Hp _ w _ ([_, _, .blk b6 ((List.replicate 32 (0 : UInt8)).map V8) 31]) := H
   refine l_op (o_stA (l' := sha256 (s.l)) H (i := 2) rfl rfl rfl cs31 (show (List.replicate 32 (0 : UInt8)).length = 32 from (List.length_replicate ..)) (show (sha256 (s.l)).length = 32 from sha256_len _) (fun w H => ?_))
   replace H : Hp _ w _ ([_, _, .blk b6 ((sha256 (s.l)).map V8) 31]) := H
   first | refine l_end ?_ | refine l_nil ?_
   repeat refine c_seq ?_
   refine c_region ?_
   refine l_op (o_val (r_slA (h := 32) (m := 32) (lv := none) (hv := none) (mv := none) rfl ar31 rfl rfl rfl (fun w => sbn w)) ?_)
   refine l_op (o_val (r_as) ?_)
   first | refine l_end ?_ | refine l_nil ?_
   repeat refine c_seq ?_
   refine c_region ?_
   refine l_op (o_val (r_as) ?_)
   refine l_op (o_val (r_as) ?_)
   first | refine l_end ?_ | refine l_nil ?_
   repeat refine c_seq ?_
   refine c_region ?_
   refine l_op (o_val (r_as) ?_)
   first | refine l_end ?_ | refine l_nil ?_
   repeat refine c_seq ?_
   refine c_block ?_
   have hkl : (sha256 (s.l)).length = 32 := by first | exact sha256_len _ | exact hsl
   repeat refine c_seq ?_
   refine c_loop5 (fun (i : Nat) (a : Option Nat) (c : Nat) (a2 : Option Nat) (c2 : Nat) => [(1, u.v), (4, .pointer (some ⟨b1, 0, none⟩)), (5, (⟨some ⟨b6, 0, none⟩, 32, 32, sha256 (s.l)⟩ : Sl).v), (7, .slice (hd a) i c), (8, .slice (hd a2) i c2), (9, VI (i : Int))])
     (fun (i : Nat) (a : Option Nat) (c : Nat) (a2 : Option Nat) (c2 : Nat) w => (i ≤ 64) ∧ Hp w0 w [] ([.blk b1 ((List.replicate 32 (0 : UInt8)).map V8) 31, .own a3 s.len c4 ((s.l).map V8) 5 1, .blk b6 ((sha256 (s.l)).map V8) 31, .own a i c (((kpad (sha256 (s.l)) 54).take i).map V8) 5 1, .own a2 i c2 (((kpad (sha256 (s.l)) 92).take i).map V8) 5 1]))
     (fun (i : Nat) (a : Option Nat) (c : Nat) (a2 : Option Nat) (c2 : Nat) => 64 - i) 0 none 0 none 0 ⟨rfl, rfl, rfl, rfl, rfl, rfl, trivial⟩ ⟨Nat.zero_le _, ((H.nilEnd 5 1).nilEnd 5 1)⟩ ?_
   clear H
   rintro i a c a2 c2 τ w ⟨hi, H⟩
   repeat refine c_seq ?_
   refine c_region ?_
   refine l_op (o_val (r_mv) ?_)
   refine l_op (o_val (r_bin (a := (i : Int)) (b := 64) rfl rfl (fun _ => b_lss)) ?_)
   first | refine l_end ?_ | refine l_nil ?_
   by_cases hc7 : (i : Int) < 64
   ·
    repeat refine c_seq ?_
    refine c_yes (by exact congrArg Value.bool (decide_eq_true hc7)) ?_
    refine c_skip ?_
    repeat refine c_seq ?_
    refine c_block ?_
    repeat refine c_seq ?_
    refine c_region ?_
    refine l_op (o_val (r_asV (c8 0 (by decide))) ?_)
    first | refine l_end ?_ | refine l_nil ?_
    repeat refine c_seq ?_
    refine c_region ?_
    refine l_op (o_val (r_mv) ?_)
    refine l_op (o_val (r_mv) ?_)
    refine l_op (o_val (r_lens el29 rfl) ?_)
    refine l_op (o_val (r_bin (a := (i : Int)) (b := 32) rfl rfl (fun _ => b_lss)) ?_)
    first | refine l_end ?_ | refine l_nil ?_
    by_cases hc8 : (i : Int) < 32
    ·
     repeat refine c_seq ?_
     refine c_yes (by exact congrArg Value.bool (decide_eq_true hc8)) ?_
     repeat refine c_seq ?_
     refine c_region ?_
     refine l_op (o_val (r_mv) ?_)
     refine l_op (o_val (r_mv) ?_)
     have ah11 := ((H.slBlkA (i := 2) rfl 32 (show (sha256 (s.l)).length = 32 from sha256_len _) (by decide))).addr (by (try simp only []); omega)
     obtain ⟨ab9, ao10, ah11⟩ := ah11
     refine l_op (o_val (r_isN i rfl rfl el29 ah11 (by omega) (by (try simp only []); omega)) ?_)
     refine l_op (o_val (r_ldB (s := (⟨some ⟨b6, 0, none⟩, 32, 32, sha256 (s.l)⟩ : Sl)) (k := i) (H.slBlkA (i := 2) rfl 32 (show (sha256 (s.l)).length = 32 from sha256_len _) (by decide)) ah11 rfl ct5 (by (try simp only []); omega)) ?_)
     refine l_op (o_val (r_as) ?_)
     first | refine l_end ?_ | refine l_nil ?_
     repeat refine c_seq ?_
     refine c_region ?_
     refine l_op (o_val (r_mv) ?_)
     refine l_op (o_val (r_mv) ?_)
     refine l_op (o_val (r_bin rfl (c8 54 (by decide)) (fun _ => b_xor_u8)) ?_)
     refine l_op (o_bslB ([((sha256 (s.l)).getD i 0) ^^^ (54 : UInt8)]) H sl29 zc5 rfl rfl (by decide) (fun b12 w H hb12 => ?_))
     replace H : Hp _ w _ ([_, _, _, _, _, .own (some b12) 1 1 (([((sha256 (s.l)).getD i 0) ^^^ (54 : UInt8)]).map V8) 5 1]) := H
     refine l_op (o_appB (s := ⟨hd (some b12), 1, 1, [((sha256 (s.l)).getD i 0) ^^^ (54 : UInt8)]⟩) (l' := (kpad (sha256 (s.l)) 54).take (i + 1)) (len' := i + 1) (kpad_step _ _ _ _ (by omega) (by omega) rfl) rfl H (i := 3) rfl sl29 Try.underlying29 rfl rfl (H.slOwn (i := 5) rfl) (by omega) (fun a13 c14 w H => ?_))
     replace H : Hp _ w _ ([_, _, _, .own a13 (i + 1) c14 (((kpad (sha256 (s.l)) 54).take (i + 1)).map V8) 5 1, _, _]) := H
     refine l_op (o_val (r_mv) ?_)
     refine l_op (o_val (r_mv) ?_)
     refine l_op (o_val (r_bin rfl (c8 92 (by decide)) (fun _ => b_xor_u8)) ?_)
     refine l_op (o_bslB ([((sha256 (s.l)).getD i 0) ^^^ (92 : UInt8)]) H sl29 zc5 rfl rfl (by decide) (fun b15 w H hb15 => ?_))
     replace H : Hp _ w _ ([_, _, _, _, _, _, .own (some b15) 1 1 (([((sha256 (s.l)).getD i 0) ^^^ (92 : UInt8)]).map V8) 5 1]) := H
     refine l_op (o_appB (s := ⟨hd (some b15), 1, 1, [((sha256 (s.l)).getD i 0) ^^^ (92 : UInt8)]⟩) (l' := (kpad (sha256 (s.l)) 92).take (i + 1)) (len' := i + 1) (kpad_step _ _ _ _ (by omega) (by omega) rfl) rfl H (i := 4) rfl sl29 Try.underlying29 rfl rfl (H.slOwn (i := 6) rfl) (by omega) (fun a16 c17 w H => ?_))
     replace H : Hp _ w _ ([_, _, _, _, .own a16 (i + 1) c17 (((kpad (sha256 (s.l)) 92).take (i + 1)).map V8) 5 1, _, _]) := H
     refine l_op (o_val (r_as) ?_)
     refine l_op (o_val (r_as) ?_)
     first | refine l_end ?_ | refine l_nil ?_
     repeat refine c_seq ?_
     refine c_region ?_
     refine l_op (o_val (r_mv) ?_)
     refine l_op (o_val (r_bin (a := (i : Int)) (b := 1) rfl rfl (fun _ => b_add (by omega) (by omega))) ?_)
     refine l_op (o_val (r_as) ?_)
     first | refine l_end ?_ | refine l_nil ?_
     refine round_end (i + 1, a13, c14, a16, c17) ?_ ?_ ?_
     · exact ⟨rfl, rfl, rfl, rfl, rfl, show VI ((i : Int) + 1) = VI ((i + 1 : Nat) : Int) from congrArg VI (by omega), trivial⟩
     · refine ⟨?_, ?_⟩
       · try dsimp only
         exact by omega
       · exact H.sub (.cons_cons _ (.cons_cons _ (.cons_cons _ (.cons_cons _ (.cons_cons _ (List.nil_sublist _))))))
     · show 64 - (i + 1 : Nat) < 64 - i; omega
    ·
     repeat refine c_seq ?_
     refine c_no (by exact congrArg Value.bool (decide_eq_false hc8)) ?_
     refine c_skip ?_
     repeat refine c_seq ?_
     refine c_region ?_
     refine l_op (o_val (r_mv) ?_)
     refine l_op (o_val (r_mv) ?_)
     refine l_op (o_val (r_bin rfl (c8 54 (by decide)) (fun _ => b_xor_u8)) ?_)
     refine l_op (o_bslB ([(0 : UInt8) ^^^ (54 : UInt8)]) H sl29 zc5 rfl rfl (by decide) (fun b18 w H hb18 => ?_))
     replace H : Hp _ w _ ([_, _, _, _, _, .own (some b18) 1 1 (([(0 : UInt8) ^^^ (54 : UInt8)]).map V8) 5 1]) := H
     refine l_op (o_appB (s := ⟨hd (some b18), 1, 1, [(0 : UInt8) ^^^ (54 : UInt8)]⟩) (l' := (kpad (sha256 (s.l)) 54).take (i + 1)) (len' := i + 1) (kpad_step _ _ _ _ (by omega) (by omega) (getD_none _ _ (by omega))) rfl H (i := 3) rfl sl29 Try.underlying29 rfl rfl (H.slOwn (i := 5) rfl) (by omega) (fun a19 c20 w H => ?_))
     replace H : Hp _ w _ ([_, _, _, .own a19 (i + 1) c20 (((kpad (sha256 (s.l)) 54).take (i + 1)).map V8) 5 1, _, _]) := H
     refine l_op (o_val (r_mv) ?_)
     refine l_op (o_val (r_mv) ?_)
     refine l_op (o_val (r_bin rfl (c8 92 (by decide)) (fun _ => b_xor_u8)) ?_)
     refine l_op (o_bslB ([(0 : UInt8) ^^^ (92 : UInt8)]) H sl29 zc5 rfl rfl (by decide) (fun b21 w H hb21 => ?_))
     replace H : Hp _ w _ ([_, _, _, _, _, _, .own (some b21) 1 1 (([(0 : UInt8) ^^^ (92 : UInt8)]).map V8) 5 1]) := H
     refine l_op (o_appB (s := ⟨hd (some b21), 1, 1, [(0 : UInt8) ^^^ (92 : UInt8)]⟩) (l' := (kpad (sha256 (s.l)) 92).take (i + 1)) (len' := i + 1) (kpad_step _ _ _ _ (by omega) (by omega) (getD_none _ _ (by omega))) rfl H (i := 4) rfl sl29 Try.underlying29 rfl rfl (H.slOwn (i := 6) rfl) (by omega) (fun a22 c23 w H => ?_))
     replace H : Hp _ w _ ([_, _, _, _, .own a22 (i + 1) c23 (((kpad (sha256 (s.l)) 92).take (i + 1)).map V8) 5 1, _, _]) := H
     refine l_op (o_val (r_as) ?_)
     refine l_op (o_val (r_as) ?_)
     first | refine l_end ?_ | refine l_nil ?_
     repeat refine c_seq ?_
     refine c_region ?_
     refine l_op (o_val (r_mv) ?_)
     refine l_op (o_val (r_bin (a := (i : Int)) (b := 1) rfl rfl (fun _ => b_add (by omega) (by omega))) ?_)
     refine l_op (o_val (r_as) ?_)
     first | refine l_end ?_ | refine l_nil ?_
     refine round_end (i + 1, a19, c20, a22, c23) ?_ ?_ ?_
     · exact ⟨rfl, rfl, rfl, rfl, rfl, show VI ((i : Int) + 1) = VI ((i + 1 : Nat) : Int) from congrArg VI (by omega), trivial⟩
     · refine ⟨?_, ?_⟩
       · try dsimp only
         exact by omega
       · exact H.sub (.cons_cons _ (.cons_cons _ (.cons_cons _ (.cons_cons _ (.cons_cons _ (List.nil_sublist _))))))
     · show 64 - (i + 1 : Nat) < 64 - i; omega
   ·
    repeat refine c_seq ?_
    refine c_no (by exact congrArg Value.bool (decide_eq_false hc7)) ?_
    refine c_exit ?_
    have hi2 : i = 64 := by omega
    subst hi2
    rw [kpad_all _ _ (by omega), kpad_all _ _ (by omega)] at H
    replace H : Hp _ w _ ([_, _, _, .own a 64 c ((kpad (sha256 (s.l)) 54).map V8) 5 1, .own a2 64 c2 ((kpad (sha256 (s.l)) 92).map V8) 5 1]) := H
    repeat refine c_seq ?_
    refine c_region ?_
    refine l_op (o_val (r_mv) ?_)
    refine l_op (o_val (r_mv) ?_)
    refine l_op (o_appB (s := u) (l' := kpad (sha256 (s.l)) 54 ++ u.l) (len' := 64 + u.len) rfl rfl H (i := 3) rfl sl29 Try.underlying29 rfl rfl (hu.up H (fun _ => apart_nil _)) (by omega) (fun a24 c25 w H => ?_))
    replace H : Hp _ w _ ([_, _, _, .own a24 (64 + u.len) c25 ((kpad (sha256 (s.l)) 54 ++ u.l).map V8) 5 1, _]) := H
    refine l_op (o_callR Try.func45 rfl rfl rfl (sum2_ret _ ⟨hd a24, 64 + u.len, c25, kpad (sha256 (s.l)) 54 ++ u.l⟩ (H.slOwn (i := 3) rfl) (by (try dsimp only); omega)) ?_)
    rintro _ w ⟨rfl, Hc⟩
    replace H : Hp _ w _ ([_, _, _, _, _]) := H.call Hc
    clear Hc
    refine l_op (o_alloc H zc31 (fun b26 w H hb26 => ?_))
    replace H : Hp _ w _ ([_, _, _, _, _, .blk b26 ((List.replicate 32 (0 : UInt8)).map V8) 31]) := H
    refine l_op (o_stA (l' := sha256 (kpad (sha256 (s.l)) 54 ++ u.l)) H (i := 5) rfl rfl rfl cs31 (show (List.replicate 32 (0 : UInt8)).length = 32 from (List.length_replicate ..)) (show (sha256 (kpad (sha256 (s.l)) 54 ++ u.l)).length = 32 from sha256_len _) (fun w H => ?_))
    replace H : Hp _ w _ ([_, _, _, _, _, .blk b26 ((sha256 (kpad (sha256 (s.l)) 54 ++ u.l)).map V8) 31]) := H
    first | refine l_end ?_ | refine l_nil ?_
    repeat refine c_seq ?_
    refine c_region ?_
    refine l_op (o_val (r_mv) ?_)
    refine l_op (o_val (r_slA (h := 32) (m := 32) (lv := none) (hv := none) (mv := none) rfl ar31 rfl rfl rfl (fun w => sbn w)) ?_)
    refine l_op (o_appB (s := (⟨some ⟨b26, 0, none⟩, 32, 32, sha256 (kpad (sha256 (s.l)) 54 ++ u.l)⟩ : Sl)) (l' := kpad (sha256 (s.l)) 92 ++ (sha256 (kpad (sha256 (s.l)) 54 ++ u.l))) (len' := 96) rfl rfl H (i := 4) rfl sl29 Try.underlying29 rfl rfl (H.slBlkA (i := 5) rfl 32 (show (sha256 (kpad (sha256 (s.l)) 54 ++ u.l)).length = 32 from sha256_len _) (by decide)) (by omega) (fun a27 c28 w H => ?_))
    replace H : Hp _ w _ ([_, _, _, _, .own a27 96 c28 ((kpad (sha256 (s.l)) 92 ++ (sha256 (kpad (sha256 (s.l)) 54 ++ u.l))).map V8) 5 1, _]) := H
    refine l_op (o_callR Try.func45 rfl rfl rfl (sum2_ret _ ⟨hd a27, 96, c28, kpad (sha256 (s.l)) 92 ++ (sha256 (kpad (sha256 (s.l)) 54 ++ u.l))⟩ (H.slOwn (i := 4) rfl) (by (try dsimp only); omega)) ?_)
    rintro _ w ⟨rfl, Hc⟩
    replace H : Hp _ w _ ([_, _, _, _, _, _]) := H.call Hc
    clear Hc
    refine l_op (o_stA (l' := sha256 (kpad (sha256 (s.l)) 92 ++ (sha256 (kpad (sha256 (s.l)) 54 ++ u.l)))) H (i := 0) rfl rfl rfl cs31 (show (List.replicate 32 (0 : UInt8)).length = 32 from (List.length_replicate ..)) (show (sha256 (kpad (sha256 (s.l)) 92 ++ (sha256 (kpad (sha256 (s.l)) 54 ++ u.l)))).length = 32 from sha256_len _) (fun w H => ?_))
    replace H : Hp _ w _ ([.blk b1 ((sha256 (kpad (sha256 (s.l)) 92 ++ (sha256 (kpad (sha256 (s.l)) 54 ++ u.l)))).map V8) 31, _, _, _, _, _]) := H
    first | refine l_end ?_ | refine l_nil ?_
    refine c_ret ?_
    try dsimp only [Exit.then, Exit.inBlock]
    refine e_retA (l := sha256 (kpad (sha256 (s.l)) 92 ++ (sha256 (kpad (sha256 (s.l)) 54 ++ u.l)))) Try.results50 H (i := 0) rfl rfl rt31 (show (sha256 (kpad (sha256 (s.l)) 92 ++ (sha256 (kpad (sha256 (s.l)) 54 ++ u.l)))).length = 32 from sha256_len _) ?_
    refine ⟨_, rfl, ?_⟩
    refine ⟨?_, H.sub (List.nil_sublist _)⟩
    rw [hmac, hkey, if_pos (by omega)]
  ·
   repeat refine c_seq ?_
   refine c_no (by exact congrArg Value.bool (decide_eq_false hc5)) ?_
   refine c_skip ?_
   repeat refine c_seq ?_
   refine c_region ?_
   refine l_op (o_val (r_as) ?_)
   refine l_op (o_val (r_as) ?_)
   first | refine l_end ?_ | refine l_nil ?_
   repeat refine c_seq ?_
   refine c_region ?_
   refine l_op (o_val (r_as) ?_)
   first | refine l_end ?_ | refine l_nil ?_
   repeat refine c_seq ?_
   refine c_block ?_
   have hkl : (s.l).length = s.len := by first | exact sha256_len _ | exact hsl
   repeat refine c_seq ?_
   refine c_loop5 (fun (i : Nat) (a : Option Nat) (c : Nat) (a2 : Option Nat) (c2 : Nat) => [(1, u.v), (4, .pointer (some ⟨b1, 0, none⟩)), (5, .slice (hd a3) s.len c4), (7, .slice (hd a) i c), (8, .slice (hd a2) i c2), (9, VI (i : Int))])
     (fun (i : Nat) (a : Option Nat) (c : Nat) (a2 : Option Nat) (c2 : Nat) w => (i ≤ 64) ∧ Hp w0 w [] ([.blk b1 ((List.replicate 32 (0 : UInt8)).map V8) 31, .own a3 s.len c4 ((s.l).map V8) 5 1, .own a i c (((kpad (s.l) 54).take i).map V8) 5 1, .own a2 i c2 (((kpad (s.l) 92).take i).map V8) 5 1]))
     (fun (i : Nat) (a : Option Nat) (c : Nat) (a2 : Option Nat) (c2 : Nat) => 64 - i) 0 none 0 none 0 ⟨rfl, rfl, rfl, rfl, rfl, rfl, trivial⟩ ⟨Nat.zero_le _, ((H.nilEnd 5 1).nilEnd 5 1)⟩ ?_
   clear H
   rintro i a c a2 c2 τ w ⟨hi, H⟩
   repeat refine c_seq ?_
   refine c_region ?_
   refine l_op (o_val (r_mv) ?_)
   refine l_op (o_val (r_bin (a := (i : Int)) (b := 64) rfl rfl (fun _ => b_lss)) ?_)
   first | refine l_end ?_ | refine l_nil ?_
   by_cases hc29 : (i : Int) < 64
   ·
    repeat refine c_seq ?_
    refine c_yes (by exact congrArg Value.bool (decide_eq_true hc29)) ?_
    refine c_skip ?_
    repeat refine c_seq ?_
    refine c_block ?_
    repeat refine c_seq ?_
    refine c_region ?_
    refine l_op (o_val (r_asV (c8 0 (by decide))) ?_)
    first | refine l_end ?_ | refine l_nil ?_
    repeat refine c_seq ?_
    refine c_region ?_
    refine l_op (o_val (r_mv) ?_)
    refine l_op (o_val (r_mv) ?_)
    refine l_op (o_val (r_lens el29 rfl) ?_)
    refine l_op (o_val (r_bin (a := (i : Int)) (b := (s.len : Int)) rfl rfl (fun _ => b_lss)) ?_)
    first | refine l_end ?_ | refine l_nil ?_
    by_cases hc30 : (i : Int) < (s.len : Int)
    ·
     repeat refine c_seq ?_
     refine c_yes (by exact congrArg Value.bool (decide_eq_true hc30)) ?_
     repeat refine c_seq ?_
     refine c_region ?_
     refine l_op (o_val (r_mv) ?_)
     refine l_op (o_val (r_mv) ?_)
     obtain ⟨ab31, ah32⟩ := H.ownAddr (i := 1) rfl (by omega)
     refine l_op (o_val (r_isN i rfl rfl el29 ah32 (by omega) (by (try simp only [Sl.cut]); omega)) ?_)
     refine l_op (o_val (r_ldB (s := ⟨hd a3, s.len, c4, s.l⟩) (k := i) (H.slOwn (i := 1) rfl) ah32 rfl ct5 (by (try simp only []); omega)) ?_)
     refine l_op (o_val (r_as) ?_)
     first | refine l_end ?_ | refine l_nil ?_
     repeat refine c_seq ?_
     refine c_region ?_
     refine l_op (o_val (r_mv) ?_)
     refine l_op (o_val (r_mv) ?_)
     refine l_op (o_val (r_bin rfl (c8 54 (by decide)) (fun _ => b_xor_u8)) ?_)
     refine l_op (o_bslB ([((s.l).getD i 0) ^^^ (54 : UInt8)]) H sl29 zc5 rfl rfl (by decide) (fun b33 w H hb33 => ?_))
     replace H : Hp _ w _ ([_, _, _, _, .own (some b33) 1 1 (([((s.l).getD i 0) ^^^ (54 : UInt8)]).map V8) 5 1]) := H
     refine l_op (o_appB (s := ⟨hd (some b33), 1, 1, [((s.l).getD i 0) ^^^ (54 : UInt8)]⟩) (l' := (kpad (s.l) 54).take (i + 1)) (len' := i + 1) (kpad_step _ _ _ _ (by omega) (by omega) rfl) rfl H (i := 2) rfl sl29 Try.underlying29 rfl rfl (H.slOwn (i := 4) rfl) (by omega) (fun a34 c35 w H => ?_))
     replace H : Hp _ w _ ([_, _, .own a34 (i + 1) c35 (((kpad (s.l) 54).take (i + 1)).map V8) 5 1, _, _]) := H
     refine l_op (o_val (r_mv) ?_)
     refine l_op (o_val (r_mv) ?_)
     refine l_op (o_val (r_bin rfl (c8 92 (by decide)) (fun _ => b_xor_u8)) ?_)
     refine l_op (o_bslB ([((s.l).getD i 0) ^^^ (92 : UInt8)]) H sl29 zc5 rfl rfl (by decide) (fun b36 w H hb36 => ?_))
     replace H : Hp _ w _ ([_, _, _, _, _, .own (some b36) 1 1 (([((s.l).getD i 0) ^^^ (92 : UInt8)]).map V8) 5 1]) := H
     refine l_op (o_appB (s := ⟨hd (some b36), 1, 1, [((s.l).getD i 0) ^^^ (92 : UInt8)]⟩) (l' := (kpad (s.l) 92).take (i + 1)) (len' := i + 1) (kpad_step _ _ _ _ (by omega) (by omega) rfl) rfl H (i := 3) rfl sl29 Try.underlying29 rfl rfl (H.slOwn (i := 5) rfl) (by omega) (fun a37 c38 w H => ?_))
     replace H : Hp _ w _ ([_, _, _, .own a37 (i + 1) c38 (((kpad (s.l) 92).take (i + 1)).map V8) 5 1, _, _]) := H
     refine l_op (o_val (r_as) ?_)
     refine l_op (o_val (r_as) ?_)
     first | refine l_end ?_ | refine l_nil ?_
     repeat refine c_seq ?_
     refine c_region ?_
     refine l_op (o_val (r_mv) ?_)
     refine l_op (o_val (r_bin (a := (i : Int)) (b := 1) rfl rfl (fun _ => b_add (by omega) (by omega))) ?_)
     refine l_op (o_val (r_as) ?_)
     first | refine l_end ?_ | refine l_nil ?_
     refine round_end (i + 1, a34, c35, a37, c38) ?_ ?_ ?_
     · exact ⟨rfl, rfl, rfl, rfl, rfl, show VI ((i : Int) + 1) = VI ((i + 1 : Nat) : Int) from congrArg VI (by omega), trivial⟩
     · refine ⟨?_, ?_⟩
       · try dsimp only
         exact by omega
       · exact H.sub (.cons_cons _ (.cons_cons _ (.cons_cons _ (.cons_cons _ (List.nil_sublist _)))))
     · show 64 - (i + 1 : Nat) < 64 - i; omega
    ·
     repeat refine c_seq ?_
     refine c_no (by exact congrArg Value.bool (decide_eq_false hc30)) ?_
     refine c_skip ?_
     repeat refine c_seq ?_
     refine c_region ?_
     refine l_op (o_val (r_mv) ?_)
     refine l_op (o_val (r_mv) ?_)
     refine l_op (o_val (r_bin rfl (c8 54 (by decide)) (fun _ => b_xor_u8)) ?_)
     refine l_op (o_bslB ([(0 : UInt8) ^^^ (54 : UInt8)]) H sl29 zc5 rfl rfl (by decide) (fun b39 w H hb39 => ?_))
     replace H : Hp _ w _ ([_, _, _, _, .own (some b39) 1 1 (([(0 : UInt8) ^^^ (54 : UInt8)]).map V8) 5 1]) := H
     refine l_op (o_appB (s := ⟨hd (some b39), 1, 1, [(0 : UInt8) ^^^ (54 : UInt8)]⟩) (l' := (kpad (s.l) 54).take (i + 1)) (len' := i + 1) (kpad_step _ _ _ _ (by omega) (by omega) (getD_none _ _ (by omega))) rfl H (i := 2) rfl sl29 Try.underlying29 rfl rfl (H.slOwn (i := 4) rfl) (by omega) (fun a40 c41 w H => ?_))
     replace H : Hp _ w _ ([_, _, .own a40 (i + 1) c41 (((kpad (s.l) 54).take (i + 1)).map V8) 5 1, _, _]) := H
     refine l_op (o_val (r_mv) ?_)
     refine l_op (o_val (r_mv) ?_)
     refine l_op (o_val (r_bin rfl (c8 92 (by decide)) (fun _ => b_xor_u8)) ?_)
     refine l_op (o_bslB ([(0 : UInt8) ^^^ (92 : UInt8)]) H sl29 zc5 rfl rfl (by decide) (fun b42 w H hb42 => ?_))
     replace H : Hp _ w _ ([_, _, _, _, _, .own (some b42) 1 1 (([(0 : UInt8) ^^^ (92 : UInt8)]).map V8) 5 1]) := H
     refine l_op (o_appB (s := ⟨hd (some b42), 1, 1, [(0 : UInt8) ^^^ (92 : UInt8)]⟩) (l' := (kpad (s.l) 92).take (i + 1)) (len' := i + 1) (kpad_step _ _ _ _ (by omega) (by omega) (getD_none _ _ (by omega))) rfl H (i := 3) rfl sl29 Try.underlying29 rfl rfl (H.slOwn (i := 5) rfl) (by omega) (fun a43 c44 w H => ?_))
     replace H : Hp _ w _ ([_, _, _, .own a43 (i + 1) c44 (((kpad (s.l) 92).take (i + 1)).map V8) 5 1, _, _]) := H
     refine l_op (o_val (r_as) ?_)
     refine l_op (o_val (r_as) ?_)
     first | refine l_end ?_ | refine l_nil ?_
     repeat refine c_seq ?_
     refine c_region ?_
     refine l_op (o_val (r_mv) ?_)
     refine l_op (o_val (r_bin (a := (i : Int)) (b := 1) rfl rfl (fun _ => b_add (by omega) (by omega))) ?_)
     refine l_op (o_val (r_as) ?_)
     first | refine l_end ?_ | refine l_nil ?_
     refine round_end (i + 1, a40, c41, a43, c44) ?_ ?_ ?_
     · exact ⟨rfl, rfl, rfl, rfl, rfl, show VI ((i : Int) + 1) = VI ((i + 1 : Nat) : Int) from congrArg VI (by omega), trivial⟩
     · refine ⟨?_, ?_⟩
       · try dsimp only
         exact by omega
       · exact H.sub (.cons_cons _ (.cons_cons _ (.cons_cons _ (.cons_cons _ (List.nil_sublist _)))))
     · show 64 - (i + 1 : Nat) < 64 - i; omega
   ·
    repeat refine c_seq ?_
    refine c_no (by exact congrArg Value.bool (decide_eq_false hc29)) ?_
    refine c_exit ?_
    have hi2 : i = 64 := by omega
    subst hi2
    rw [kpad_all _ _ (by omega), kpad_all _ _ (by omega)] at H
    replace H : Hp _ w _ ([_, _, .own a 64 c ((kpad (s.l) 54).map V8) 5 1, .own a2 64 c2 ((kpad (s.l) 92).map V8) 5 1]) := H
    repeat refine c_seq ?_
    refine c_region ?_
    refine l_op (o_val (r_mv) ?_)
    refine l_op (o_val (r_mv) ?_)
    refine l_op (o_appB (s := u) (l' := kpad (s.l) 54 ++ u.l) (len' := 64 + u.len) rfl rfl H (i := 2) rfl sl29 Try.underlying29 rfl rfl (hu.up H (fun _ => apart_nil _)) (by omega) (fun a45 c46 w H => ?_))
    replace H : Hp _ w _ ([_, _, .own a45 (64 + u.len) c46 ((kpad (s.l) 54 ++ u.l).map V8) 5 1, _]) := H
    refine l_op (o_callR Try.func45 rfl rfl rfl (sum2_ret _ ⟨hd a45, 64 + u.len, c46, kpad (s.l) 54 ++ u.l⟩ (H.slOwn (i := 2) rfl) (by (try dsimp only); omega)) ?_)
    rintro _ w ⟨rfl, Hc⟩
    replace H : Hp _ w _ ([_, _, _, _]) := H.call Hc
    clear Hc
    refine l_op (o_alloc H zc31 (fun b47 w H hb47 => ?_))
    replace H : Hp _ w _ ([_, _, _, _, .blk b47 ((List.replicate 32 (0 : UInt8)).map V8) 31]) := H
    refine l_op (o_stA (l' := sha256 (kpad (s.l) 54 ++ u.l)) H (i := 4) rfl rfl rfl cs31 (show (List.replicate 32 (0 : UInt8)).length = 32 from (List.length_replicate ..)) (show (sha256 (kpad (s.l) 54 ++ u.l)).length = 32 from sha256_len _) (fun w H => ?_))
    replace H : Hp _ w _ ([_, _, _, _, .blk b47 ((sha256 (kpad (s.l) 54 ++ u.l)).map V8) 31]) := H
    first | refine l_end ?_ | refine l_nil ?_
    repeat refine c_seq ?_
    refine c_region ?_
    refine l_op (o_val (r_mv) ?_)
    refine l_op (o_val (r_slA (h := 32) (m := 32) (lv := none) (hv := none) (mv := none) rfl ar31 rfl rfl rfl (fun w => sbn w)) ?_)
    refine l_op (o_appB (s := (⟨some ⟨b47, 0, none⟩, 32, 32, sha256 (kpad (s.l) 54 ++ u.l)⟩ : Sl)) (l' := kpad (s.l) 92 ++ (sha256 (kpad (s.l) 54 ++ u.l))) (len' := 96) rfl rfl H (i := 3) rfl sl29 Try.underlying29 rfl rfl (H.slBlkA (i := 4) rfl 32 (show (sha256 (kpad (s.l) 54 ++ u.l)).length = 32 from sha256_len _) (by decide)) (by omega) (fun a48 c49 w H => ?_))
    replace H : Hp _ w _ ([_, _, _, .own a48 96 c49 ((kpad (s.l) 92 ++ (sha256 (kpad (s.l) 54 ++ u.l))).map V8) 5 1, _]) := H
    refine l_op (o_callR Try.func45 rfl rfl rfl (sum2_ret _ ⟨hd a48, 96, c49, kpad (s.l) 92 ++ (sha256 (kpad (s.l) 54 ++ u.l))⟩ (H.slOwn (i := 3) rfl) (by (try dsimp only); omega)) ?_)
    rintro _ w ⟨rfl, Hc⟩
    replace H : Hp _ w _ ([_, _, _, _, _]) := H.call Hc
    clear Hc
    refine l_op (o_stA (l' := sha256 (kpad (s.l) 92 ++ (sha256 (kpad (s.l) 54 ++ u.l)))) H (i := 0) rfl rfl rfl cs31 (show (List.replicate 32 (0 : UInt8)).length = 32 from (List.length_replicate ..)) (show (sha256 (kpad (s.l) 92 ++ (sha256 (kpad (s.l) 54 ++ u.l)))).length = 32 from sha256_len _) (fun w H => ?_))
    replace H : Hp _ w _ ([.blk b1 ((sha256 (kpad (s.l) 92 ++ (sha256 (kpad (s.l) 54 ++ u.l)))).map V8) 31, _, _, _, _]) := H
    first | refine l_end ?_ | refine l_nil ?_
    refine c_ret ?_
    try dsimp only [Exit.then, Exit.inBlock]
    refine e_retA (l := sha256 (kpad (s.l) 92 ++ (sha256 (kpad (s.l) 54 ++ u.l)))) Try.results50 H (i := 0) rfl rfl rt31 (show (sha256 (kpad (s.l) 92 ++ (sha256 (kpad (s.l) 54 ++ u.l)))).length = 32 from sha256_len _) ?_
    refine ⟨_, rfl, ?_⟩
    refine ⟨?_, H.sub (List.nil_sublist _)⟩
    rw [hmac, hkey, if_neg (by omega)]
theorem of3_ret (w0 : World) (s : Sl) (hs : s.ok w0) (pa : Option Addr) (pl pc : Nat) (ps : List Sl) (hr : RdS w0 pa (ps.map Sl.v)) (hl : ps.length = pl) (hok : ∀ p ∈ ps, p.ok w0) (h1 : s.len ≤ 1000000) (hp63 : pl ≤ 1048576) (hB : (framed (ps.map Sl.l)).length ≤ 1000000) :
    Ret Try.prog 53 [s.v, .slice pa pl pc] w0 fun v w' => v = .agg ((hmac s.l (framed (ps.map Sl.l))).map V8).toArray ∧ Hp w0 w' [] [] := by
  refine ret_mk Try.func53 rfl Try.ntmps53 (by simp) ?_
  have H := Hp.refl w0 []
  repeat refine c_seq ?_
  refine c_region ?_
  refine l_op (o_alloc H zc31 (fun b1 w H hb1 => ?_))
  replace H : Hp _ w _ ([.blk b1 ((List.replicate 32 (0 : UInt8)).map V8) 31]) := H
  first | refine l_end ?_ | refine l_nil ?_
  repeat refine c_seq ?_
  refine c_region ?_
  refine l_op (o_val (r_as) ?_)
  first | refine l_end ?_ | refine l_nil ?_
  repeat refine c_seq ?_
  refine c_region ?_
  refine l_op (o_val (r_as) ?_)
  first | refine l_end ?_ | refine l_nil ?_
  repeat refine c_seq ?_
  refine c_block ?_
  repeat refine c_seq ?_
  refine c_loop3 (fun (i : Nat) (a : Option Nat) (c : Nat) => [(0, s.v), (1, .slice pa pl pc), (4, .pointer (some ⟨b1, 0, none⟩)), (5, .slice (hd a) ((fr ps i).length) c), (6, VI (i : Int))])
    (fun (i : Nat) (a : Option Nat) (c : Nat) w => (i ≤ pl) ∧ Hp w0 w [] ([.blk b1 ((List.replicate 32 (0 : UInt8)).map V8) 31, .own a ((fr ps i).length) c ((fr ps i).map V8) 5 1]))
    (fun (i : Nat) (a : Option Nat) (c : Nat) => pl - i) 0 none 0 ⟨rfl, rfl, rfl, rfl, rfl, trivial⟩ ⟨Nat.zero_le _, (H.nilEnd 5 1)⟩ ?_
  clear H
  rintro i a c τ w ⟨hi, H⟩
  repeat refine c_seq ?_
  refine c_region ?_
  refine l_op (o_val (r_mv) ?_)
  refine l_op (o_val (r_mv) ?_)
  refine l_op (o_val (r_lens el22 rfl) ?_)
  refine l_op (o_val (r_bin (a := (i : Int)) (b := (pl : Int)) rfl rfl (fun _ => b_lss)) ?_)
  first | refine l_end ?_ | refine l_nil ?_
  by_cases hc2 : (i : Int) < (pl : Int)
  ·
   repeat refine c_seq ?_
   refine c_yes (by exact congrArg Value.bool (decide_eq_true hc2)) ?_
   refine c_skip ?_
   repeat refine c_seq ?_
   refine c_block ?_
   repeat refine c_seq ?_
   refine wp_held (fun w => Hp w0 w [] [.blk b1 ((List.replicate 32 (0 : UInt8)).map V8) 31]) mixed ?_
   replace H := H.drew
   have HS := H.sub (.cons_cons _ (List.nil_sublist _))
   refine t_take 0 rfl (by kernel_rfl) (by kernel_rfl) (by kernel_rfl) (fun _ _ _ h => h) (fun w HS => r_mv) HS ?_
   refine t_take 1 rfl (by kernel_rfl) (by kernel_rfl) (by kernel_rfl) (fun _ _ _ h => h) (fun w HS => r_mv) HS ?_
   refine t_take 2 rfl (by kernel_rfl) (by kernel_rfl) (by kernel_rfl) (fun _ _ _ h => h) (fun w HS => r_mv) HS ?_
   obtain ⟨ab3, ao4, ah5⟩ := (HS.rd hr (apart_nil _)).addr (by simp only [List.length_map]; omega)
   refine t_take 3 rfl (by kernel_rfl) (by kernel_rfl) (by kernel_rfl) (fun _ _ _ h => h) (fun w HS => r_isN i rfl rfl el22 ah5 (by omega) (by (try simp only [Sl.cut]); omega)) HS ?_
   obtain ⟨p6, hp7⟩ : ∃ p, ps[i]? = some p := ⟨_, List.getElem?_eq_getElem (by omega)⟩
   have hpok8 := hok p6 (List.mem_of_getElem? hp7)
   have hpok8n := hpok8.ln
   have hpok8m := hpok8.le
   refine t_take 4 rfl (by kernel_rfl) (by kernel_rfl) (by kernel_rfl) (fun _ _ _ h => h) (fun w HS => r_ldP (k := i) (HS.rd hr (apart_nil _)) ah5 rfl ct29 hp7) HS ?_
   refine t_take 5 rfl (by kernel_rfl) (by kernel_rfl) (by kernel_rfl) (fun _ _ _ h => h) (fun w HS => r_lens el29 rfl) HS ?_
   refine t_take 6 rfl (by kernel_rfl) (by kernel_rfl) (by kernel_rfl) (fun _ _ _ h => h) (fun w HS => r_conv (v := ((UInt64.ofNat p6.len).toNat : Int)) Try.underlying3 Try.underlying35 rfl (w_u64_N p6.len (by omega))) HS ?_
   refine t_take 9 rfl (by kernel_rfl) (by kernel_rfl) (by kernel_rfl) (fun _ _ _ h => h) (fun w HS => r_mv) HS ?_
   refine t_take 10 rfl (by kernel_rfl) (by kernel_rfl) (by kernel_rfl) (fun _ _ _ h => h) (fun w HS => r_mv) HS ?_
   refine t_take 11 rfl (by kernel_rfl) (by kernel_rfl) (by kernel_rfl) (fun _ _ _ h => h) (fun w HS => r_isN i rfl rfl el22 ah5 (by omega) (by (try simp only [Sl.cut]); omega)) HS ?_
   refine t_take 12 rfl (by kernel_rfl) (by kernel_rfl) (by kernel_rfl) (fun _ _ _ h => h) (fun w HS => r_ldP (k := i) (HS.rd hr (apart_nil _)) ah5 rfl ct29 hp7) HS ?_
   refine t_step 7 rfl (by kernel_rfl) (o_callR Try.func55 rfl rfl rfl (eight_ret _ (UInt64.ofNat p6.len)) ?_)
   rintro _ w ⟨a9, c10, rfl, Hc⟩
   replace H : Hp _ w _ ([_, _, .own a9 8 c10 ((be (UInt64.ofNat p6.len).toNat 8).map V8) 5 1]) := H.call Hc
   clear Hc
   refine ⟨H.sub (.cons_cons _ (List.nil_sublist _)), ?_⟩
   replace HS := H.sub (.cons_cons _ (List.nil_sublist _))
   have hs1 := fr_succ ps i p6 hp7
   have hs2 := fr_le ps (i + 1)
   have hs3 : (fr ps (i + 1)).length = (fr ps i).length + 8 + p6.l.length := by rw [hs1]; simp [be_len]; omega
   refine t_step 8 rfl (by kernel_rfl) (o_appB (s := ⟨hd a9, 8, c10, be (UInt64.ofNat p6.len).toNat 8⟩) (l' := fr ps i ++ (be (UInt64.ofNat p6.len).toNat 8)) (len' := (fr ps i).length + 8) rfl rfl H (i := 1) rfl sl29 Try.underlying29 rfl rfl (H.slOwn (i := 2) rfl) (by omega) (fun a11 c12 w H => ?_))
   replace H : Hp _ w _ ([_, .own a11 ((fr ps i).length + 8) c12 ((fr ps i ++ (be (UInt64.ofNat p6.len).toNat 8)).map V8) 5 1, _]) := H
   refine ⟨H.sub (.cons_cons _ (List.nil_sublist _)), ?_⟩
   replace HS := H.sub (.cons_cons _ (List.nil_sublist _))
   refine t_step 13 rfl (by kernel_rfl) (o_appB (s := p6) (l' := fr ps (i + 1)) (len' := (fr ps (i + 1)).length) (by rw [hs1, ofNat_nat _ (by omega), hpok8n]) (by omega) H (i := 1) rfl sl29 Try.underlying29 rfl rfl (hpok8.up H (fun _ => apart_nil _)) (by omega) (fun a13 c14 w H => ?_))
   replace H : Hp _ w _ ([_, .own a13 ((fr ps (i + 1)).length) c14 ((fr ps (i + 1)).map V8) 5 1, _]) := H
   refine ⟨H.sub (.cons_cons _ (List.nil_sublist _)), ?_⟩
   replace HS := H.sub (.cons_cons _ (List.nil_sublist _))
   refine t_take 14 rfl (by kernel_rfl) (by kernel_rfl) (by kernel_rfl) (fun _ _ _ h => h) (fun w HS => r_as) HS ?_
   refine t_done (by kernel_rfl) ?_
   clear HS
   repeat refine c_seq ?_
   refine c_region ?_
   refine l_op (o_val (r_mv) ?_)
   refine l_op (o_val (r_bin (a := (i : Int)) (b := 1) rfl rfl (fun _ => b_add (by omega) (by omega))) ?_)
   refine l_op (o_val (r_as) ?_)
   first | refine l_end ?_ | refine l_nil ?_
   refine round_end (i + 1, a13, c14) ?_ ?_ ?_
   · exact ⟨rfl, rfl, rfl, rfl, show VI ((i : Int) + 1) = VI ((i + 1 : Nat) : Int) from congrArg VI (by omega), trivial⟩
   · refine ⟨?_, ?_⟩
     · try dsimp only
       exact by omega
     · exact H.sub (.cons_cons _ (.cons_cons _ (List.nil_sublist _)))
   · show pl - (i + 1 : Nat) < pl - i; omega
  ·
   repeat refine c_seq ?_
   refine c_no (by exact congrArg Value.bool (decide_eq_false hc2)) ?_
   refine c_exit ?_
   have hi2 : i = pl := by omega
   subst hi2
   have hfl := fr_le ps i
   repeat refine c_seq ?_
   refine c_region ?_
   refine l_op (o_val (r_mv) ?_)
   refine l_op (o_val (r_mv) ?_)
   refine l_op (o_callR Try.func50 rfl rfl rfl (raw3_ret _ s ⟨hd a, (fr ps i).length, c, fr ps i⟩ (hs.up H (fun _ => apart_nil _)) (H.slOwn (i := 1) rfl) (by (try dsimp only); omega) (by (try dsimp only); omega)) ?_)
   rintro _ w ⟨rfl, Hc⟩
   replace H : Hp _ w _ ([_, _]) := H.call Hc
   clear Hc
   refine l_op (o_stA (l' := hmac (s.l) (fr ps i)) H (i := 0) rfl rfl rfl cs31 (show (List.replicate 32 (0 : UInt8)).length = 32 from (List.length_replicate ..)) (show (hmac (s.l) (fr ps i)).length = 32 from hmac_len _ _) (fun w H => ?_))
   replace H : Hp _ w _ ([.blk b1 ((hmac (s.l) (fr ps i)).map V8) 31, _]) := H
   first | refine l_end ?_ | refine l_nil ?_
   refine c_ret ?_
   try dsimp only [Exit.then, Exit.inBlock]
   refine e_retA (l := hmac (s.l) (fr ps i)) Try.results53 H (i := 0) rfl rfl rt31 (show (hmac (s.l) (fr ps i)).length = 32 from hmac_len _ _) ?_
   refine ⟨_, rfl, ?_⟩
   rw [fr_all ps i hl]
   exact ⟨rfl, H.sub (List.nil_sublist _)⟩
end Go.Proofs.Ytjmbbhnpfmblpaa
namespace Go.Proofs.Ytjmbbhnpfmblpaa
open Go
set_option maxRecDepth 100000
theorem b_neg_i64 {P : Program} {w : World} {a : Int} (h1 : -9223372036854775808 ≤ -a) (h2 : -a ≤ 9223372036854775807) : (Op.unary .neg (VI a)).run P w = .ok (VI (-a)) w := by
  have := wrap_i64 (n := -a) h1 h2
  simp [Op.unary, Op.intArith, this]
theorem ofInt_nat (v : Int) (h0 : 0 ≤ v) : UInt64.ofInt v = UInt64.ofNat v.toNat := by
  apply UInt64.toNat_inj.1
  simp only [UInt64.ofInt, UInt64.toNat_ofNat']
  omega
theorem zig_pos (v : Int) (h0 : 0 ≤ v) (h1 : v ≤ 9223372036854775807) : zigU v = 2 * UInt64.ofInt v := by
  have e : v / 2 ^ (63 : Int).toNat = 0 := by
    have : (2 : Int) ^ (63 : Int).toNat = 9223372036854775808 := rfl
    rw [this]; omega
  have z : UInt64.ofInt 0 = 0 := rfl
  rw [zigU, e, z, UInt64.xor_zero]
  apply UInt64.toNat_inj.1
  have e1 : (UInt64.ofNat 1).toNat % 64 = 1 := rfl
  have e2 : (2 : UInt64).toNat = 2 := rfl
  rw [UInt64.toNat_shiftLeft, UInt64.toNat_mul, e1, e2, Nat.shiftLeft_eq, Nat.mul_comm]
theorem xor_ones (x : UInt64) : x ^^^ UInt64.ofInt (-1) = ~~~x := by
  apply UInt64.toBitVec_inj.1
  have : (UInt64.ofInt (-1)).toBitVec = BitVec.allOnes 64 := by decide
  rw [UInt64.toBitVec_xor, this, BitVec.xor_allOnes, UInt64.toBitVec_not]
theorem zig_neg (v : Int) (h0 : v < 0) (h1 : -9223372036854775808 ≤ v) : zigU v = 2 * UInt64.ofInt (-(v + 1)) + 1 := by
  have e : v / 2 ^ (63 : Int).toNat = -1 := by
    have : (2 : Int) ^ (63 : Int).toNat = 9223372036854775808 := rfl
    rw [this]; omega
  rw [zigU, e, xor_ones]
  apply UInt64.toNat_inj.1
  have e1 : (UInt64.ofNat 1).toNat % 64 = 1 := rfl
  have e2 : (2 : UInt64).toNat = 2 := rfl
  have e3 : (1 : UInt64).toNat = 1 := rfl
  have n1 : (UInt64.ofInt v).toNat = (v % 18446744073709551616).toNat := by simp only [UInt64.ofInt, UInt64.toNat_ofNat']; omega
  have n2 : (UInt64.ofInt (-(v + 1))).toNat = (-(v + 1)).toNat := by simp only [UInt64.ofInt, UInt64.toNat_ofNat']; omega
  rw [UInt64.toNat_not, UInt64.toNat_shiftLeft, UInt64.toNat_add, UInt64.toNat_mul, e1, e2, e3, Nat.shiftLeft_eq, n1, n2]
  simp only [UInt64.size]
  omega
theorem zig1_ret (w0 : World) (n : Int) (h1 : -9223372036854775808 ≤ n) (h2 : n ≤ 9223372036854775807) :
    Ret Try.prog 142 [VI n] w0 fun v w' => v = V64 (zigU n) ∧ Hp w0 w' [] [] := by
  refine ret_mk Try.func142 rfl Try.ntmps142 (by simp) ?_
  have H := Hp.refl w0 []
  repeat refine c_seq ?_
  refine c_region ?_
  refine l_op (o_val (r_asV (c64 0 (by decide))) ?_)
  first | refine l_end ?_ | refine l_nil ?_
  repeat refine c_seq ?_
  refine c_region ?_
  refine l_op (o_val (r_mv) ?_)
  refine l_op (o_val (r_bin (a := n) (b := 0) rfl rfl (fun _ => b_lss)) ?_)
  first | refine l_end ?_ | refine l_nil ?_
  by_cases hc1 : n < 0
  ·
   repeat refine c_seq ?_
   refine c_yes (by exact congrArg Value.bool (decide_eq_true hc1)) ?_
   repeat refine c_seq ?_
   refine c_region ?_
   refine l_op (o_val (r_mv) ?_)
   refine l_op (o_val (r_bin (a := n) (b := 1) rfl rfl (fun _ => b_add (by omega) (by omega))) ?_)
   refine l_op (o_val (r_un (a := n + 1) rfl (fun _ => b_neg_i64 (by omega) (by omega))) ?_)
   refine l_op (o_val (r_conv Try.underlying2 Try.underlying35 rfl (w_u64_I _)) ?_)
   refine l_op (o_val (r_bin (c64 2 (by decide)) rfl (fun _ => b_mul_u64)) ?_)
   refine l_op (o_val (r_bin rfl (c64 1 (by decide)) (fun _ => b_add_u64)) ?_)
   refine l_op (o_val (r_as) ?_)
   first | refine l_end ?_ | refine l_nil ?_
   refine c_ret ?_
   try dsimp only [Exit.then, Exit.inBlock]
   refine e_ret1 (v := V64 (((2 : UInt64) * (UInt64.ofInt (-(n + 1)))) + (1 : UInt64))) Try.results142 rfl ?_
   refine ⟨_, rfl, ?_⟩
   refine ⟨?_, H⟩
   rw [zig_neg n (by omega) (by omega)]
  ·
   repeat refine c_seq ?_
   refine c_no (by exact congrArg Value.bool (decide_eq_false hc1)) ?_
   refine c_skip ?_
   repeat refine c_seq ?_
   refine c_region ?_
   refine l_op (o_val (r_mv) ?_)
   refine l_op (o_val (r_conv Try.underlying2 Try.underlying35 rfl (w_u64_I _)) ?_)
   refine l_op (o_val (r_bin (c64 2 (by decide)) rfl (fun _ => b_mul_u64)) ?_)
   refine l_op (o_val (r_as) ?_)
   first | refine l_end ?_ | refine l_nil ?_
   refine c_ret ?_
   try dsimp only [Exit.then, Exit.inBlock]
   refine e_ret1 (v := V64 ((2 : UInt64) * (UInt64.ofInt n))) Try.results142 rfl ?_
   refine ⟨_, rfl, ?_⟩
   refine ⟨?_, H⟩
   rw [zig_pos n (by omega) (by omega)]
theorem cnt1_byte (v : UInt64) : (v % 128 + 128).toUInt8 = v.toUInt8 ||| 128 := by
  apply UInt8.toNat_inj.1
  have e1 : (128 : UInt64).toNat = 128 := rfl
  have e2 : (128 : UInt8).toNat = 128 := rfl
  rw [UInt64.toNat_toUInt8, UInt64.toNat_add, UInt64.toNat_mod, UInt8.toNat_or, UInt64.toNat_toUInt8, e1, e2]
  have h : v.toNat % 256 ||| 128 = v.toNat % 128 + 128 := by
    have hx : v.toNat % 256 = (v.toNat % 256 / 128) * 128 + v.toNat % 128 := by omega
    have hb : v.toNat % 256 / 128 = 0 ∨ v.toNat % 256 / 128 = 1 := by omega
    have hlt : v.toNat % 128 < 2 ^ 7 := Nat.mod_lt _ (by decide)
    have key : v.toNat % 128 ||| 128 = 128 + v.toNat % 128 := by
      rw [Nat.or_comm]; exact (Nat.shiftLeft_add_eq_or_of_lt hlt 1).symm
    rcases hb with h0 | h0
    · rw [hx, h0, Nat.zero_mul, Nat.zero_add, key]; omega
    · have key2 : (128 + v.toNat % 128) ||| 128 = 128 + v.toNat % 128 := by
        rw [← key, Nat.or_assoc, Nat.or_self]
      rw [hx, h0, Nat.one_mul, key2]; omega
  rw [h]
  omega
theorem div128 (v : UInt64) : (v / 128).toNat = v.toNat / 128 := by rw [UInt64.toNat_div]; rfl
theorem count1_ret (w0 : World) (s : Sl) (hs : s.ok w0) (u : UInt64) (hm : s.len ≤ 1048576) :
    Ret Try.prog 149 [s.v, V64 u] w0 fun v w' => ∃ a n c, v = .slice (hd a) n c ∧ n ≤ s.len + 11 ∧ Hp w0 w' [] [.own a n c ((s.l ++ cnt u.toNat).map V8) 5 1] := by
  refine ret_mk Try.func149 rfl Try.ntmps149 (by simp) ?_
  have H := Hp.refl w0 []
  repeat refine c_seq ?_
  refine c_region ?_
  refine l_op (o_val (r_as) ?_)
  first | refine l_end ?_ | refine l_nil ?_
  repeat refine c_seq ?_
  refine c_region ?_
  refine l_op (o_bslB (([] : List UInt8)) H sl29 zc5 rfl rfl (by decide) (fun b1 w H hb1 => ?_))
  replace H : Hp _ w _ ([.own (some b1) 0 0 ((([] : List UInt8)).map V8) 5 1]) := H
  refine l_op (o_val (r_mv) ?_)
  refine l_op (o_appB (s := s) (l' := s.l) (len' := s.len) rfl (Nat.zero_add _) H (i := 0) rfl sl29 Try.underlying29 rfl rfl (hs.up H (fun _ => apart_nil _)) (by omega) (fun a2 c3 w H => ?_))
  replace H : Hp _ w _ ([.own a2 s.len c3 ((s.l).map V8) 5 1]) := H
  refine l_op (o_val (r_as) ?_)
  first | refine l_end ?_ | refine l_nil ?_
  repeat refine c_seq ?_
  refine c_block ?_
  repeat refine c_seq ?_
  refine c_loop5 (fun (x : UInt64) (l : List UInt8) (a : Option Nat) (ln : Nat) (c : Nat) => [(1, V64 x), (5, .slice (hd a) ln c)])
    (fun (x : UInt64) (l : List UInt8) (a : Option Nat) (ln : Nat) (c : Nat) w => (l ++ cnt x.toNat = s.l ++ cnt u.toNat ∧ ln ≤ s.len + 10 ∧ x.toNat < 2 ^ (64 - 7 * (ln - s.len)) ∧ s.len ≤ ln) ∧ Hp w0 w [] ([.own a ln c ((l).map V8) 5 1]))
    (fun (x : UInt64) (l : List UInt8) (a : Option Nat) (ln : Nat) (c : Nat) => x.toNat) u s.l a2 s.len c3 ⟨rfl, rfl, trivial⟩ ⟨⟨rfl, by omega, by rw [Nat.sub_self]; exact u.toNat_lt, Nat.le_refl _⟩, H⟩ ?_
  clear H
  rintro x l a ln c τ w ⟨⟨hl, hln, hx, hge⟩, H⟩
  repeat refine c_seq ?_
  refine c_region ?_
  refine l_op (o_val (r_mv) ?_)
  refine l_op (o_val (r_bin (a := (x.toNat : Int)) (b := 128) rfl rfl (fun _ => b_geq)) ?_)
  first | refine l_end ?_ | refine l_nil ?_
  by_cases hc4 : 128 ≤ (x.toNat : Int)
  ·
   repeat refine c_seq ?_
   refine c_yes (by exact congrArg Value.bool (decide_eq_true hc4)) ?_
   refine c_skip ?_
   repeat refine c_seq ?_
   refine c_block ?_
   repeat refine c_seq ?_
   refine c_region ?_
   refine l_op (o_val (r_mv) ?_)
   refine l_op (o_val (r_mv) ?_)
   refine l_op (o_val (r_bin rfl (c64 128 (by decide)) (fun _ => b_rem_u64 (by decide))) ?_)
   refine l_op (o_val (r_bin rfl (c64 128 (by decide)) (fun _ => b_add_u64)) ?_)
   refine l_op (o_val (r_conv Try.underlying35 Try.underlying5 rfl (w_u8_64 _)) ?_)
   refine l_op (o_bslB ([((x % (128 : UInt64)) + (128 : UInt64)).toUInt8]) H sl29 zc5 rfl rfl (by decide) (fun b5 w H hb5 => ?_))
   replace H : Hp _ w _ ([_, .own (some b5) 1 1 (([((x % (128 : UInt64)) + (128 : UInt64)).toUInt8]).map V8) 5 1]) := H
   refine l_op (o_appB (s := ⟨hd (some b5), 1, 1, [((x % (128 : UInt64)) + (128 : UInt64)).toUInt8]⟩) (l' := l ++ ([((x % (128 : UInt64)) + (128 : UInt64)).toUInt8])) (len' := ln + 1) rfl rfl H (i := 0) rfl sl29 Try.underlying29 rfl rfl (H.slOwn (i := 1) rfl) (by omega) (fun a6 c7 w H => ?_))
   replace H : Hp _ w _ ([.own a6 (ln + 1) c7 ((l ++ ([((x % (128 : UInt64)) + (128 : UInt64)).toUInt8])).map V8) 5 1, _]) := H
   refine l_op (o_val (r_as) ?_)
   first | refine l_end ?_ | refine l_nil ?_
   repeat refine c_seq ?_
   refine c_region ?_
   refine l_op (o_val (r_mv) ?_)
   refine l_op (o_val (r_bin rfl (c64 128 (by decide)) (fun _ => b_quo_u64 (by decide))) ?_)
   refine l_op (o_val (r_as) ?_)
   first | refine l_end ?_ | refine l_nil ?_
   have hb7 := cnt_bound x.toNat ln s.len hx (by omega) hge hln
   refine round_end (x / (128 : UInt64), l ++ ([((x % (128 : UInt64)) + (128 : UInt64)).toUInt8]), a6, ln + 1, c7) ?_ ?_ ?_
   · exact ⟨show V64 (x / (128 : UInt64)) = V64 (x / (128 : UInt64) : UInt64) from congrArg V64 rfl, rfl, trivial⟩
   · refine ⟨?_, ?_⟩
     · try dsimp only
       exact ⟨by rw [cnt_more x (by omega), shr7, ← div128, ← cnt1_byte] at hl; simpa using hl, by omega, by rw [div128]; exact hb7.2, by omega⟩
     · exact H.sub (.cons_cons _ (List.nil_sublist _))
   · show (x / 128).toNat < x.toNat; rw [div128]; omega
  ·
   repeat refine c_seq ?_
   refine c_no (by exact congrArg Value.bool (decide_eq_false hc4)) ?_
   refine c_exit ?_
   repeat refine c_seq ?_
   refine c_region ?_
   refine l_op (o_val (r_mv) ?_)
   refine l_op (o_val (r_mv) ?_)
   refine l_op (o_val (r_conv Try.underlying35 Try.underlying5 rfl (w_u8_64 _)) ?_)
   refine l_op (o_bslB ([x.toUInt8]) H sl29 zc5 rfl rfl (by decide) (fun b8 w H hb8 => ?_))
   replace H : Hp _ w _ ([_, .own (some b8) 1 1 (([x.toUInt8]).map V8) 5 1]) := H
   refine l_op (o_appB (s := ⟨hd (some b8), 1, 1, [x.toUInt8]⟩) (l' := l ++ ([x.toUInt8])) (len' := ln + 1) rfl rfl H (i := 0) rfl sl29 Try.underlying29 rfl rfl (H.slOwn (i := 1) rfl) (by omega) (fun a9 c10 w H => ?_))
   replace H : Hp _ w _ ([.own a9 (ln + 1) c10 ((l ++ ([x.toUInt8])).map V8) 5 1, _]) := H
   refine l_op (o_val (r_as) ?_)
   first | refine l_end ?_ | refine l_nil ?_
   refine c_ret ?_
   try dsimp only [Exit.then, Exit.inBlock]
   refine e_ret1 (v := .slice (hd a9) (ln + 1) c10) Try.results149 rfl ?_
   refine ⟨_, rfl, ?_⟩
   refine ⟨_, _, _, rfl, by omega, ?_⟩
   rw [cnt_less x (by omega)] at hl
   rw [← hl]
   exact H.sub (.cons_cons _ (List.nil_sublist _))
theorem text1_ret (w0 : World) (s u : Sl) (hs : s.ok w0) (hu : u.ok w0) (hm : s.len ≤ 1048576) (hn : u.len ≤ 65536) :
    Ret Try.prog 145 [s.v, u.v] w0 fun v w' => ∃ a n c, v = .tuple #[.slice (hd a) n c, VI 0] ∧ n ≤ s.len + 11 + u.len ∧ Hp w0 w' [] [.own a n c ((s.l ++ cnt u.len ++ u.l).map V8) 5 1] := by
  refine ret_mk Try.func145 rfl Try.ntmps145 (by simp) ?_
  have H := Hp.refl w0 []
  repeat refine c_seq ?_
  refine c_region ?_
  refine l_op (o_val (r_as) ?_)
  refine l_op (o_val (r_as) ?_)
  first | refine l_end ?_ | refine l_nil ?_
  repeat refine c_seq ?_
  refine c_region ?_
  refine l_op (o_val (r_mv) ?_)
  refine l_op (o_val (r_lens el29 rfl) ?_)
  refine l_op (o_val (r_bin (a := (u.len : Int)) (b := 65536) rfl rfl (fun _ => b_gtrB false (decide_eq_false (by omega)))) ?_)
  first | refine l_end ?_ | refine l_nil ?_
  repeat refine c_seq ?_
  refine c_no rfl ?_
  refine c_skip ?_
  repeat refine c_seq ?_
  refine c_region ?_
  refine l_op (o_val (r_mv) ?_)
  refine l_op (o_val (r_mv) ?_)
  refine l_op (o_val (r_lens el29 rfl) ?_)
  refine l_op (o_val (r_conv (v := ((UInt64.ofNat u.len).toNat : Int)) Try.underlying3 Try.underlying35 rfl (w_u64_N u.len (by omega))) ?_)
  refine l_op (o_callR Try.func149 rfl rfl rfl (count1_ret _ s (hs.up H (fun _ => apart_nil _)) (UInt64.ofNat u.len) (by (try simp only [Sl.cut]); omega)) ?_)
  rintro _ w ⟨a1, n2, c3, rfl, hn4, Hc⟩
  replace H : Hp _ w _ ([.own a1 n2 c3 ((s.l ++ cnt (UInt64.ofNat u.len).toNat).map V8) 5 1]) := H.call Hc
  clear Hc
  try dsimp only at hn4
  refine l_op (o_val (r_mv) ?_)
  refine l_op (o_appB (s := u) (l' := s.l ++ cnt (UInt64.ofNat u.len).toNat ++ u.l) (len' := n2 + u.len) rfl rfl H (i := 0) rfl sl29 Try.underlying29 rfl rfl (hu.up H (fun _ => apart_nil _)) (by omega) (fun a5 c6 w H => ?_))
  replace H : Hp _ w _ ([.own a5 (n2 + u.len) c6 ((s.l ++ cnt (UInt64.ofNat u.len).toNat ++ u.l).map V8) 5 1]) := H
  refine l_op (o_val (r_as) ?_)
  refine l_op (o_val (r_as) ?_)
  first | refine l_end ?_ | refine l_nil ?_
  refine c_ret ?_
  try dsimp only [Exit.then, Exit.inBlock]
  refine e_retN (vs := [.slice (hd a5) (n2 + u.len) c6, VI 0]) _ Try.results145 rfl (resT (v := .slice (hd a5) (n2 + u.len) c6) rfl (resT (v := VI 0) rfl (resZ))) ?_
  refine ⟨_, rfl, ?_⟩
  refine ⟨_, _, _, rfl, by omega, ?_⟩
  rw [ofNat_nat _ (by omega)] at H
  exact H
end Go.Proofs.Ytjmbbhnpfmblpaa
