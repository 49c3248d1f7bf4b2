import Derived.Test.YtjmbbhnpfmblpaaOct2
/- rights, names, and what cap makes of tokens. -/
namespace Go.Proofs.Ytjmbbhnpfmblpaa
open Go
set_option maxRecDepth 100000
theorem Gl.ok_nil {α : Type} {enc : α → List Value} {sz : Nat} (w : World) : (⟨none, 0, 0, []⟩ : Gl α).ok enc sz w := ⟨.inl rfl, rfl, Nat.le_refl _, Nat.zero_le _, fun c hc => (by cases hc)⟩
def rMay (r : UInt8) : Bool := decide (((r &&& ~~~(15 : UInt8)).toNat : Int) = 0)
def rCov (a b : UInt8) : Bool := decide (((b &&& ~~~a).toNat : Int) = 0)
def nm1 (c : UInt8) : Bool := (decide (97 ≤ c.toNat) && decide (c.toNat ≤ 122)) || (decide (48 ≤ c.toNat) && decide (c.toNat ≤ 57)) || decide (c.toNat = 45)
theorem nm1_iff (c : UInt8) : nm1 c = true ↔ (97 ≤ c.toNat ∧ c.toNat ≤ 122) ∨ (48 ≤ c.toNat ∧ c.toNat ≤ 57) ∨ c.toNat = 45 := by simp [nm1, or_assoc]
/-- may these bytes be a tenant's name? -/
def nameMay (l : List UInt8) : Bool := decide (1 ≤ l.length) && decide (l.length ≤ 16) && decide (97 ≤ (l.getD 0 0).toNat) && decide ((l.getD 0 0).toNat ≤ 122) && l.all nm1
theorem nameMay_iff (l : List UInt8) : nameMay l = true ↔ 1 ≤ l.length ∧ l.length ≤ 16 ∧ 97 ≤ (l.getD 0 0).toNat ∧ (l.getD 0 0).toNat ≤ 122 ∧ ∀ i, i < l.length → nm1 (l.getD i 0) = true := by
  simp only [nameMay, Bool.and_eq_true, decide_eq_true_eq, List.all_eq_true, and_assoc]
  refine ⟨fun ⟨h1, h2, h3, h4, h5⟩ => ⟨h1, h2, h3, h4, fun i hi => h5 _ ?_⟩, fun ⟨h1, h2, h3, h4, h5⟩ => ⟨h1, h2, h3, h4, fun c hc => ?_⟩⟩
  · rw [List.getD_eq_getElem?_getD, List.getElem?_eq_getElem hi]; exact List.getElem_mem hi
  · obtain ⟨i, hi, rfl⟩ := List.getElem_of_mem hc
    have := h5 i hi
    rwa [List.getD_eq_getElem?_getD, List.getElem?_eq_getElem hi] at this
theorem rmay_ret (w0 : World) (r : UInt8) :
    Ret Try.prog 117 [V8 r] w0 fun v w' => v = .bool (rMay r) ∧ w' = w0 := by
  refine ret_mk Try.func117 rfl Try.ntmps117 (by simp) ?_
  have H := Hp.refl w0 []
  repeat refine c_seq ?_
  refine c_region ?_
  refine l_op (o_val (r_as) ?_)
  first | refine l_end ?_ | refine l_nil ?_
  repeat refine c_seq ?_
  refine c_region ?_
  refine l_op (o_val (r_mv) ?_)
  refine l_op (o_val (r_bin rfl (c8 15 (by decide)) (fun _ => b_andNot_u8)) ?_)
  refine l_op (o_val (r_bin (a := ((r &&& ~~~(15 : UInt8)).toNat : Int)) (b := 0) rfl rfl (fun _ => b_eql)) ?_)
  refine l_op (o_val (r_as) ?_)
  first | refine l_end ?_ | refine l_nil ?_
  refine c_ret ?_
  try dsimp only [Exit.then, Exit.inBlock]
  refine e_ret1 (v := .bool (decide (((r &&& ~~~(15 : UInt8)).toNat : Int) = 0))) Try.results117 rfl ?_
  refine ⟨_, rfl, ?_⟩
  exact ⟨rfl, rfl⟩
theorem rcov_ret (w0 : World) (a b : UInt8) :
    Ret Try.prog 80 [V8 a, V8 b] w0 fun v w' => v = .bool (rCov a b) ∧ w' = w0 := by
  refine ret_mk Try.func80 rfl Try.ntmps80 (by simp) ?_
  have H := Hp.refl w0 []
  repeat refine c_seq ?_
  refine c_region ?_
  refine l_op (o_val (r_as) ?_)
  first | refine l_end ?_ | refine l_nil ?_
  repeat refine c_seq ?_
  refine c_region ?_
  refine l_op (o_val (r_mv) ?_)
  refine l_op (o_val (r_mv) ?_)
  refine l_op (o_val (r_bin rfl rfl (fun _ => b_andNot_u8)) ?_)
  refine l_op (o_val (r_bin (a := ((b &&& ~~~a).toNat : Int)) (b := 0) rfl rfl (fun _ => b_eql)) ?_)
  refine l_op (o_val (r_as) ?_)
  first | refine l_end ?_ | refine l_nil ?_
  refine c_ret ?_
  try dsimp only [Exit.then, Exit.inBlock]
  refine e_ret1 (v := .bool (decide (((b &&& ~~~a).toNat : Int) = 0))) Try.results80 rfl ?_
  refine ⟨_, rfl, ?_⟩
  exact ⟨rfl, rfl⟩
theorem rmeet_ret (w0 : World) (a b : UInt8) :
    Ret Try.prog 121 [V8 a, V8 b] w0 fun v w' => v = V8 (a &&& b) ∧ w' = w0 := by
  refine ret_mk Try.func121 rfl Try.ntmps121 (by simp) ?_
  have H := Hp.refl w0 []
  repeat refine c_seq ?_
  refine c_region ?_
  refine l_op (o_val (r_asV (c8 0 (by decide))) ?_)
  first | refine l_end ?_ | refine l_nil ?_
  repeat refine c_seq ?_
  refine c_region ?_
  refine l_op (o_val (r_mv) ?_)
  refine l_op (o_val (r_mv) ?_)
  refine l_op (o_val (r_bin rfl rfl (fun _ => b_and_u8)) ?_)
  refine l_op (o_val (r_as) ?_)
  first | refine l_end ?_ | refine l_nil ?_
  refine c_ret ?_
  try dsimp only [Exit.then, Exit.inBlock]
  refine e_ret1 (v := V8 (a &&& b)) Try.results121 rfl ?_
  refine ⟨_, rfl, ?_⟩
  exact ⟨rfl, rfl⟩
theorem nmay_ret (w0 : World) (l : List UInt8) (hl : l.length ≤ 1099511627776) :
    Ret Try.prog 123 [.string ⟨(l).toArray⟩] w0 fun v w' => v = .bool (nameMay l) ∧ Hp w0 w' [] [] := by
  refine ret_mk Try.func123 rfl Try.ntmps123 (by simp) ?_
  have H := Hp.refl w0 []
  repeat refine c_seq ?_
  refine c_region ?_
  refine l_op (o_val (r_as) ?_)
  first | refine l_end ?_ | refine l_nil ?_
  repeat refine c_seq ?_
  refine c_region ?_
  refine l_op (o_val (r_mv) ?_)
  refine l_op (o_val (r_lenstr (s := ⟨(l).toArray⟩) Try.underlying9 rfl) ?_)
  refine l_op (o_val (r_bin (a := ((l).length : Int)) (b := 1) rfl rfl (fun _ => b_lss)) ?_)
  refine l_op (o_val (r_mv) ?_)
  by_cases hc1 : ((l).length : Int) < 1
  · skip
    refine l_no rfl rfl (by exact congrArg Value.bool (decide_eq_true hc1)) rfl ?_
    refine l_no rfl rfl (by exact congrArg Value.bool (decide_eq_true hc1)) rfl ?_
    refine l_no rfl rfl (by exact congrArg Value.bool (decide_eq_true hc1)) rfl ?_
    refine l_op (o_val (r_pick (b := true) (congrArg Value.bool (decide_eq_true hc1))) ?_)
    refine l_op (o_val (r_mv) ?_)
    refine l_no rfl rfl rfl rfl ?_
    refine l_no rfl rfl rfl rfl ?_
    refine l_no rfl rfl rfl rfl ?_
    refine l_op (o_val (r_pick rfl) ?_)
    refine l_op (o_val (r_mv) ?_)
    refine l_no rfl rfl rfl rfl ?_
    refine l_no rfl rfl rfl rfl ?_
    refine l_no rfl rfl rfl rfl ?_
    refine l_op (o_val (r_pick rfl) ?_)
    first | refine l_end ?_ | refine l_nil ?_
    repeat refine c_seq ?_
    refine c_yes rfl ?_
    repeat refine c_seq ?_
    refine c_region ?_
    refine l_op (o_val (r_as) ?_)
    first | refine l_end ?_ | refine l_nil ?_
    refine c_ret ?_
    try dsimp only [Exit.then, Exit.inBlock]
    refine e_ret1 (v := .bool false) Try.results123 rfl ?_
    refine ⟨_, rfl, ?_⟩
    refine ⟨?_, H⟩
    have e : nameMay l = false := Bool.eq_false_iff.2 fun h => by
      have h2 := (nameMay_iff l).1 h
      exact absurd h2 (by omega)
    rw [e]
  · skip
    refine l_yes rfl rfl (by exact congrArg Value.bool (decide_eq_false hc1)) (o_val (r_mv) ?_)
    refine l_yes rfl rfl (by exact congrArg Value.bool (decide_eq_false hc1)) (o_val (r_lenstr (s := ⟨(l).toArray⟩) Try.underlying9 rfl) ?_)
    refine l_yes rfl rfl (by exact congrArg Value.bool (decide_eq_false hc1)) (o_val (r_bin (a := ((l).length : Int)) (b := 16) rfl rfl (fun _ => b_gtr)) ?_)
    refine l_op (o_val (r_pick (b := false) (congrArg Value.bool (decide_eq_false hc1))) ?_)
    refine l_op (o_val (r_mv) ?_)
    by_cases hc2 : 16 < ((l).length : Int)
    · skip
      refine l_no rfl rfl (by exact congrArg Value.bool (decide_eq_true hc2)) rfl ?_
      refine l_no rfl rfl (by exact congrArg Value.bool (decide_eq_true hc2)) rfl ?_
      refine l_no rfl rfl (by exact congrArg Value.bool (decide_eq_true hc2)) rfl ?_
      refine l_op (o_val (r_pick (b := true) (congrArg Value.bool (decide_eq_true hc2))) ?_)
      refine l_op (o_val (r_mv) ?_)
      refine l_no rfl rfl rfl rfl ?_
      refine l_no rfl rfl rfl rfl ?_
      refine l_no rfl rfl rfl rfl ?_
      refine l_op (o_val (r_pick rfl) ?_)
      first | refine l_end ?_ | refine l_nil ?_
      repeat refine c_seq ?_
      refine c_yes rfl ?_
      repeat refine c_seq ?_
      refine c_region ?_
      refine l_op (o_val (r_as) ?_)
      first | refine l_end ?_ | refine l_nil ?_
      refine c_ret ?_
      try dsimp only [Exit.then, Exit.inBlock]
      refine e_ret1 (v := .bool false) Try.results123 rfl ?_
      refine ⟨_, rfl, ?_⟩
      refine ⟨?_, H⟩
      have e : nameMay l = false := Bool.eq_false_iff.2 fun h => by
        have h2 := (nameMay_iff l).1 h
        exact absurd h2 (by omega)
      rw [e]
    · skip
      refine l_yes rfl rfl (by exact congrArg Value.bool (decide_eq_false hc2)) (o_val (r_mv) ?_)
      refine l_yes rfl rfl (by exact congrArg Value.bool (decide_eq_false hc2)) (o_val (r_idxS (l := l) 0 Try.underlying9 rfl rfl (by omega) (by omega)) ?_)
      refine l_yes rfl rfl (by exact congrArg Value.bool (decide_eq_false hc2)) (o_val (r_bin (a := (((l).getD 0 0).toNat : Int)) (b := 97) rfl rfl (fun _ => b_lss)) ?_)
      refine l_op (o_val (r_pick (b := false) (congrArg Value.bool (decide_eq_false hc2))) ?_)
      refine l_op (o_val (r_mv) ?_)
      by_cases hc3 : (((l).getD 0 0).toNat : Int) < 97
      · skip
        refine l_no rfl rfl (by exact congrArg Value.bool (decide_eq_true hc3)) rfl ?_
        refine l_no rfl rfl (by exact congrArg Value.bool (decide_eq_true hc3)) rfl ?_
        refine l_no rfl rfl (by exact congrArg Value.bool (decide_eq_true hc3)) rfl ?_
        refine l_op (o_val (r_pick (b := true) (congrArg Value.bool (decide_eq_true hc3))) ?_)
        first | refine l_end ?_ | refine l_nil ?_
        repeat refine c_seq ?_
        refine c_yes rfl ?_
        repeat refine c_seq ?_
        refine c_region ?_
        refine l_op (o_val (r_as) ?_)
        first | refine l_end ?_ | refine l_nil ?_
        refine c_ret ?_
        try dsimp only [Exit.then, Exit.inBlock]
        refine e_ret1 (v := .bool false) Try.results123 rfl ?_
        refine ⟨_, rfl, ?_⟩
        refine ⟨?_, H⟩
        have e : nameMay l = false := Bool.eq_false_iff.2 fun h => by
          have h2 := (nameMay_iff l).1 h
          exact absurd h2 (by omega)
        rw [e]
      · skip
        refine l_yes rfl rfl (by exact congrArg Value.bool (decide_eq_false hc3)) (o_val (r_mv) ?_)
        refine l_yes rfl rfl (by exact congrArg Value.bool (decide_eq_false hc3)) (o_val (r_idxS (l := l) 0 Try.underlying9 rfl rfl (by omega) (by omega)) ?_)
        refine l_yes rfl rfl (by exact congrArg Value.bool (decide_eq_false hc3)) (o_val (r_bin (a := (((l).getD 0 0).toNat : Int)) (b := 122) rfl rfl (fun _ => b_gtr)) ?_)
        refine l_op (o_val (r_pick (b := false) (congrArg Value.bool (decide_eq_false hc3))) ?_)
        first | refine l_end ?_ | refine l_nil ?_
        by_cases hc4 : 122 < (((l).getD 0 0).toNat : Int)
        · skip
          repeat refine c_seq ?_
          refine c_yes (by exact congrArg Value.bool (decide_eq_true hc4)) ?_
          repeat refine c_seq ?_
          refine c_region ?_
          refine l_op (o_val (r_as) ?_)
          first | refine l_end ?_ | refine l_nil ?_
          refine c_ret ?_
          try dsimp only [Exit.then, Exit.inBlock]
          refine e_ret1 (v := .bool false) Try.results123 rfl ?_
          refine ⟨_, rfl, ?_⟩
          refine ⟨?_, H⟩
          have e : nameMay l = false := Bool.eq_false_iff.2 fun h => by
            have h2 := (nameMay_iff l).1 h
            exact absurd h2 (by omega)
          rw [e]
        · skip
          repeat refine c_seq ?_
          refine c_no (by exact congrArg Value.bool (decide_eq_false hc4)) ?_
          refine c_skip ?_
          repeat refine c_seq ?_
          refine c_region ?_
          refine l_op (o_val (r_mv) ?_)
          refine l_op (o_val (r_lenstr (s := ⟨(l).toArray⟩) Try.underlying9 rfl) ?_)
          refine l_op (o_val (r_mv) ?_)
          first | refine l_end ?_ | refine l_nil ?_
          repeat refine c_seq ?_
          refine c_block ?_
          repeat refine c_seq ?_
          refine c_loop (fun (i : Nat) => [(0, .string ⟨(l).toArray⟩), (24, VI ((l).length : Int)), (25, VI (i : Int))])
            (fun (i : Nat) w => (i ≤ l.length ∧ ∀ j, j < i → nm1 (l.getD j 0) = true) ∧ Hp w0 w [] ([]))
            (fun (i : Nat) => l.length - i) 0 ⟨rfl, rfl, rfl, trivial⟩ ⟨⟨Nat.zero_le _, fun j hj => absurd hj (by omega)⟩, H⟩ ?_
          clear H
          rintro i τ w ⟨⟨hi, hall⟩, H⟩
          repeat refine c_seq ?_
          refine c_region ?_
          refine l_op (o_val (r_bin (a := (i : Int)) (b := ((l).length : Int)) rfl rfl (fun _ => b_lss)) ?_)
          first | refine l_end ?_ | refine l_nil ?_
          by_cases hc5 : (i : Int) < ((l).length : Int)
          · skip
            repeat refine c_seq ?_
            refine c_yes (by exact congrArg Value.bool (decide_eq_true hc5)) ?_
            refine c_skip ?_
            repeat refine c_seq ?_
            refine c_block ?_
            repeat refine c_seq ?_
            refine c_region ?_
            refine l_op (o_val (r_mv) ?_)
            refine l_op (o_val (r_as) ?_)
            first | refine l_end ?_ | refine l_nil ?_
            repeat refine c_seq ?_
            refine c_region ?_
            refine l_op (o_val (r_mv) ?_)
            refine l_op (o_val (r_mv) ?_)
            refine l_op (o_val (r_idxS (l := l) i Try.underlying9 rfl rfl (by omega) (by omega)) ?_)
            refine l_op (o_val (r_as) ?_)
            first | refine l_end ?_ | refine l_nil ?_
            repeat refine c_seq ?_
            refine c_block ?_
            repeat refine c_seq ?_
            refine c_region ?_
            refine l_op (o_val (r_mv) ?_)
            refine l_op (o_val (r_bin (a := (((l).getD i 0).toNat : Int)) (b := 97) rfl rfl (fun _ => b_geq)) ?_)
            refine l_op (o_val (r_mv) ?_)
            by_cases hc6 : 97 ≤ (((l).getD i 0).toNat : Int)
            · skip
              refine l_yes rfl rfl (by exact congrArg Value.bool (decide_eq_true hc6)) (o_val (r_mv) ?_)
              refine l_yes rfl rfl (by exact congrArg Value.bool (decide_eq_true hc6)) (o_val (r_bin (a := (((l).getD i 0).toNat : Int)) (b := 122) rfl rfl (fun _ => b_leq)) ?_)
              refine l_op (o_val (r_pick (b := true) (congrArg Value.bool (decide_eq_true hc6))) ?_)
              refine l_op (o_val (r_as) ?_)
              first | refine l_end ?_ | refine l_nil ?_
              by_cases hc7 : (((l).getD i 0).toNat : Int) ≤ 122
              · skip
                repeat refine c_seq ?_
                refine c_yes (by exact congrArg Value.bool (decide_eq_true hc7)) ?_
                refine c_skip ?_
                repeat refine c_seq ?_
                refine c_yes (by exact congrArg Value.bool (decide_eq_true hc7)) ?_
                refine c_skip ?_
                repeat refine c_seq ?_
                refine c_region ?_
                refine l_op (o_val (r_bin (a := (i : Int)) (b := 1) rfl rfl (fun _ => b_add (by omega) (by omega))) ?_)
                refine l_op (o_val (r_mv) ?_)
                first | refine l_end ?_ | refine l_nil ?_
                refine round_end (i + 1) ?_ ?_ ?_
                · exact ⟨rfl, rfl, show VI ((i : Int) + 1) = VI ((i + 1 : Nat) : Int) from congrArg VI (by omega), trivial⟩
                · refine ⟨?_, ?_⟩
                  · try dsimp only
                    exact ⟨by omega, fun j hj => by
                      by_cases hji : j < i
                      · exact hall j hji
                      · have e : j = i := by omega
                        rw [e]; exact (nm1_iff _).2 (by omega)⟩
                  · exact H
                · show l.length - (i + 1 : Nat) < l.length - i; omega
              · skip
                repeat refine c_seq ?_
                refine c_no (by exact congrArg Value.bool (decide_eq_false hc7)) ?_
                repeat refine c_seq ?_
                refine c_region ?_
                refine l_op (o_val (r_mv) ?_)
                refine l_op (o_val (r_bin (a := (((l).getD i 0).toNat : Int)) (b := 48) rfl rfl (fun _ => b_geq)) ?_)
                refine l_op (o_val (r_mv) ?_)
                by_cases hc8 : 48 ≤ (((l).getD i 0).toNat : Int)
                · skip
                  refine l_yes rfl rfl (by exact congrArg Value.bool (decide_eq_true hc8)) (o_val (r_mv) ?_)
                  refine l_yes rfl rfl (by exact congrArg Value.bool (decide_eq_true hc8)) (o_val (r_bin (a := (((l).getD i 0).toNat : Int)) (b := 57) rfl rfl (fun _ => b_leq)) ?_)
                  refine l_op (o_val (r_pick (b := true) (congrArg Value.bool (decide_eq_true hc8))) ?_)
                  refine l_op (o_val (r_as) ?_)
                  first | refine l_end ?_ | refine l_nil ?_
                  by_cases hc9 : (((l).getD i 0).toNat : Int) ≤ 57
                  · skip
                    repeat refine c_seq ?_
                    refine c_yes (by exact congrArg Value.bool (decide_eq_true hc9)) ?_
                    refine c_skip ?_
                    repeat refine c_seq ?_
                    refine c_yes (by exact congrArg Value.bool (decide_eq_true hc9)) ?_
                    refine c_skip ?_
                    repeat refine c_seq ?_
                    refine c_region ?_
                    refine l_op (o_val (r_bin (a := (i : Int)) (b := 1) rfl rfl (fun _ => b_add (by omega) (by omega))) ?_)
                    refine l_op (o_val (r_mv) ?_)
                    first | refine l_end ?_ | refine l_nil ?_
                    refine round_end (i + 1) ?_ ?_ ?_
                    · exact ⟨rfl, rfl, show VI ((i : Int) + 1) = VI ((i + 1 : Nat) : Int) from congrArg VI (by omega), trivial⟩
                    · refine ⟨?_, ?_⟩
                      · try dsimp only
                        exact ⟨by omega, fun j hj => by
                          by_cases hji : j < i
                          · exact hall j hji
                          · have e : j = i := by omega
                            rw [e]; exact (nm1_iff _).2 (by omega)⟩
                      · exact H
                    · show l.length - (i + 1 : Nat) < l.length - i; omega
                  · skip
                    repeat refine c_seq ?_
                    refine c_no (by exact congrArg Value.bool (decide_eq_false hc9)) ?_
                    repeat refine c_seq ?_
                    refine c_region ?_
                    refine l_op (o_val (r_mv) ?_)
                    refine l_op (o_val (r_bin (a := (((l).getD i 0).toNat : Int)) (b := 45) rfl rfl (fun _ => b_eql)) ?_)
                    refine l_op (o_val (r_as) ?_)
                    first | refine l_end ?_ | refine l_nil ?_
                    by_cases hc10 : (((l).getD i 0).toNat : Int) = 45
                    · skip
                      repeat refine c_seq ?_
                      refine c_yes (by exact congrArg Value.bool (decide_eq_true hc10)) ?_
                      refine c_skip ?_
                      repeat refine c_seq ?_
                      refine c_region ?_
                      refine l_op (o_val (r_bin (a := (i : Int)) (b := 1) rfl rfl (fun _ => b_add (by omega) (by omega))) ?_)
                      refine l_op (o_val (r_mv) ?_)
                      first | refine l_end ?_ | refine l_nil ?_
                      refine round_end (i + 1) ?_ ?_ ?_
                      · exact ⟨rfl, rfl, show VI ((i : Int) + 1) = VI ((i + 1 : Nat) : Int) from congrArg VI (by omega), trivial⟩
                      · refine ⟨?_, ?_⟩
                        · try dsimp only
                          exact ⟨by omega, fun j hj => by
                            by_cases hji : j < i
                            · exact hall j hji
                            · have e : j = i := by omega
                              rw [e]; exact (nm1_iff _).2 (by omega)⟩
                        · exact H
                      · show l.length - (i + 1 : Nat) < l.length - i; omega
                    · skip
                      repeat refine c_seq ?_
                      refine c_no (by exact congrArg Value.bool (decide_eq_false hc10)) ?_
                      repeat refine c_seq ?_
                      refine c_region ?_
                      refine l_op (o_val (r_as) ?_)
                      first | refine l_end ?_ | refine l_nil ?_
                      refine c_ret ?_
                      try dsimp only [Exit.then, Exit.inBlock]
                      refine e_ret1 (v := .bool false) Try.results123 rfl ?_
                      refine ⟨_, rfl, ?_⟩
                      refine ⟨?_, H⟩
                      have e : nameMay l = false := Bool.eq_false_iff.2 fun h => by
                        have h2 := (nameMay_iff l).1 h
                        have h3 := (nm1_iff _).1 (h2.2.2.2.2 i (by omega))
                        exact absurd h2 (by omega)
                      rw [e]
                · skip
                  refine l_no rfl rfl (by exact congrArg Value.bool (decide_eq_false hc8)) rfl ?_
                  refine l_no rfl rfl (by exact congrArg Value.bool (decide_eq_false hc8)) rfl ?_
                  refine l_op (o_val (r_pick (b := false) (congrArg Value.bool (decide_eq_false hc8))) ?_)
                  refine l_op (o_val (r_as) ?_)
                  first | refine l_end ?_ | refine l_nil ?_
                  repeat refine c_seq ?_
                  refine c_no rfl ?_
                  repeat refine c_seq ?_
                  refine c_region ?_
                  refine l_op (o_val (r_mv) ?_)
                  refine l_op (o_val (r_bin (a := (((l).getD i 0).toNat : Int)) (b := 45) rfl rfl (fun _ => b_eql)) ?_)
                  refine l_op (o_val (r_as) ?_)
                  first | refine l_end ?_ | refine l_nil ?_
                  by_cases hc11 : (((l).getD i 0).toNat : Int) = 45
                  · skip
                    repeat refine c_seq ?_
                    refine c_yes (by exact congrArg Value.bool (decide_eq_true hc11)) ?_
                    refine c_skip ?_
                    repeat refine c_seq ?_
                    refine c_region ?_
                    refine l_op (o_val (r_bin (a := (i : Int)) (b := 1) rfl rfl (fun _ => b_add (by omega) (by omega))) ?_)
                    refine l_op (o_val (r_mv) ?_)
                    first | refine l_end ?_ | refine l_nil ?_
                    refine round_end (i + 1) ?_ ?_ ?_
                    · exact ⟨rfl, rfl, show VI ((i : Int) + 1) = VI ((i + 1 : Nat) : Int) from congrArg VI (by omega), trivial⟩
                    · refine ⟨?_, ?_⟩
                      · try dsimp only
                        exact ⟨by omega, fun j hj => by
                          by_cases hji : j < i
                          · exact hall j hji
                          · have e : j = i := by omega
                            rw [e]; exact (nm1_iff _).2 (by omega)⟩
                      · exact H
                    · show l.length - (i + 1 : Nat) < l.length - i; omega
                  · skip
                    repeat refine c_seq ?_
                    refine c_no (by exact congrArg Value.bool (decide_eq_false hc11)) ?_
                    repeat refine c_seq ?_
                    refine c_region ?_
                    refine l_op (o_val (r_as) ?_)
                    first | refine l_end ?_ | refine l_nil ?_
                    refine c_ret ?_
                    try dsimp only [Exit.then, Exit.inBlock]
                    refine e_ret1 (v := .bool false) Try.results123 rfl ?_
                    refine ⟨_, rfl, ?_⟩
                    refine ⟨?_, H⟩
                    have e : nameMay l = false := Bool.eq_false_iff.2 fun h => by
                      have h2 := (nameMay_iff l).1 h
                      have h3 := (nm1_iff _).1 (h2.2.2.2.2 i (by omega))
                      exact absurd h2 (by omega)
                    rw [e]
            · skip
              refine l_no rfl rfl (by exact congrArg Value.bool (decide_eq_false hc6)) rfl ?_
              refine l_no rfl rfl (by exact congrArg Value.bool (decide_eq_false hc6)) rfl ?_
              refine l_op (o_val (r_pick (b := false) (congrArg Value.bool (decide_eq_false hc6))) ?_)
              refine l_op (o_val (r_as) ?_)
              first | refine l_end ?_ | refine l_nil ?_
              repeat refine c_seq ?_
              refine c_no rfl ?_
              repeat refine c_seq ?_
              refine c_region ?_
              refine l_op (o_val (r_mv) ?_)
              refine l_op (o_val (r_bin (a := (((l).getD i 0).toNat : Int)) (b := 48) rfl rfl (fun _ => b_geq)) ?_)
              refine l_op (o_val (r_mv) ?_)
              by_cases hc12 : 48 ≤ (((l).getD i 0).toNat : Int)
              · skip
                refine l_yes rfl rfl (by exact congrArg Value.bool (decide_eq_true hc12)) (o_val (r_mv) ?_)
                refine l_yes rfl rfl (by exact congrArg Value.bool (decide_eq_true hc12)) (o_val (r_bin (a := (((l).getD i 0).toNat : Int)) (b := 57) rfl rfl (fun _ => b_leq)) ?_)
                refine l_op (o_val (r_pick (b := true) (congrArg Value.bool (decide_eq_true hc12))) ?_)
                refine l_op (o_val (r_as) ?_)
                first | refine l_end ?_ | refine l_nil ?_
                by_cases hc13 : (((l).getD i 0).toNat : Int) ≤ 57
                · skip
                  repeat refine c_seq ?_
                  refine c_yes (by exact congrArg Value.bool (decide_eq_true hc13)) ?_
                  refine c_skip ?_
                  repeat refine c_seq ?_
                  refine c_yes (by exact congrArg Value.bool (decide_eq_true hc13)) ?_
                  refine c_skip ?_
                  repeat refine c_seq ?_
                  refine c_region ?_
                  refine l_op (o_val (r_bin (a := (i : Int)) (b := 1) rfl rfl (fun _ => b_add (by omega) (by omega))) ?_)
                  refine l_op (o_val (r_mv) ?_)
                  first | refine l_end ?_ | refine l_nil ?_
                  refine round_end (i + 1) ?_ ?_ ?_
                  · exact ⟨rfl, rfl, show VI ((i : Int) + 1) = VI ((i + 1 : Nat) : Int) from congrArg VI (by omega), trivial⟩
                  · refine ⟨?_, ?_⟩
                    · try dsimp only
                      exact ⟨by omega, fun j hj => by
                        by_cases hji : j < i
                        · exact hall j hji
                        · have e : j = i := by omega
                          rw [e]; exact (nm1_iff _).2 (by omega)⟩
                    · exact H
                  · show l.length - (i + 1 : Nat) < l.length - i; omega
                · skip
                  repeat refine c_seq ?_
                  refine c_no (by exact congrArg Value.bool (decide_eq_false hc13)) ?_
                  repeat refine c_seq ?_
                  refine c_region ?_
                  refine l_op (o_val (r_mv) ?_)
                  refine l_op (o_val (r_bin (a := (((l).getD i 0).toNat : Int)) (b := 45) rfl rfl (fun _ => b_eql)) ?_)
                  refine l_op (o_val (r_as) ?_)
                  first | refine l_end ?_ | refine l_nil ?_
                  by_cases hc14 : (((l).getD i 0).toNat : Int) = 45
                  · skip
                    repeat refine c_seq ?_
                    refine c_yes (by exact congrArg Value.bool (decide_eq_true hc14)) ?_
                    refine c_skip ?_
                    repeat refine c_seq ?_
                    refine c_region ?_
                    refine l_op (o_val (r_bin (a := (i : Int)) (b := 1) rfl rfl (fun _ => b_add (by omega) (by omega))) ?_)
                    refine l_op (o_val (r_mv) ?_)
                    first | refine l_end ?_ | refine l_nil ?_
                    refine round_end (i + 1) ?_ ?_ ?_
                    · exact ⟨rfl, rfl, show VI ((i : Int) + 1) = VI ((i + 1 : Nat) : Int) from congrArg VI (by omega), trivial⟩
                    · refine ⟨?_, ?_⟩
                      · try dsimp only
                        exact ⟨by omega, fun j hj => by
                          by_cases hji : j < i
                          · exact hall j hji
                          · have e : j = i := by omega
                            rw [e]; exact (nm1_iff _).2 (by omega)⟩
                      · exact H
                    · show l.length - (i + 1 : Nat) < l.length - i; omega
                  · skip
                    repeat refine c_seq ?_
                    refine c_no (by exact congrArg Value.bool (decide_eq_false hc14)) ?_
                    repeat refine c_seq ?_
                    refine c_region ?_
                    refine l_op (o_val (r_as) ?_)
                    first | refine l_end ?_ | refine l_nil ?_
                    refine c_ret ?_
                    try dsimp only [Exit.then, Exit.inBlock]
                    refine e_ret1 (v := .bool false) Try.results123 rfl ?_
                    refine ⟨_, rfl, ?_⟩
                    refine ⟨?_, H⟩
                    have e : nameMay l = false := Bool.eq_false_iff.2 fun h => by
                      have h2 := (nameMay_iff l).1 h
                      have h3 := (nm1_iff _).1 (h2.2.2.2.2 i (by omega))
                      exact absurd h2 (by omega)
                    rw [e]
              · skip
                refine l_no rfl rfl (by exact congrArg Value.bool (decide_eq_false hc12)) rfl ?_
                refine l_no rfl rfl (by exact congrArg Value.bool (decide_eq_false hc12)) rfl ?_
                refine l_op (o_val (r_pick (b := false) (congrArg Value.bool (decide_eq_false hc12))) ?_)
                refine l_op (o_val (r_as) ?_)
                first | refine l_end ?_ | refine l_nil ?_
                repeat refine c_seq ?_
                refine c_no rfl ?_
                repeat refine c_seq ?_
                refine c_region ?_
                refine l_op (o_val (r_mv) ?_)
                refine l_op (o_val (r_bin (a := (((l).getD i 0).toNat : Int)) (b := 45) rfl rfl (fun _ => b_eql)) ?_)
                refine l_op (o_val (r_as) ?_)
                first | refine l_end ?_ | refine l_nil ?_
                by_cases hc15 : (((l).getD i 0).toNat : Int) = 45
                · skip
                  repeat refine c_seq ?_
                  refine c_yes (by exact congrArg Value.bool (decide_eq_true hc15)) ?_
                  refine c_skip ?_
                  repeat refine c_seq ?_
                  refine c_region ?_
                  refine l_op (o_val (r_bin (a := (i : Int)) (b := 1) rfl rfl (fun _ => b_add (by omega) (by omega))) ?_)
                  refine l_op (o_val (r_mv) ?_)
                  first | refine l_end ?_ | refine l_nil ?_
                  refine round_end (i + 1) ?_ ?_ ?_
                  · exact ⟨rfl, rfl, show VI ((i : Int) + 1) = VI ((i + 1 : Nat) : Int) from congrArg VI (by omega), trivial⟩
                  · refine ⟨?_, ?_⟩
                    · try dsimp only
                      exact ⟨by omega, fun j hj => by
                        by_cases hji : j < i
                        · exact hall j hji
                        · have e : j = i := by omega
                          rw [e]; exact (nm1_iff _).2 (by omega)⟩
                    · exact H
                  · show l.length - (i + 1 : Nat) < l.length - i; omega
                · skip
                  repeat refine c_seq ?_
                  refine c_no (by exact congrArg Value.bool (decide_eq_false hc15)) ?_
                  repeat refine c_seq ?_
                  refine c_region ?_
                  refine l_op (o_val (r_as) ?_)
                  first | refine l_end ?_ | refine l_nil ?_
                  refine c_ret ?_
                  try dsimp only [Exit.then, Exit.inBlock]
                  refine e_ret1 (v := .bool false) Try.results123 rfl ?_
                  refine ⟨_, rfl, ?_⟩
                  refine ⟨?_, H⟩
                  have e : nameMay l = false := Bool.eq_false_iff.2 fun h => by
                    have h2 := (nameMay_iff l).1 h
                    have h3 := (nm1_iff _).1 (h2.2.2.2.2 i (by omega))
                    exact absurd h2 (by omega)
                  rw [e]
          · skip
            repeat refine c_seq ?_
            refine c_no (by exact congrArg Value.bool (decide_eq_false hc5)) ?_
            refine c_exit ?_
            repeat refine c_seq ?_
            refine c_region ?_
            refine l_op (o_val (r_as) ?_)
            first | refine l_end ?_ | refine l_nil ?_
            refine c_ret ?_
            try dsimp only [Exit.then, Exit.inBlock]
            refine e_ret1 (v := .bool true) Try.results123 rfl ?_
            refine ⟨_, rfl, ?_⟩
            refine ⟨?_, H⟩
            rw [(nameMay_iff l).2 ⟨by omega, by omega, by omega, by omega, fun j hj => hall j (by omega)⟩]
abbrev Cav := UInt8 × Int
def cavE (c : Cav) : List Value := [V8 c.1, VI c.2]
/-- a token, as a world has it. -/
structure Tok where
  serial : UInt64
  tenant : List UInt8
  rights : UInt8
  from_ : Int
  until_ : Int
  cs : Gl Cav
  tag : List UInt8
def timeB (v : Int) : List UInt8 := be (zigU v).toNat 8
def cavB (c : Cav) : List UInt8 := [c.1] ++ timeB c.2
def headB (serial : UInt64) (tenant : List UInt8) (rights : UInt8) (from_ until_ : Int) : List UInt8 := be serial.toNat 8 ++ cnt tenant.length ++ tenant ++ [rights] ++ timeB from_ ++ timeB until_
def Tok.head (t : Tok) : List UInt8 := headB t.serial t.tenant t.rights t.from_ t.until_
theorem time_ret (w0 : World) (s : Sl) (hs : s.ok w0) (hm : s.len ≤ 1048576) (n : Int) :
    Ret Try.prog 141 [s.v, VI n] w0 fun v w' => ∃ a c, v = .slice (hd a) (s.len + 8) c ∧ Hp w0 w' [] [.own a (s.len + 8) c ((s.l ++ timeB n).map V8) 5 1] := by
  refine ret_mk Try.func141 rfl Try.ntmps141 (by simp) ?_
  have H := Hp.refl w0 []
  repeat refine c_seq ?_
  refine c_region ?_
  refine l_op (o_val (r_as) ?_)
  first | refine l_end ?_ | refine l_nil ?_
  repeat refine c_seq ?_
  refine c_region ?_
  refine l_op (o_val (r_mv) ?_)
  refine l_op (o_val (r_mv) ?_)
  refine l_op (o_callR Try.func148 rfl rfl rfl (zig_ret _ (n)) ?_)
  rintro _ w ⟨rfl, Hc⟩
  replace H : Hp w0 w [] ([]) := H.call Hc
  clear Hc
  refine l_op (o_callR Try.func109 rfl rfl rfl (put_ret _ s (hs.up H (fun _ => apart_nil _)) (zigU (n)) 8 (by omega) (by omega) (.inl rfl) (by (try dsimp only); omega)) ?_)
  rintro _ w ⟨a1, c2, rfl, Hc⟩
  replace H : Hp w0 w [] ([.own a1 (s.len + 8) c2 ((s.l ++ be (zigU (n)).toNat 8).map V8) 5 1]) := H.call Hc
  clear Hc
  refine l_op (o_val (r_mv) ?_)
  refine l_op (o_val (r_ext rfl rfl) ?_)
  refine l_op (o_val (r_ext rfl rfl) ?_)
  refine l_op (o_val (r_as) ?_)
  refine l_op (o_val (r_as) ?_)
  first | refine l_end ?_ | refine l_nil ?_
  repeat refine c_seq ?_
  refine c_region ?_
  refine l_op (o_val (r_mv) ?_)
  refine l_op (o_val (r_as) ?_)
  first | refine l_end ?_ | refine l_nil ?_
  refine c_ret ?_
  try dsimp only [Exit.then, Exit.inBlock]
  refine e_ret1 (v := .slice (hd a1) (s.len + 8) c2) Try.results141 rfl ?_
  refine ⟨_, rfl, ?_⟩
  exact ⟨_, _, rfl, H⟩
theorem caveat_ret (w0 : World) (c : Cav) :
    Ret Try.prog 125 [.agg ([V8 c.1, VI c.2]).toArray] w0 fun v w' => ∃ a k, v = .slice (hd a) 9 k ∧ Hp w0 w' [] [.own a 9 k ((cavB c).map V8) 5 1] := by
  refine ret_mk Try.func125 rfl Try.ntmps125 (by simp) ?_
  have H := Hp.refl w0 []
  repeat refine c_seq ?_
  refine c_region ?_
  refine l_op (o_box (v := .agg ([V8 c.1, VI c.2]).toArray) H rfl (fun b1 w H hb1 => ?_))
  replace H : Hp w0 w [] ([.blk b1 ([V8 c.1, VI c.2]) 78]) := H
  refine l_op (o_val (r_as) ?_)
  first | refine l_end ?_ | refine l_nil ?_
  repeat refine c_seq ?_
  refine c_region ?_
  refine l_op (o_val (r_fa rfl fo78_0) ?_)
  refine l_op (o_val (r_ld (v := V8 c.1) H (i := 0) rfl rfl ct73 rfl) ?_)
  refine l_op (o_bslB ([c.1]) H sl29 zc5 rfl rfl (by decide) (fun b2 w H hb2 => ?_))
  replace H : Hp w0 w [] ([.blk b1 ([V8 c.1, VI c.2]) 78, .own (some b2) 1 1 (([c.1]).map V8) 5 1]) := H
  refine l_op (o_val (r_fa rfl fo78_1) ?_)
  refine l_op (o_val (r_ld (v := VI c.2) H (i := 0) rfl rfl ct2 rfl) ?_)
  refine l_op (o_callR Try.func141 rfl rfl rfl (time_ret _ ⟨hd (some b2), 1, 1, [c.1]⟩ (H.slOwn (i := 1) rfl) (by (try simp only [Sl.cut]); omega) (c.2)) ?_)
  rintro _ w ⟨a3, c4, rfl, Hc⟩
  replace H : Hp w0 w [] ([.blk b1 ([V8 c.1, VI c.2]) 78, .own (some b2) 1 1 (([c.1]).map V8) 5 1, .own a3 (1 + 8) c4 (([c.1] ++ timeB (c.2)).map V8) 5 1]) := H.call Hc
  clear Hc
  refine l_op (o_val (r_as) ?_)
  first | refine l_end ?_ | refine l_nil ?_
  refine c_ret ?_
  try dsimp only [Exit.then, Exit.inBlock]
  refine e_ret1 (v := .slice (hd a3) (1 + 8) c4) Try.results125 rfl ?_
  refine ⟨_, rfl, ?_⟩
  exact ⟨_, _, rfl, H.sub (.cons _ (.cons _ (.cons_cons _ (List.nil_sublist _))))⟩
theorem head_ret (w0 : World) (t : Tok) (hc : t.cs.ok cavE 2 w0) (htag : t.tag.length = 32) (hn : t.tenant.length ≤ 65536) :
    Ret Try.prog 115 [.agg ([V64 t.serial, .string ⟨(t.tenant).toArray⟩, V8 t.rights, VI t.from_, VI t.until_, t.cs.v] ++ (t.tag).map V8).toArray] w0 fun v w' => ∃ a n c, v = .slice (hd a) n c ∧ n ≤ t.tenant.length + 64 ∧ t.head.length = n ∧ Hp w0 w' [] [.own a n c (t.head.map V8) 5 1] := by
  refine ret_mk Try.func115 rfl Try.ntmps115 (by simp) ?_
  have H := Hp.refl w0 []
  repeat refine c_seq ?_
  refine c_region ?_
  refine l_op (o_box (v := .agg ([V64 t.serial, .string ⟨(t.tenant).toArray⟩, V8 t.rights, VI t.from_, VI t.until_, t.cs.v] ++ (t.tag).map V8).toArray) H rfl (fun b1 w H hb1 => ?_))
  replace H : Hp w0 w [] ([.blk b1 ([V64 t.serial, .string ⟨(t.tenant).toArray⟩, V8 t.rights, VI t.from_, VI t.until_, t.cs.v] ++ (t.tag).map V8) 76]) := H
  refine l_op (o_val (r_as) ?_)
  first | refine l_end ?_ | refine l_nil ?_
  repeat refine c_seq ?_
  refine c_region ?_
  refine l_op (o_val (r_fa rfl fo76_0) ?_)
  refine l_op (o_val (r_ld (v := V64 t.serial) H (i := 0) rfl rfl ct35 rfl) ?_)
  refine l_op (o_callR Try.func109 rfl rfl rfl (put0_ret _ (t.serial) 8 (by omega) (by omega) (.inl rfl)) ?_)
  rintro _ w ⟨a2, c3, rfl, Hc⟩
  replace H : Hp w0 w [] ([.blk b1 ([V64 t.serial, .string ⟨(t.tenant).toArray⟩, V8 t.rights, VI t.from_, VI t.until_, t.cs.v] ++ (t.tag).map V8) 76, .own a2 8 c3 ((be (t.serial).toNat 8).map V8) 5 1]) := H.call Hc
  clear Hc
  refine l_op (o_val (r_mv) ?_)
  refine l_op (o_val (r_ext rfl rfl) ?_)
  refine l_op (o_val (r_ext rfl rfl) ?_)
  refine l_op (o_val (r_as) ?_)
  refine l_op (o_val (r_as) ?_)
  first | refine l_end ?_ | refine l_nil ?_
  repeat refine c_seq ?_
  refine c_region ?_
  refine l_op (o_val (r_mv) ?_)
  refine l_op (o_val (r_fa rfl fo76_1) ?_)
  refine l_op (o_val (r_ld (v := .string ⟨(t.tenant).toArray⟩) H (i := 0) rfl rfl ct9 rfl) ?_)
  refine l_op (o_s2B (l := t.tenant) H Try.underlying9 Try.underlying29 Try.underlying5 rfl (by omega) (fun b4 c5 ob6 w H hb4 hr7 => ?_))
  replace H : Hp w0 w [] ([.blk b1 ([V64 t.serial, .string ⟨(t.tenant).toArray⟩, V8 t.rights, VI t.from_, VI t.until_, t.cs.v] ++ (t.tag).map V8) 76, .own a2 8 c3 ((be (t.serial).toNat 8).map V8) 5 1, .obj b4 ob6]) := H
  refine l_op (o_callR Try.func127 rfl rfl rfl (text_ret _ ⟨hd a2, 8, c3, be (t.serial).toNat 8⟩ (⟨some ⟨b4, 0, none⟩, (t.tenant).length, c5, t.tenant⟩ : Sl) (H.slOwn (i := 1) rfl) (hr7 _ (H.has (.obj b4 ob6) (by simp))) (by (try simp only [Sl.cut]); omega) (by (try simp only [Sl.cut]); omega)) ?_)
  rintro _ w ⟨a8, n9, c10, rfl, hn11, Hc⟩
  replace H : Hp w0 w [] ([.blk b1 ([V64 t.serial, .string ⟨(t.tenant).toArray⟩, V8 t.rights, VI t.from_, VI t.until_, t.cs.v] ++ (t.tag).map V8) 76, .own a2 8 c3 ((be (t.serial).toNat 8).map V8) 5 1, .obj b4 ob6, .own a8 n9 c10 ((be (t.serial).toNat 8 ++ cnt ((t.tenant).length) ++ t.tenant).map V8) 5 1]) := H.call Hc
  clear Hc
  try dsimp only at hn11
  refine l_op (o_val (r_mv) ?_)
  refine l_op (o_val (r_ext rfl rfl) ?_)
  refine l_op (o_val (r_ext rfl rfl) ?_)
  refine l_op (o_val (r_as) ?_)
  first | refine l_end ?_ | refine l_nil ?_
  repeat refine c_seq ?_
  refine wp_held (fun w => Hp w0 w [] [.blk b1 ([V64 t.serial, .string ⟨(t.tenant).toArray⟩, V8 t.rights, VI t.from_, VI t.until_, t.cs.v] ++ (t.tag).map V8) 76, .own a2 8 c3 ((be (t.serial).toNat 8).map V8) 5 1, .obj b4 ob6]) mixed ?_
  replace H := H.drew
  have HS := H.sub (.cons_cons _ (.cons_cons _ (.cons_cons _ (List.nil_sublist _))))
  refine t_take 0 rfl (by kernel_rfl) (by kernel_rfl) (by kernel_rfl) (fun _ _ _ h => h) (fun w HS => r_mv) HS ?_
  refine t_take 1 rfl (by kernel_rfl) (by kernel_rfl) (by kernel_rfl) (fun _ _ _ h => h) (fun w HS => r_fa rfl fo76_2) HS ?_
  refine t_take 2 rfl (by kernel_rfl) (by kernel_rfl) (by kernel_rfl) (fun _ _ _ h => h) (fun w HS => r_ld (v := V8 t.rights) HS (i := 0) rfl rfl ct73 rfl) HS ?_
  refine t_take 5 rfl (by kernel_rfl) (by kernel_rfl) (by kernel_rfl) (fun _ _ _ h => h) (fun w HS => r_fa rfl fo76_3) HS ?_
  refine t_take 6 rfl (by kernel_rfl) (by kernel_rfl) (by kernel_rfl) (fun _ _ _ h => h) (fun w HS => r_ld (v := VI t.from_) HS (i := 0) rfl rfl ct2 rfl) HS ?_
  refine t_take 8 rfl (by kernel_rfl) (by kernel_rfl) (by kernel_rfl) (fun _ _ _ h => h) (fun w HS => r_fa rfl fo76_4) HS ?_
  refine t_take 9 rfl (by kernel_rfl) (by kernel_rfl) (by kernel_rfl) (fun _ _ _ h => h) (fun w HS => r_ld (v := VI t.until_) HS (i := 0) rfl rfl ct2 rfl) HS ?_
  refine t_step 3 rfl (by kernel_rfl) (o_bslB ([t.rights]) H sl29 zc5 rfl rfl (by decide) (fun b12 w H hb12 => ?_))
  replace H : Hp w0 w [] ([.blk b1 ([V64 t.serial, .string ⟨(t.tenant).toArray⟩, V8 t.rights, VI t.from_, VI t.until_, t.cs.v] ++ (t.tag).map V8) 76, .own a2 8 c3 ((be (t.serial).toNat 8).map V8) 5 1, .obj b4 ob6, .own a8 n9 c10 ((be (t.serial).toNat 8 ++ cnt ((t.tenant).length) ++ t.tenant).map V8) 5 1, .own (some b12) 1 1 (([t.rights]).map V8) 5 1]) := H
  refine ⟨H.sub (.cons_cons _ (.cons_cons _ (.cons_cons _ (List.nil_sublist _)))), ?_⟩
  replace HS := H.sub (.cons_cons _ (.cons_cons _ (.cons_cons _ (List.nil_sublist _))))
  refine t_step 4 rfl (by kernel_rfl) (o_appB (s := ⟨hd (some b12), 1, 1, [t.rights]⟩) (l' := be (t.serial).toNat 8 ++ cnt ((t.tenant).length) ++ t.tenant ++ ([t.rights])) (len' := n9 + 1) rfl rfl H (i := 3) rfl sl29 Try.underlying29 rfl rfl (H.slOwn (i := 4) rfl) (by omega) (fun a13 c14 w H => ?_))
  replace H : Hp w0 w [] ([.blk b1 ([V64 t.serial, .string ⟨(t.tenant).toArray⟩, V8 t.rights, VI t.from_, VI t.until_, t.cs.v] ++ (t.tag).map V8) 76, .own a2 8 c3 ((be (t.serial).toNat 8).map V8) 5 1, .obj b4 ob6, .own a13 (n9 + 1) c14 ((be (t.serial).toNat 8 ++ cnt ((t.tenant).length) ++ t.tenant ++ ([t.rights])).map V8) 5 1, .own (some b12) 1 1 (([t.rights]).map V8) 5 1]) := H
  refine ⟨H.sub (.cons_cons _ (.cons_cons _ (.cons_cons _ (List.nil_sublist _)))), ?_⟩
  replace HS := H.sub (.cons_cons _ (.cons_cons _ (.cons_cons _ (List.nil_sublist _))))
  refine t_step 7 rfl (by kernel_rfl) (o_callR Try.func141 rfl rfl rfl (time_ret _ ⟨hd a13, n9 + 1, c14, be (t.serial).toNat 8 ++ cnt ((t.tenant).length) ++ t.tenant ++ ([t.rights])⟩ (H.slOwn (i := 3) rfl) (by (try simp only [Sl.cut]); omega) (t.from_)) ?_)
  rintro _ w ⟨a15, c16, rfl, Hc⟩
  replace H : Hp w0 w [] ([.blk b1 ([V64 t.serial, .string ⟨(t.tenant).toArray⟩, V8 t.rights, VI t.from_, VI t.until_, t.cs.v] ++ (t.tag).map V8) 76, .own a2 8 c3 ((be (t.serial).toNat 8).map V8) 5 1, .obj b4 ob6, .own a13 (n9 + 1) c14 ((be (t.serial).toNat 8 ++ cnt ((t.tenant).length) ++ t.tenant ++ ([t.rights])).map V8) 5 1, .own (some b12) 1 1 (([t.rights]).map V8) 5 1, .own a15 (n9 + 1 + 8) c16 ((be (t.serial).toNat 8 ++ cnt ((t.tenant).length) ++ t.tenant ++ ([t.rights]) ++ timeB (t.from_)).map V8) 5 1]) := H.call Hc
  clear Hc
  refine ⟨H.sub (.cons_cons _ (.cons_cons _ (.cons_cons _ (List.nil_sublist _)))), ?_⟩
  replace HS := H.sub (.cons_cons _ (.cons_cons _ (.cons_cons _ (List.nil_sublist _))))
  refine t_step 10 rfl (by kernel_rfl) (o_callR Try.func141 rfl rfl rfl (time_ret _ ⟨hd a15, n9 + 1 + 8, c16, be (t.serial).toNat 8 ++ cnt ((t.tenant).length) ++ t.tenant ++ ([t.rights]) ++ timeB (t.from_)⟩ (H.slOwn (i := 5) rfl) (by (try simp only [Sl.cut]); omega) (t.until_)) ?_)
  rintro _ w ⟨a17, c18, rfl, Hc⟩
  replace H : Hp w0 w [] ([.blk b1 ([V64 t.serial, .string ⟨(t.tenant).toArray⟩, V8 t.rights, VI t.from_, VI t.until_, t.cs.v] ++ (t.tag).map V8) 76, .own a2 8 c3 ((be (t.serial).toNat 8).map V8) 5 1, .obj b4 ob6, .own a13 (n9 + 1) c14 ((be (t.serial).toNat 8 ++ cnt ((t.tenant).length) ++ t.tenant ++ ([t.rights])).map V8) 5 1, .own (some b12) 1 1 (([t.rights]).map V8) 5 1, .own a15 (n9 + 1 + 8) c16 ((be (t.serial).toNat 8 ++ cnt ((t.tenant).length) ++ t.tenant ++ ([t.rights]) ++ timeB (t.from_)).map V8) 5 1, .own a17 (n9 + 1 + 8 + 8) c18 ((be (t.serial).toNat 8 ++ cnt ((t.tenant).length) ++ t.tenant ++ ([t.rights]) ++ timeB (t.from_) ++ timeB (t.until_)).map V8) 5 1]) := H.call Hc
  clear Hc
  refine ⟨H.sub (.cons_cons _ (.cons_cons _ (.cons_cons _ (List.nil_sublist _)))), ?_⟩
  replace HS := H.sub (.cons_cons _ (.cons_cons _ (.cons_cons _ (List.nil_sublist _))))
  refine t_take 11 rfl (by kernel_rfl) (by kernel_rfl) (by kernel_rfl) (fun _ _ _ h => h) (fun w HS => r_as) HS ?_
  refine t_done (by kernel_rfl) ?_
  clear HS
  refine c_ret ?_
  try dsimp only [Exit.then, Exit.inBlock]
  refine e_ret1 (v := .slice (hd a17) (n9 + 1 + 8 + 8) c18) Try.results115 rfl ?_
  refine ⟨_, rfl, ?_⟩
  have e : be (t.serial).toNat 8 ++ cnt ((t.tenant).length) ++ t.tenant ++ ([t.rights]) ++ timeB (t.from_) ++ timeB (t.until_) = t.head := by simp [Tok.head, headB]
  rw [e] at H
  have hh := (H.ownLen (i := 6) rfl).1
  exact ⟨_, _, _, rfl, by omega, by simpa using hh, H.sub (.cons _ (.cons _ (.cons _ (.cons _ (.cons _ (.cons _ (.cons_cons _ (List.nil_sublist _))))))))⟩
end Go.Proofs.Ytjmbbhnpfmblpaa
