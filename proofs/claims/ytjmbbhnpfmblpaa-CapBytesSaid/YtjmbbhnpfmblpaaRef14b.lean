import Derived.Test.YtjmbbhnpfmblpaaK7
import Derived.Test.YtjmbbhnpfmblpaaRef14a
/- the document's tokens: May, head, caveat. -/
namespace Go.Proofs.Ytjmbbhnpfmblpaa
open Go
set_option maxRecDepth 100000
theorem rMay_iff (r : UInt8) : rMay r = true ↔ r.toNat ≤ 15 := by
  have e : ∀ n, n < 256 → (rMay (UInt8.ofNat n) = true ↔ n ≤ 15) := by decide
  have := e r.toNat (u8_lt r)
  rwa [UInt8.ofNat_toNat] at this
/-- numbers of a token are such as int64 has. -/
structure Tok.bd (t : Tok) : Prop where
  f : -9223372036854775808 ≤ t.from_ ∧ t.from_ ≤ 9223372036854775807
  u : -9223372036854775808 ≤ t.until_ ∧ t.until_ ≤ 9223372036854775807
  cs : ∀ c ∈ t.cs.l, -9223372036854775808 ≤ c.2 ∧ c.2 ≤ 9223372036854775807
theorem nmay4_ret (w0 : World) (l : List UInt8) (hl : l.length ≤ 1099511627776) :
    Ret Try.prog 124 [.string ⟨(l).toArray⟩] w0 fun v w' => v = .bool (nameMay l) ∧ Hp w0 w' [] [] := by
  refine ret_mk Try.func124 rfl Try.ntmps124 (by simp) ?_
  have H := Hp.refl w0 []
  repeat refine c_seq ?_
  refine c_region ?_
  refine l_op (o_val (r_as) ?_)
  first | refine l_end ?_ | refine l_nil ?_
  repeat refine c_seq ?_
  refine c_region ?_
  refine l_op (o_val (r_mv) ?_)
  refine l_op (o_val (r_lenstr (s := ⟨(l).toArray⟩) Try.underlying9 rfl) ?_)
  refine l_op (o_val (r_bin (a := ((l).length : Int)) (b := 1) rfl rfl (fun _ => b_lss)) ?_)
  refine l_op (o_val (r_mv) ?_)
  by_cases hc1 : ((l).length : Int) < 1
  · skip
    refine l_no rfl rfl (by exact congrArg Value.bool (decide_eq_true hc1)) rfl ?_
    refine l_no rfl rfl (by exact congrArg Value.bool (decide_eq_true hc1)) rfl ?_
    refine l_no rfl rfl (by exact congrArg Value.bool (decide_eq_true hc1)) rfl ?_
    refine l_op (o_val (r_pick (b := true) (congrArg Value.bool (decide_eq_true hc1))) ?_)
    refine l_op (o_val (r_mv) ?_)
    refine l_no rfl rfl rfl rfl ?_
    refine l_no rfl rfl rfl rfl ?_
    refine l_no rfl rfl rfl rfl ?_
    refine l_op (o_val (r_pick rfl) ?_)
    refine l_op (o_val (r_mv) ?_)
    refine l_no rfl rfl rfl rfl ?_
    refine l_no rfl rfl rfl rfl ?_
    refine l_no rfl rfl rfl rfl ?_
    refine l_op (o_val (r_pick rfl) ?_)
    first | refine l_end ?_ | refine l_nil ?_
    repeat refine c_seq ?_
    refine c_yes rfl ?_
    repeat refine c_seq ?_
    refine c_region ?_
    refine l_op (o_val (r_as) ?_)
    first | refine l_end ?_ | refine l_nil ?_
    refine c_ret ?_
    try dsimp only [Exit.then, Exit.inBlock]
    refine e_ret1 (v := .bool false) Try.results124 rfl ?_
    refine ⟨_, rfl, ?_⟩
    refine ⟨?_, H⟩
    have e : nameMay l = false := Bool.eq_false_iff.2 fun h => by
      have h2 := (nameMay_iff l).1 h
      exact absurd h2 (by omega)
    rw [e]
  · skip
    refine l_yes rfl rfl (by exact congrArg Value.bool (decide_eq_false hc1)) (o_val (r_mv) ?_)
    refine l_yes rfl rfl (by exact congrArg Value.bool (decide_eq_false hc1)) (o_val (r_lenstr (s := ⟨(l).toArray⟩) Try.underlying9 rfl) ?_)
    refine l_yes rfl rfl (by exact congrArg Value.bool (decide_eq_false hc1)) (o_val (r_bin (a := ((l).length : Int)) (b := 16) rfl rfl (fun _ => b_gtr)) ?_)
    refine l_op (o_val (r_pick (b := false) (congrArg Value.bool (decide_eq_false hc1))) ?_)
    refine l_op (o_val (r_mv) ?_)
    by_cases hc2 : 16 < ((l).length : Int)
    · skip
      refine l_no rfl rfl (by exact congrArg Value.bool (decide_eq_true hc2)) rfl ?_
      refine l_no rfl rfl (by exact congrArg Value.bool (decide_eq_true hc2)) rfl ?_
      refine l_no rfl rfl (by exact congrArg Value.bool (decide_eq_true hc2)) rfl ?_
      refine l_op (o_val (r_pick (b := true) (congrArg Value.bool (decide_eq_true hc2))) ?_)
      refine l_op (o_val (r_mv) ?_)
      refine l_no rfl rfl rfl rfl ?_
      refine l_no rfl rfl rfl rfl ?_
      refine l_no rfl rfl rfl rfl ?_
      refine l_op (o_val (r_pick rfl) ?_)
      first | refine l_end ?_ | refine l_nil ?_
      repeat refine c_seq ?_
      refine c_yes rfl ?_
      repeat refine c_seq ?_
      refine c_region ?_
      refine l_op (o_val (r_as) ?_)
      first | refine l_end ?_ | refine l_nil ?_
      refine c_ret ?_
      try dsimp only [Exit.then, Exit.inBlock]
      refine e_ret1 (v := .bool false) Try.results124 rfl ?_
      refine ⟨_, rfl, ?_⟩
      refine ⟨?_, H⟩
      have e : nameMay l = false := Bool.eq_false_iff.2 fun h => by
        have h2 := (nameMay_iff l).1 h
        exact absurd h2 (by omega)
      rw [e]
    · skip
      refine l_yes rfl rfl (by exact congrArg Value.bool (decide_eq_false hc2)) (o_val (r_mv) ?_)
      refine l_yes rfl rfl (by exact congrArg Value.bool (decide_eq_false hc2)) (o_val (r_idxS (l := l) 0 Try.underlying9 rfl rfl (by omega) (by omega)) ?_)
      refine l_yes rfl rfl (by exact congrArg Value.bool (decide_eq_false hc2)) (o_val (r_bin (a := (((l).getD 0 0).toNat : Int)) (b := 97) rfl rfl (fun _ => b_lss)) ?_)
      refine l_op (o_val (r_pick (b := false) (congrArg Value.bool (decide_eq_false hc2))) ?_)
      refine l_op (o_val (r_mv) ?_)
      by_cases hc3 : (((l).getD 0 0).toNat : Int) < 97
      · skip
        refine l_no rfl rfl (by exact congrArg Value.bool (decide_eq_true hc3)) rfl ?_
        refine l_no rfl rfl (by exact congrArg Value.bool (decide_eq_true hc3)) rfl ?_
        refine l_no rfl rfl (by exact congrArg Value.bool (decide_eq_true hc3)) rfl ?_
        refine l_op (o_val (r_pick (b := true) (congrArg Value.bool (decide_eq_true hc3))) ?_)
        first | refine l_end ?_ | refine l_nil ?_
        repeat refine c_seq ?_
        refine c_yes rfl ?_
        repeat refine c_seq ?_
        refine c_region ?_
        refine l_op (o_val (r_as) ?_)
        first | refine l_end ?_ | refine l_nil ?_
        refine c_ret ?_
        try dsimp only [Exit.then, Exit.inBlock]
        refine e_ret1 (v := .bool false) Try.results124 rfl ?_
        refine ⟨_, rfl, ?_⟩
        refine ⟨?_, H⟩
        have e : nameMay l = false := Bool.eq_false_iff.2 fun h => by
          have h2 := (nameMay_iff l).1 h
          exact absurd h2 (by omega)
        rw [e]
      · skip
        refine l_yes rfl rfl (by exact congrArg Value.bool (decide_eq_false hc3)) (o_val (r_mv) ?_)
        refine l_yes rfl rfl (by exact congrArg Value.bool (decide_eq_false hc3)) (o_val (r_idxS (l := l) 0 Try.underlying9 rfl rfl (by omega) (by omega)) ?_)
        refine l_yes rfl rfl (by exact congrArg Value.bool (decide_eq_false hc3)) (o_val (r_bin (a := (((l).getD 0 0).toNat : Int)) (b := 122) rfl rfl (fun _ => b_gtr)) ?_)
        refine l_op (o_val (r_pick (b := false) (congrArg Value.bool (decide_eq_false hc3))) ?_)
        first | refine l_end ?_ | refine l_nil ?_
        by_cases hc4 : 122 < (((l).getD 0 0).toNat : Int)
        · skip
          repeat refine c_seq ?_
          refine c_yes (by exact congrArg Value.bool (decide_eq_true hc4)) ?_
          repeat refine c_seq ?_
          refine c_region ?_
          refine l_op (o_val (r_as) ?_)
          first | refine l_end ?_ | refine l_nil ?_
          refine c_ret ?_
          try dsimp only [Exit.then, Exit.inBlock]
          refine e_ret1 (v := .bool false) Try.results124 rfl ?_
          refine ⟨_, rfl, ?_⟩
          refine ⟨?_, H⟩
          have e : nameMay l = false := Bool.eq_false_iff.2 fun h => by
            have h2 := (nameMay_iff l).1 h
            exact absurd h2 (by omega)
          rw [e]
        · skip
          repeat refine c_seq ?_
          refine c_no (by exact congrArg Value.bool (decide_eq_false hc4)) ?_
          refine c_skip ?_
          repeat refine c_seq ?_
          refine c_region ?_
          refine l_op (o_val (r_as) ?_)
          first | refine l_end ?_ | refine l_nil ?_
          repeat refine c_seq ?_
          refine c_block ?_
          repeat refine c_seq ?_
          refine c_loop (fun (i : Nat) => [(0, .string ⟨(l).toArray⟩), (3, VI (i : Int))])
            (fun (i : Nat) w => (i ≤ l.length ∧ ∀ j, j < i → nm1 (l.getD j 0) = true) ∧ Hp w0 w [] ([]))
            (fun (i : Nat) => l.length - i) 0 ⟨rfl, rfl, trivial⟩ ⟨⟨Nat.zero_le _, fun j hj => absurd hj (by omega)⟩, H⟩ ?_
          clear H
          rintro i τ w ⟨⟨hi, hall⟩, H⟩
          repeat refine c_seq ?_
          refine c_region ?_
          refine l_op (o_val (r_mv) ?_)
          refine l_op (o_val (r_mv) ?_)
          refine l_op (o_val (r_lenstr (s := ⟨(l).toArray⟩) Try.underlying9 rfl) ?_)
          refine l_op (o_val (r_bin (a := (i : Int)) (b := ((l).length : Int)) rfl rfl (fun _ => b_lss)) ?_)
          first | refine l_end ?_ | refine l_nil ?_
          by_cases hc5 : (i : Int) < ((l).length : Int)
          · skip
            repeat refine c_seq ?_
            refine c_yes (by exact congrArg Value.bool (decide_eq_true hc5)) ?_
            refine c_skip ?_
            repeat refine c_seq ?_
            refine c_block ?_
            repeat refine c_seq ?_
            refine c_region ?_
            refine l_op (o_val (r_mv) ?_)
            refine l_op (o_val (r_mv) ?_)
            refine l_op (o_val (r_idxS (l := l) i Try.underlying9 rfl rfl (by omega) (by omega)) ?_)
            refine l_op (o_val (r_as) ?_)
            first | refine l_end ?_ | refine l_nil ?_
            repeat refine c_seq ?_
            refine c_region ?_
            refine l_op (o_val (r_mv) ?_)
            refine l_op (o_val (r_bin (a := (((l).getD i 0).toNat : Int)) (b := 97) rfl rfl (fun _ => b_geq)) ?_)
            refine l_op (o_val (r_mv) ?_)
            by_cases hc6 : 97 ≤ (((l).getD i 0).toNat : Int)
            · skip
              refine l_yes rfl rfl (by exact congrArg Value.bool (decide_eq_true hc6)) (o_val (r_mv) ?_)
              refine l_yes rfl rfl (by exact congrArg Value.bool (decide_eq_true hc6)) (o_val (r_bin (a := (((l).getD i 0).toNat : Int)) (b := 122) rfl rfl (fun _ => b_leq)) ?_)
              refine l_op (o_val (r_pick (b := true) (congrArg Value.bool (decide_eq_true hc6))) ?_)
              refine l_op (o_val (r_mv) ?_)
              by_cases hc7 : (((l).getD i 0).toNat : Int) ≤ 122
              · skip
                refine l_no rfl rfl (by exact congrArg Value.bool (decide_eq_true hc7)) rfl ?_
                refine l_no rfl rfl (by exact congrArg Value.bool (decide_eq_true hc7)) rfl ?_
                refine l_no rfl rfl (by exact congrArg Value.bool (decide_eq_true hc7)) rfl ?_
                refine l_non rfl rfl rfl ?_
                refine l_non rfl rfl rfl ?_
                refine l_no rfl rfl (by exact congrArg Value.bool (decide_eq_true hc7)) rfl ?_
                refine l_op (o_val (r_pick (b := true) (congrArg Value.bool (decide_eq_true hc7))) ?_)
                refine l_op (o_val (r_mv) ?_)
                refine l_no rfl rfl rfl rfl ?_
                refine l_no rfl rfl rfl rfl ?_
                refine l_op (o_val (r_pick rfl) ?_)
                refine l_op (o_val (r_not rfl) ?_)
                first | refine l_end ?_ | refine l_nil ?_
                repeat refine c_seq ?_
                refine c_no rfl ?_
                refine c_skip ?_
                repeat refine c_seq ?_
                refine c_region ?_
                refine l_op (o_val (r_mv) ?_)
                refine l_op (o_val (r_bin (a := (i : Int)) (b := 1) rfl rfl (fun _ => b_add (by omega) (by omega))) ?_)
                refine l_op (o_val (r_as) ?_)
                first | refine l_end ?_ | refine l_nil ?_
                refine round_end (i + 1) ?_ ?_ ?_
                · exact ⟨rfl, show VI ((i : Int) + 1) = VI ((i + 1 : Nat) : Int) from congrArg VI (by omega), trivial⟩
                · refine ⟨?_, ?_⟩
                  · try dsimp only
                    exact ⟨by omega, fun j hj => by
                      by_cases hji : j < i
                      · exact hall j hji
                      · have e : j = i := by omega
                        rw [e]; exact (nm1_iff _).2 (by omega)⟩
                  · exact H
                · show l.length - (i + 1 : Nat) < l.length - i; omega
              · skip
                refine l_yes rfl rfl (by exact congrArg Value.bool (decide_eq_false hc7)) (o_val (r_mv) ?_)
                refine l_yes rfl rfl (by exact congrArg Value.bool (decide_eq_false hc7)) (o_val (r_bin (a := (((l).getD i 0).toNat : Int)) (b := 48) rfl rfl (fun _ => b_geq)) ?_)
                refine l_yes rfl rfl (by exact congrArg Value.bool (decide_eq_false hc7)) (o_val (r_mv) ?_)
                by_cases hc8 : 48 ≤ (((l).getD i 0).toNat : Int)
                · skip
                  refine l_yes rfl rfl (by exact congrArg Value.bool (decide_eq_true hc8)) (o_val (r_mv) ?_)
                  refine l_yes rfl rfl (by exact congrArg Value.bool (decide_eq_true hc8)) (o_val (r_bin (a := (((l).getD i 0).toNat : Int)) (b := 57) rfl rfl (fun _ => b_leq)) ?_)
                  refine l_yes rfl rfl (by exact congrArg Value.bool (decide_eq_false hc7)) (o_val (r_pick (b := true) (congrArg Value.bool (decide_eq_true hc8))) ?_)
                  refine l_op (o_val (r_pick (b := false) (congrArg Value.bool (decide_eq_false hc7))) ?_)
                  refine l_op (o_val (r_mv) ?_)
                  by_cases hc9 : (((l).getD i 0).toNat : Int) ≤ 57
                  · skip
                    refine l_no rfl rfl (by exact congrArg Value.bool (decide_eq_true hc9)) rfl ?_
                    refine l_no rfl rfl (by exact congrArg Value.bool (decide_eq_true hc9)) rfl ?_
                    refine l_op (o_val (r_pick (b := true) (congrArg Value.bool (decide_eq_true hc9))) ?_)
                    refine l_op (o_val (r_not rfl) ?_)
                    first | refine l_end ?_ | refine l_nil ?_
                    repeat refine c_seq ?_
                    refine c_no rfl ?_
                    refine c_skip ?_
                    repeat refine c_seq ?_
                    refine c_region ?_
                    refine l_op (o_val (r_mv) ?_)
                    refine l_op (o_val (r_bin (a := (i : Int)) (b := 1) rfl rfl (fun _ => b_add (by omega) (by omega))) ?_)
                    refine l_op (o_val (r_as) ?_)
                    first | refine l_end ?_ | refine l_nil ?_
                    refine round_end (i + 1) ?_ ?_ ?_
                    · exact ⟨rfl, show VI ((i : Int) + 1) = VI ((i + 1 : Nat) : Int) from congrArg VI (by omega), trivial⟩
                    · refine ⟨?_, ?_⟩
                      · try dsimp only
                        exact ⟨by omega, fun j hj => by
                          by_cases hji : j < i
                          · exact hall j hji
                          · have e : j = i := by omega
                            rw [e]; exact (nm1_iff _).2 (by omega)⟩
                      · exact H
                    · show l.length - (i + 1 : Nat) < l.length - i; omega
                  · skip
                    refine l_yes rfl rfl (by exact congrArg Value.bool (decide_eq_false hc9)) (o_val (r_mv) ?_)
                    refine l_yes rfl rfl (by exact congrArg Value.bool (decide_eq_false hc9)) (o_val (r_bin (a := (((l).getD i 0).toNat : Int)) (b := 45) rfl rfl (fun _ => b_eql)) ?_)
                    refine l_op (o_val (r_pick (b := false) (congrArg Value.bool (decide_eq_false hc9))) ?_)
                    refine l_op (o_val (r_not rfl) ?_)
                    first | refine l_end ?_ | refine l_nil ?_
                    by_cases hc10 : (((l).getD i 0).toNat : Int) = 45
                    · skip
                      repeat refine c_seq ?_
                      refine c_no (by exact congrArg Value.bool (congrArg not (decide_eq_true hc10))) ?_
                      refine c_skip ?_
                      repeat refine c_seq ?_
                      refine c_region ?_
                      refine l_op (o_val (r_mv) ?_)
                      refine l_op (o_val (r_bin (a := (i : Int)) (b := 1) rfl rfl (fun _ => b_add (by omega) (by omega))) ?_)
                      refine l_op (o_val (r_as) ?_)
                      first | refine l_end ?_ | refine l_nil ?_
                      refine round_end (i + 1) ?_ ?_ ?_
                      · exact ⟨rfl, show VI ((i : Int) + 1) = VI ((i + 1 : Nat) : Int) from congrArg VI (by omega), trivial⟩
                      · refine ⟨?_, ?_⟩
                        · try dsimp only
                          exact ⟨by omega, fun j hj => by
                            by_cases hji : j < i
                            · exact hall j hji
                            · have e : j = i := by omega
                              rw [e]; exact (nm1_iff _).2 (by omega)⟩
                        · exact H
                      · show l.length - (i + 1 : Nat) < l.length - i; omega
                    · skip
                      repeat refine c_seq ?_
                      refine c_yes (by exact congrArg Value.bool (congrArg not (decide_eq_false hc10))) ?_
                      repeat refine c_seq ?_
                      refine c_region ?_
                      refine l_op (o_val (r_as) ?_)
                      first | refine l_end ?_ | refine l_nil ?_
                      refine c_ret ?_
                      try dsimp only [Exit.then, Exit.inBlock]
                      refine e_ret1 (v := .bool false) Try.results124 rfl ?_
                      refine ⟨_, rfl, ?_⟩
                      refine ⟨?_, H⟩
                      have e : nameMay l = false := Bool.eq_false_iff.2 fun h => by
                        have h2 := (nameMay_iff l).1 h
                        have h3 := (nm1_iff _).1 (h2.2.2.2.2 i (by omega))
                        exact absurd h2 (by omega)
                      rw [e]
                · skip
                  refine l_no rfl rfl (by exact congrArg Value.bool (decide_eq_false hc8)) rfl ?_
                  refine l_no rfl rfl (by exact congrArg Value.bool (decide_eq_false hc8)) rfl ?_
                  refine l_yes rfl rfl (by exact congrArg Value.bool (decide_eq_false hc7)) (o_val (r_pick (b := false) (congrArg Value.bool (decide_eq_false hc8))) ?_)
                  refine l_op (o_val (r_pick (b := false) (congrArg Value.bool (decide_eq_false hc7))) ?_)
                  refine l_op (o_val (r_mv) ?_)
                  refine l_yes rfl rfl rfl (o_val (r_mv) ?_)
                  refine l_yes rfl rfl rfl (o_val (r_bin (a := (((l).getD i 0).toNat : Int)) (b := 45) rfl rfl (fun _ => b_eql)) ?_)
                  refine l_op (o_val (r_pick rfl) ?_)
                  refine l_op (o_val (r_not rfl) ?_)
                  first | refine l_end ?_ | refine l_nil ?_
                  by_cases hc11 : (((l).getD i 0).toNat : Int) = 45
                  · skip
                    repeat refine c_seq ?_
                    refine c_no (by exact congrArg Value.bool (congrArg not (decide_eq_true hc11))) ?_
                    refine c_skip ?_
                    repeat refine c_seq ?_
                    refine c_region ?_
                    refine l_op (o_val (r_mv) ?_)
                    refine l_op (o_val (r_bin (a := (i : Int)) (b := 1) rfl rfl (fun _ => b_add (by omega) (by omega))) ?_)
                    refine l_op (o_val (r_as) ?_)
                    first | refine l_end ?_ | refine l_nil ?_
                    refine round_end (i + 1) ?_ ?_ ?_
                    · exact ⟨rfl, show VI ((i : Int) + 1) = VI ((i + 1 : Nat) : Int) from congrArg VI (by omega), trivial⟩
                    · refine ⟨?_, ?_⟩
                      · try dsimp only
                        exact ⟨by omega, fun j hj => by
                          by_cases hji : j < i
                          · exact hall j hji
                          · have e : j = i := by omega
                            rw [e]; exact (nm1_iff _).2 (by omega)⟩
                      · exact H
                    · show l.length - (i + 1 : Nat) < l.length - i; omega
                  · skip
                    repeat refine c_seq ?_
                    refine c_yes (by exact congrArg Value.bool (congrArg not (decide_eq_false hc11))) ?_
                    repeat refine c_seq ?_
                    refine c_region ?_
                    refine l_op (o_val (r_as) ?_)
                    first | refine l_end ?_ | refine l_nil ?_
                    refine c_ret ?_
                    try dsimp only [Exit.then, Exit.inBlock]
                    refine e_ret1 (v := .bool false) Try.results124 rfl ?_
                    refine ⟨_, rfl, ?_⟩
                    refine ⟨?_, H⟩
                    have e : nameMay l = false := Bool.eq_false_iff.2 fun h => by
                      have h2 := (nameMay_iff l).1 h
                      have h3 := (nm1_iff _).1 (h2.2.2.2.2 i (by omega))
                      exact absurd h2 (by omega)
                    rw [e]
            · skip
              refine l_no rfl rfl (by exact congrArg Value.bool (decide_eq_false hc6)) rfl ?_
              refine l_no rfl rfl (by exact congrArg Value.bool (decide_eq_false hc6)) rfl ?_
              refine l_op (o_val (r_pick (b := false) (congrArg Value.bool (decide_eq_false hc6))) ?_)
              refine l_op (o_val (r_mv) ?_)
              refine l_yes rfl rfl rfl (o_val (r_mv) ?_)
              refine l_yes rfl rfl rfl (o_val (r_bin (a := (((l).getD i 0).toNat : Int)) (b := 48) rfl rfl (fun _ => b_geq)) ?_)
              refine l_yes rfl rfl rfl (o_val (r_mv) ?_)
              by_cases hc12 : 48 ≤ (((l).getD i 0).toNat : Int)
              · skip
                refine l_yes rfl rfl (by exact congrArg Value.bool (decide_eq_true hc12)) (o_val (r_mv) ?_)
                refine l_yes rfl rfl (by exact congrArg Value.bool (decide_eq_true hc12)) (o_val (r_bin (a := (((l).getD i 0).toNat : Int)) (b := 57) rfl rfl (fun _ => b_leq)) ?_)
                refine l_yes rfl rfl rfl (o_val (r_pick (b := true) (congrArg Value.bool (decide_eq_true hc12))) ?_)
                refine l_op (o_val (r_pick rfl) ?_)
                refine l_op (o_val (r_mv) ?_)
                by_cases hc13 : (((l).getD i 0).toNat : Int) ≤ 57
                · skip
                  refine l_no rfl rfl (by exact congrArg Value.bool (decide_eq_true hc13)) rfl ?_
                  refine l_no rfl rfl (by exact congrArg Value.bool (decide_eq_true hc13)) rfl ?_
                  refine l_op (o_val (r_pick (b := true) (congrArg Value.bool (decide_eq_true hc13))) ?_)
                  refine l_op (o_val (r_not rfl) ?_)
                  first | refine l_end ?_ | refine l_nil ?_
                  repeat refine c_seq ?_
                  refine c_no rfl ?_
                  refine c_skip ?_
                  repeat refine c_seq ?_
                  refine c_region ?_
                  refine l_op (o_val (r_mv) ?_)
                  refine l_op (o_val (r_bin (a := (i : Int)) (b := 1) rfl rfl (fun _ => b_add (by omega) (by omega))) ?_)
                  refine l_op (o_val (r_as) ?_)
                  first | refine l_end ?_ | refine l_nil ?_
                  refine round_end (i + 1) ?_ ?_ ?_
                  · exact ⟨rfl, show VI ((i : Int) + 1) = VI ((i + 1 : Nat) : Int) from congrArg VI (by omega), trivial⟩
                  · refine ⟨?_, ?_⟩
                    · try dsimp only
                      exact ⟨by omega, fun j hj => by
                        by_cases hji : j < i
                        · exact hall j hji
                        · have e : j = i := by omega
                          rw [e]; exact (nm1_iff _).2 (by omega)⟩
                    · exact H
                  · show l.length - (i + 1 : Nat) < l.length - i; omega
                · skip
                  refine l_yes rfl rfl (by exact congrArg Value.bool (decide_eq_false hc13)) (o_val (r_mv) ?_)
                  refine l_yes rfl rfl (by exact congrArg Value.bool (decide_eq_false hc13)) (o_val (r_bin (a := (((l).getD i 0).toNat : Int)) (b := 45) rfl rfl (fun _ => b_eql)) ?_)
                  refine l_op (o_val (r_pick (b := false) (congrArg Value.bool (decide_eq_false hc13))) ?_)
                  refine l_op (o_val (r_not rfl) ?_)
                  first | refine l_end ?_ | refine l_nil ?_
                  by_cases hc14 : (((l).getD i 0).toNat : Int) = 45
                  · skip
                    repeat refine c_seq ?_
                    refine c_no (by exact congrArg Value.bool (congrArg not (decide_eq_true hc14))) ?_
                    refine c_skip ?_
                    repeat refine c_seq ?_
                    refine c_region ?_
                    refine l_op (o_val (r_mv) ?_)
                    refine l_op (o_val (r_bin (a := (i : Int)) (b := 1) rfl rfl (fun _ => b_add (by omega) (by omega))) ?_)
                    refine l_op (o_val (r_as) ?_)
                    first | refine l_end ?_ | refine l_nil ?_
                    refine round_end (i + 1) ?_ ?_ ?_
                    · exact ⟨rfl, show VI ((i : Int) + 1) = VI ((i + 1 : Nat) : Int) from congrArg VI (by omega), trivial⟩
                    · refine ⟨?_, ?_⟩
                      · try dsimp only
                        exact ⟨by omega, fun j hj => by
                          by_cases hji : j < i
                          · exact hall j hji
                          · have e : j = i := by omega
                            rw [e]; exact (nm1_iff _).2 (by omega)⟩
                      · exact H
                    · show l.length - (i + 1 : Nat) < l.length - i; omega
                  · skip
                    repeat refine c_seq ?_
                    refine c_yes (by exact congrArg Value.bool (congrArg not (decide_eq_false hc14))) ?_
                    repeat refine c_seq ?_
                    refine c_region ?_
                    refine l_op (o_val (r_as) ?_)
                    first | refine l_end ?_ | refine l_nil ?_
                    refine c_ret ?_
                    try dsimp only [Exit.then, Exit.inBlock]
                    refine e_ret1 (v := .bool false) Try.results124 rfl ?_
                    refine ⟨_, rfl, ?_⟩
                    refine ⟨?_, H⟩
                    have e : nameMay l = false := Bool.eq_false_iff.2 fun h => by
                      have h2 := (nameMay_iff l).1 h
                      have h3 := (nm1_iff _).1 (h2.2.2.2.2 i (by omega))
                      exact absurd h2 (by omega)
                    rw [e]
              · skip
                refine l_no rfl rfl (by exact congrArg Value.bool (decide_eq_false hc12)) rfl ?_
                refine l_no rfl rfl (by exact congrArg Value.bool (decide_eq_false hc12)) rfl ?_
                refine l_yes rfl rfl rfl (o_val (r_pick (b := false) (congrArg Value.bool (decide_eq_false hc12))) ?_)
                refine l_op (o_val (r_pick rfl) ?_)
                refine l_op (o_val (r_mv) ?_)
                refine l_yes rfl rfl rfl (o_val (r_mv) ?_)
                refine l_yes rfl rfl rfl (o_val (r_bin (a := (((l).getD i 0).toNat : Int)) (b := 45) rfl rfl (fun _ => b_eql)) ?_)
                refine l_op (o_val (r_pick rfl) ?_)
                refine l_op (o_val (r_not rfl) ?_)
                first | refine l_end ?_ | refine l_nil ?_
                by_cases hc15 : (((l).getD i 0).toNat : Int) = 45
                · skip
                  repeat refine c_seq ?_
                  refine c_no (by exact congrArg Value.bool (congrArg not (decide_eq_true hc15))) ?_
                  refine c_skip ?_
                  repeat refine c_seq ?_
                  refine c_region ?_
                  refine l_op (o_val (r_mv) ?_)
                  refine l_op (o_val (r_bin (a := (i : Int)) (b := 1) rfl rfl (fun _ => b_add (by omega) (by omega))) ?_)
                  refine l_op (o_val (r_as) ?_)
                  first | refine l_end ?_ | refine l_nil ?_
                  refine round_end (i + 1) ?_ ?_ ?_
                  · exact ⟨rfl, show VI ((i : Int) + 1) = VI ((i + 1 : Nat) : Int) from congrArg VI (by omega), trivial⟩
                  · refine ⟨?_, ?_⟩
                    · try dsimp only
                      exact ⟨by omega, fun j hj => by
                        by_cases hji : j < i
                        · exact hall j hji
                        · have e : j = i := by omega
                          rw [e]; exact (nm1_iff _).2 (by omega)⟩
                    · exact H
                  · show l.length - (i + 1 : Nat) < l.length - i; omega
                · skip
                  repeat refine c_seq ?_
                  refine c_yes (by exact congrArg Value.bool (congrArg not (decide_eq_false hc15))) ?_
                  repeat refine c_seq ?_
                  refine c_region ?_
                  refine l_op (o_val (r_as) ?_)
                  first | refine l_end ?_ | refine l_nil ?_
                  refine c_ret ?_
                  try dsimp only [Exit.then, Exit.inBlock]
                  refine e_ret1 (v := .bool false) Try.results124 rfl ?_
                  refine ⟨_, rfl, ?_⟩
                  refine ⟨?_, H⟩
                  have e : nameMay l = false := Bool.eq_false_iff.2 fun h => by
                    have h2 := (nameMay_iff l).1 h
                    have h3 := (nm1_iff _).1 (h2.2.2.2.2 i (by omega))
                    exact absurd h2 (by omega)
                  rw [e]
          · skip
            repeat refine c_seq ?_
            refine c_no (by exact congrArg Value.bool (decide_eq_false hc5)) ?_
            refine c_exit ?_
            repeat refine c_seq ?_
            refine c_region ?_
            refine l_op (o_val (r_as) ?_)
            first | refine l_end ?_ | refine l_nil ?_
            refine c_ret ?_
            try dsimp only [Exit.then, Exit.inBlock]
            refine e_ret1 (v := .bool true) Try.results124 rfl ?_
            refine ⟨_, rfl, ?_⟩
            refine ⟨?_, H⟩
            rw [(nameMay_iff l).2 ⟨by omega, by omega, by omega, by omega, fun j hj => hall j (by omega)⟩]
theorem may14_ret (w0 : World) (t : Tok) (hc : t.cs.ok cavE 2 w0) (htag : t.tag.length = 32) (hn : t.tenant.length ≤ 65536) :
    Ret Try.prog 76 [.agg ([V64 t.serial, .string ⟨(t.tenant).toArray⟩, V8 t.rights, VI t.from_, VI t.until_, t.cs.v] ++ (t.tag).map V8).toArray] w0 fun v w' => v = .bool (mayT t) ∧ Hp w0 w' [] [] := by
  refine ret_mk Try.func76 rfl Try.ntmps76 (by simp) ?_
  have H := Hp.refl w0 []
  have hxl := hc.le
  have hxm := hc.mx
  have hmL : maxLen = 9223372036854775807 := rfl
  repeat refine c_seq ?_
  refine c_region ?_
  refine l_op (o_box (v := .agg ([V64 t.serial, .string ⟨(t.tenant).toArray⟩, V8 t.rights, VI t.from_, VI t.until_, t.cs.v] ++ (t.tag).map V8).toArray) H rfl (fun b1 w H hb1 => ?_))
  replace H : Hp w0 w [] ([.blk b1 ([V64 t.serial, .string ⟨(t.tenant).toArray⟩, V8 t.rights, VI t.from_, VI t.until_, t.cs.v] ++ (t.tag).map V8) 76]) := H
  refine l_op (o_val (r_as) ?_)
  first | refine l_end ?_ | refine l_nil ?_
  repeat refine c_seq ?_
  refine c_region ?_
  refine l_op (o_val (r_fa rfl fo76_1) ?_)
  refine l_op (o_val (r_ld (v := .string ⟨(t.tenant).toArray⟩) H (i := 0) rfl rfl ct9 rfl) ?_)
  refine l_op (o_val (r_strne (a := t.tenant) (b := ([] : List UInt8)) rfl rfl) ?_)
  refine l_op (o_val (r_mv) ?_)
  by_cases hc2 : t.tenant = ([] : List UInt8)
  · skip
    refine l_no rfl rfl (by exact congrArg Value.bool (congrArg not (decide_eq_true hc2))) rfl ?_
    refine l_no rfl rfl (by exact congrArg Value.bool (congrArg not (decide_eq_true hc2))) rfl ?_
    refine l_no rfl rfl (by exact congrArg Value.bool (congrArg not (decide_eq_true hc2))) rfl ?_
    refine l_no rfl rfl (by exact congrArg Value.bool (congrArg not (decide_eq_true hc2))) rfl ?_
    refine l_op (o_val (r_pick (b := false) (congrArg Value.bool (congrArg not (decide_eq_true hc2)))) ?_)
    refine l_op (o_val (r_mv) ?_)
    refine l_yes rfl rfl rfl (o_val (r_fa rfl fo76_2) ?_)
    refine l_yes rfl rfl rfl (o_val (r_ld (v := V8 t.rights) H (i := 0) rfl rfl ct73 rfl) ?_)
    refine l_yes rfl rfl rfl (o_val (r_bin (a := (t.rights.toNat : Int)) (b := 15) rfl rfl (fun _ => b_gtr)) ?_)
    refine l_op (o_val (r_pick rfl) ?_)
    refine l_op (o_val (r_mv) ?_)
    by_cases hc3 : 15 < (t.rights.toNat : Int)
    · skip
      refine l_no rfl rfl (by exact congrArg Value.bool (decide_eq_true hc3)) rfl ?_
      refine l_no rfl rfl (by exact congrArg Value.bool (decide_eq_true hc3)) rfl ?_
      refine l_no rfl rfl (by exact congrArg Value.bool (decide_eq_true hc3)) rfl ?_
      refine l_no rfl rfl (by exact congrArg Value.bool (decide_eq_true hc3)) rfl ?_
      refine l_op (o_val (r_pick (b := true) (congrArg Value.bool (decide_eq_true hc3))) ?_)
      first | refine l_end ?_ | refine l_nil ?_
      repeat refine c_seq ?_
      refine c_yes rfl ?_
      repeat refine c_seq ?_
      refine c_region ?_
      refine l_op (o_val (r_as) ?_)
      first | refine l_end ?_ | refine l_nil ?_
      refine c_ret ?_
      try dsimp only [Exit.then, Exit.inBlock]
      refine e_ret1 (v := .bool false) Try.results76 rfl ?_
      refine ⟨_, rfl, ?_⟩
      refine ⟨?_, H.sub (List.nil_sublist _)⟩
      have e : mayT t = false := Bool.eq_false_iff.2 fun h => by
        have h2 := (mayT_iff t).1 h
        have h3 := (rMay_iff _).1 h2.2.1
        omega
      rw [e]
    · skip
      refine l_yes rfl rfl (by exact congrArg Value.bool (decide_eq_false hc3)) (o_val (r_fa rfl fo76_5) ?_)
      refine l_yes rfl rfl (by exact congrArg Value.bool (decide_eq_false hc3)) (o_val (r_ld (v := t.cs.v) H (i := 0) rfl rfl ct74 rfl) ?_)
      refine l_yes rfl rfl (by exact congrArg Value.bool (decide_eq_false hc3)) (o_val (r_lens el74 rfl) ?_)
      refine l_yes rfl rfl (by exact congrArg Value.bool (decide_eq_false hc3)) (o_val (r_bin (a := (t.cs.len : Int)) (b := 8) rfl rfl (fun _ => b_gtr)) ?_)
      refine l_op (o_val (r_pick (b := false) (congrArg Value.bool (decide_eq_false hc3))) ?_)
      first | refine l_end ?_ | refine l_nil ?_
      by_cases hc4 : 8 < (t.cs.len : Int)
      · skip
        repeat refine c_seq ?_
        refine c_yes (by exact congrArg Value.bool (decide_eq_true hc4)) ?_
        repeat refine c_seq ?_
        refine c_region ?_
        refine l_op (o_val (r_as) ?_)
        first | refine l_end ?_ | refine l_nil ?_
        refine c_ret ?_
        try dsimp only [Exit.then, Exit.inBlock]
        refine e_ret1 (v := .bool false) Try.results76 rfl ?_
        refine ⟨_, rfl, ?_⟩
        refine ⟨?_, H.sub (List.nil_sublist _)⟩
        have e : mayT t = false := Bool.eq_false_iff.2 fun h => by
          have h2 := (mayT_iff t).1 h
          have h3 := (rMay_iff _).1 h2.2.1
          omega
        rw [e]
      · skip
        repeat refine c_seq ?_
        refine c_no (by exact congrArg Value.bool (decide_eq_false hc4)) ?_
        refine c_skip ?_
        repeat refine c_seq ?_
        refine c_region ?_
        refine l_op (o_val (r_as) ?_)
        first | refine l_end ?_ | refine l_nil ?_
        repeat refine c_seq ?_
        refine c_block ?_
        repeat refine c_seq ?_
        refine c_loop (fun (i : Nat) => [(1, .pointer (some ⟨b1, 0, none⟩)), (3, VI (i : Int))])
          (fun (i : Nat) w => (i ≤ t.cs.len ∧ ∀ (j : Nat) (c : Cav), j < i → t.cs.l[j]? = some c → rMay c.1 = true) ∧ Hp w0 w [] ([.blk b1 ([V64 t.serial, .string ⟨(t.tenant).toArray⟩, V8 t.rights, VI t.from_, VI t.until_, t.cs.v] ++ (t.tag).map V8) 76]))
          (fun (i : Nat) => t.cs.len - i) 0 ⟨rfl, rfl, trivial⟩ ⟨⟨Nat.zero_le _, fun j c hj => absurd hj (by omega)⟩, H⟩ ?_
        clear H
        rintro i τ w ⟨⟨hi, hall⟩, H⟩
        repeat refine c_seq ?_
        refine c_region ?_
        refine l_op (o_val (r_mv) ?_)
        refine l_op (o_val (r_fa rfl fo76_5) ?_)
        refine l_op (o_val (r_ld (v := t.cs.v) H (i := 0) rfl rfl ct74 rfl) ?_)
        refine l_op (o_val (r_lens el74 rfl) ?_)
        refine l_op (o_val (r_bin (a := (i : Int)) (b := (t.cs.len : Int)) rfl rfl (fun _ => b_lss)) ?_)
        first | refine l_end ?_ | refine l_nil ?_
        by_cases hc5 : (i : Int) < (t.cs.len : Int)
        · skip
          repeat refine c_seq ?_
          refine c_yes (by exact congrArg Value.bool (decide_eq_true hc5)) ?_
          refine c_skip ?_
          repeat refine c_seq ?_
          refine c_block ?_
          repeat refine c_seq ?_
          refine c_region ?_
          refine l_op (o_val (r_fa rfl fo76_5) ?_)
          refine l_op (o_val (r_ld (v := t.cs.v) H (i := 0) rfl rfl ct74 rfl) ?_)
          refine l_op (o_val (r_mv) ?_)
          have ah8 := ((hc.up H)).addr (by decide) (by omega)
          obtain ⟨ab6, ao7, ah8⟩ := ah8
          refine l_op (o_val (r_isN i rfl rfl el74 ah8 (by omega) (by (try simp only [Sl.cut]); omega)) ?_)
          refine l_op (o_val (r_fa rfl fo78_0) ?_)
          have he10 : ∃ c, t.cs.l[i]? = some c := ⟨_, List.getElem?_eq_getElem (by have := ((hc.up H)).ln; omega)⟩
          obtain ⟨e9, he10⟩ := he10
          have hez11 := ((hc.up H)).sz e9 (List.mem_of_getElem? he10)
          refine l_op (o_val (r_ldFld (v := V8 e9.1) (s := t.cs) (k := i) (off := 0) (hc.up H) ah8 rfl ct73 he10 (by decide) rfl) ?_)
          refine l_op (o_val (r_bin (a := (e9.1.toNat : Int)) (b := 15) rfl rfl (fun _ => b_gtr)) ?_)
          first | refine l_end ?_ | refine l_nil ?_
          by_cases hc12 : 15 < (e9.1.toNat : Int)
          · skip
            repeat refine c_seq ?_
            refine c_yes (by exact congrArg Value.bool (decide_eq_true hc12)) ?_
            repeat refine c_seq ?_
            refine c_region ?_
            refine l_op (o_val (r_as) ?_)
            first | refine l_end ?_ | refine l_nil ?_
            refine c_ret ?_
            try dsimp only [Exit.then, Exit.inBlock]
            refine e_ret1 (v := .bool false) Try.results76 rfl ?_
            refine ⟨_, rfl, ?_⟩
            refine ⟨?_, H.sub (List.nil_sublist _)⟩
            have e : mayT t = false := Bool.eq_false_iff.2 fun h => by
              have h2 := (mayT_iff t).1 h
              have h3 := (rMay_iff _).1 (h2.2.2.2 i e9 he10)
              omega
            rw [e]
          · skip
            repeat refine c_seq ?_
            refine c_no (by exact congrArg Value.bool (decide_eq_false hc12)) ?_
            refine c_skip ?_
            repeat refine c_seq ?_
            refine c_region ?_
            refine l_op (o_val (r_mv) ?_)
            refine l_op (o_val (r_bin (a := (i : Int)) (b := 1) rfl rfl (fun _ => b_add (by omega) (by omega))) ?_)
            refine l_op (o_val (r_as) ?_)
            first | refine l_end ?_ | refine l_nil ?_
            refine round_end (i + 1) ?_ ?_ ?_
            · exact ⟨rfl, show VI ((i : Int) + 1) = VI ((i + 1 : Nat) : Int) from congrArg VI (by omega), trivial⟩
            · refine ⟨?_, ?_⟩
              · try dsimp only
                exact ⟨by omega, fun j c hj hjc => by
                  by_cases hji : j < i
                  · exact hall j c hji hjc
                  · have e : j = i := by omega
                    rw [e, he10] at hjc
                    cases hjc
                    exact (rMay_iff _).2 (by omega)⟩
              · exact H
            · show t.cs.len - (i + 1 : Nat) < t.cs.len - i; omega
        · skip
          repeat refine c_seq ?_
          refine c_no (by exact congrArg Value.bool (decide_eq_false hc5)) ?_
          refine c_exit ?_
          repeat refine c_seq ?_
          refine c_region ?_
          refine l_op (o_val (r_as) ?_)
          first | refine l_end ?_ | refine l_nil ?_
          refine c_ret ?_
          try dsimp only [Exit.then, Exit.inBlock]
          refine e_ret1 (v := .bool true) Try.results76 rfl ?_
          refine ⟨_, rfl, ?_⟩
          refine ⟨?_, H.sub (List.nil_sublist _)⟩
          rw [(mayT_iff t).2 ⟨.inl (of_decide_eq_true (decide_eq_true hc2)), (rMay_iff _).2 (by omega), by omega, fun j c hj => hall j c (by have := hc.ln; have := (List.getElem?_eq_some_iff.1 hj).1; omega) hj⟩]
  · skip
    refine l_yes rfl rfl (by exact congrArg Value.bool (congrArg not (decide_eq_false hc2))) (o_val (r_fa rfl fo76_1) ?_)
    refine l_yes rfl rfl (by exact congrArg Value.bool (congrArg not (decide_eq_false hc2))) (o_val (r_ld (v := .string ⟨(t.tenant).toArray⟩) H (i := 0) rfl rfl ct9 rfl) ?_)
    refine l_yes rfl rfl (by exact congrArg Value.bool (congrArg not (decide_eq_false hc2))) (o_callR Try.func124 rfl rfl rfl (nmay4_ret _ (t.tenant) (by omega)) ?_)
    rintro _ w ⟨rfl, Hc⟩
    replace H : Hp w0 w [] ([.blk b1 ([V64 t.serial, .string ⟨(t.tenant).toArray⟩, V8 t.rights, VI t.from_, VI t.until_, t.cs.v] ++ (t.tag).map V8) 76]) := H.call Hc
    clear Hc
    refine l_yes rfl rfl (by exact congrArg Value.bool (congrArg not (decide_eq_false hc2))) (o_val (r_not rfl) ?_)
    refine l_op (o_val (r_pick (b := true) (congrArg Value.bool (congrArg not (decide_eq_false hc2)))) ?_)
    refine l_op (o_val (r_mv) ?_)
    rcases Bool.eq_false_or_eq_true (nameMay (t.tenant)) with hc13 | hc13
    · skip
      refine l_yes rfl rfl (by exact congrArg Value.bool (congrArg not hc13)) (o_val (r_fa rfl fo76_2) ?_)
      refine l_yes rfl rfl (by exact congrArg Value.bool (congrArg not hc13)) (o_val (r_ld (v := V8 t.rights) H (i := 0) rfl rfl ct73 rfl) ?_)
      refine l_yes rfl rfl (by exact congrArg Value.bool (congrArg not hc13)) (o_val (r_bin (a := (t.rights.toNat : Int)) (b := 15) rfl rfl (fun _ => b_gtr)) ?_)
      refine l_op (o_val (r_pick (b := false) (congrArg Value.bool (congrArg not hc13))) ?_)
      refine l_op (o_val (r_mv) ?_)
      by_cases hc14 : 15 < (t.rights.toNat : Int)
      · skip
        refine l_no rfl rfl (by exact congrArg Value.bool (decide_eq_true hc14)) rfl ?_
        refine l_no rfl rfl (by exact congrArg Value.bool (decide_eq_true hc14)) rfl ?_
        refine l_no rfl rfl (by exact congrArg Value.bool (decide_eq_true hc14)) rfl ?_
        refine l_no rfl rfl (by exact congrArg Value.bool (decide_eq_true hc14)) rfl ?_
        refine l_op (o_val (r_pick (b := true) (congrArg Value.bool (decide_eq_true hc14))) ?_)
        first | refine l_end ?_ | refine l_nil ?_
        repeat refine c_seq ?_
        refine c_yes rfl ?_
        repeat refine c_seq ?_
        refine c_region ?_
        refine l_op (o_val (r_as) ?_)
        first | refine l_end ?_ | refine l_nil ?_
        refine c_ret ?_
        try dsimp only [Exit.then, Exit.inBlock]
        refine e_ret1 (v := .bool false) Try.results76 rfl ?_
        refine ⟨_, rfl, ?_⟩
        refine ⟨?_, H.sub (List.nil_sublist _)⟩
        have e : mayT t = false := Bool.eq_false_iff.2 fun h => by
          have h2 := (mayT_iff t).1 h
          have h3 := (rMay_iff _).1 h2.2.1
          omega
        rw [e]
      · skip
        refine l_yes rfl rfl (by exact congrArg Value.bool (decide_eq_false hc14)) (o_val (r_fa rfl fo76_5) ?_)
        refine l_yes rfl rfl (by exact congrArg Value.bool (decide_eq_false hc14)) (o_val (r_ld (v := t.cs.v) H (i := 0) rfl rfl ct74 rfl) ?_)
        refine l_yes rfl rfl (by exact congrArg Value.bool (decide_eq_false hc14)) (o_val (r_lens el74 rfl) ?_)
        refine l_yes rfl rfl (by exact congrArg Value.bool (decide_eq_false hc14)) (o_val (r_bin (a := (t.cs.len : Int)) (b := 8) rfl rfl (fun _ => b_gtr)) ?_)
        refine l_op (o_val (r_pick (b := false) (congrArg Value.bool (decide_eq_false hc14))) ?_)
        first | refine l_end ?_ | refine l_nil ?_
        by_cases hc15 : 8 < (t.cs.len : Int)
        · skip
          repeat refine c_seq ?_
          refine c_yes (by exact congrArg Value.bool (decide_eq_true hc15)) ?_
          repeat refine c_seq ?_
          refine c_region ?_
          refine l_op (o_val (r_as) ?_)
          first | refine l_end ?_ | refine l_nil ?_
          refine c_ret ?_
          try dsimp only [Exit.then, Exit.inBlock]
          refine e_ret1 (v := .bool false) Try.results76 rfl ?_
          refine ⟨_, rfl, ?_⟩
          refine ⟨?_, H.sub (List.nil_sublist _)⟩
          have e : mayT t = false := Bool.eq_false_iff.2 fun h => by
            have h2 := (mayT_iff t).1 h
            have h3 := (rMay_iff _).1 h2.2.1
            omega
          rw [e]
        · skip
          repeat refine c_seq ?_
          refine c_no (by exact congrArg Value.bool (decide_eq_false hc15)) ?_
          refine c_skip ?_
          repeat refine c_seq ?_
          refine c_region ?_
          refine l_op (o_val (r_as) ?_)
          first | refine l_end ?_ | refine l_nil ?_
          repeat refine c_seq ?_
          refine c_block ?_
          repeat refine c_seq ?_
          refine c_loop (fun (i : Nat) => [(1, .pointer (some ⟨b1, 0, none⟩)), (3, VI (i : Int))])
            (fun (i : Nat) w => (i ≤ t.cs.len ∧ ∀ (j : Nat) (c : Cav), j < i → t.cs.l[j]? = some c → rMay c.1 = true) ∧ Hp w0 w [] ([.blk b1 ([V64 t.serial, .string ⟨(t.tenant).toArray⟩, V8 t.rights, VI t.from_, VI t.until_, t.cs.v] ++ (t.tag).map V8) 76]))
            (fun (i : Nat) => t.cs.len - i) 0 ⟨rfl, rfl, trivial⟩ ⟨⟨Nat.zero_le _, fun j c hj => absurd hj (by omega)⟩, H⟩ ?_
          clear H
          rintro i τ w ⟨⟨hi, hall⟩, H⟩
          repeat refine c_seq ?_
          refine c_region ?_
          refine l_op (o_val (r_mv) ?_)
          refine l_op (o_val (r_fa rfl fo76_5) ?_)
          refine l_op (o_val (r_ld (v := t.cs.v) H (i := 0) rfl rfl ct74 rfl) ?_)
          refine l_op (o_val (r_lens el74 rfl) ?_)
          refine l_op (o_val (r_bin (a := (i : Int)) (b := (t.cs.len : Int)) rfl rfl (fun _ => b_lss)) ?_)
          first | refine l_end ?_ | refine l_nil ?_
          by_cases hc16 : (i : Int) < (t.cs.len : Int)
          · skip
            repeat refine c_seq ?_
            refine c_yes (by exact congrArg Value.bool (decide_eq_true hc16)) ?_
            refine c_skip ?_
            repeat refine c_seq ?_
            refine c_block ?_
            repeat refine c_seq ?_
            refine c_region ?_
            refine l_op (o_val (r_fa rfl fo76_5) ?_)
            refine l_op (o_val (r_ld (v := t.cs.v) H (i := 0) rfl rfl ct74 rfl) ?_)
            refine l_op (o_val (r_mv) ?_)
            have ah19 := ((hc.up H)).addr (by decide) (by omega)
            obtain ⟨ab17, ao18, ah19⟩ := ah19
            refine l_op (o_val (r_isN i rfl rfl el74 ah19 (by omega) (by (try simp only [Sl.cut]); omega)) ?_)
            refine l_op (o_val (r_fa rfl fo78_0) ?_)
            have he21 : ∃ c, t.cs.l[i]? = some c := ⟨_, List.getElem?_eq_getElem (by have := ((hc.up H)).ln; omega)⟩
            obtain ⟨e20, he21⟩ := he21
            have hez22 := ((hc.up H)).sz e20 (List.mem_of_getElem? he21)
            refine l_op (o_val (r_ldFld (v := V8 e20.1) (s := t.cs) (k := i) (off := 0) (hc.up H) ah19 rfl ct73 he21 (by decide) rfl) ?_)
            refine l_op (o_val (r_bin (a := (e20.1.toNat : Int)) (b := 15) rfl rfl (fun _ => b_gtr)) ?_)
            first | refine l_end ?_ | refine l_nil ?_
            by_cases hc23 : 15 < (e20.1.toNat : Int)
            · skip
              repeat refine c_seq ?_
              refine c_yes (by exact congrArg Value.bool (decide_eq_true hc23)) ?_
              repeat refine c_seq ?_
              refine c_region ?_
              refine l_op (o_val (r_as) ?_)
              first | refine l_end ?_ | refine l_nil ?_
              refine c_ret ?_
              try dsimp only [Exit.then, Exit.inBlock]
              refine e_ret1 (v := .bool false) Try.results76 rfl ?_
              refine ⟨_, rfl, ?_⟩
              refine ⟨?_, H.sub (List.nil_sublist _)⟩
              have e : mayT t = false := Bool.eq_false_iff.2 fun h => by
                have h2 := (mayT_iff t).1 h
                have h3 := (rMay_iff _).1 (h2.2.2.2 i e20 he21)
                omega
              rw [e]
            · skip
              repeat refine c_seq ?_
              refine c_no (by exact congrArg Value.bool (decide_eq_false hc23)) ?_
              refine c_skip ?_
              repeat refine c_seq ?_
              refine c_region ?_
              refine l_op (o_val (r_mv) ?_)
              refine l_op (o_val (r_bin (a := (i : Int)) (b := 1) rfl rfl (fun _ => b_add (by omega) (by omega))) ?_)
              refine l_op (o_val (r_as) ?_)
              first | refine l_end ?_ | refine l_nil ?_
              refine round_end (i + 1) ?_ ?_ ?_
              · exact ⟨rfl, show VI ((i : Int) + 1) = VI ((i + 1 : Nat) : Int) from congrArg VI (by omega), trivial⟩
              · refine ⟨?_, ?_⟩
                · try dsimp only
                  exact ⟨by omega, fun j c hj hjc => by
                    by_cases hji : j < i
                    · exact hall j c hji hjc
                    · have e : j = i := by omega
                      rw [e, he21] at hjc
                      cases hjc
                      exact (rMay_iff _).2 (by omega)⟩
                · exact H
              · show t.cs.len - (i + 1 : Nat) < t.cs.len - i; omega
          · skip
            repeat refine c_seq ?_
            refine c_no (by exact congrArg Value.bool (decide_eq_false hc16)) ?_
            refine c_exit ?_
            repeat refine c_seq ?_
            refine c_region ?_
            refine l_op (o_val (r_as) ?_)
            first | refine l_end ?_ | refine l_nil ?_
            refine c_ret ?_
            try dsimp only [Exit.then, Exit.inBlock]
            refine e_ret1 (v := .bool true) Try.results76 rfl ?_
            refine ⟨_, rfl, ?_⟩
            refine ⟨?_, H.sub (List.nil_sublist _)⟩
            rw [(mayT_iff t).2 ⟨.inr hc13, (rMay_iff _).2 (by omega), by omega, fun j c hj => hall j c (by have := hc.ln; have := (List.getElem?_eq_some_iff.1 hj).1; omega) hj⟩]
    · skip
      refine l_no rfl rfl (by exact congrArg Value.bool (congrArg not hc13)) rfl ?_
      refine l_no rfl rfl (by exact congrArg Value.bool (congrArg not hc13)) rfl ?_
      refine l_no rfl rfl (by exact congrArg Value.bool (congrArg not hc13)) rfl ?_
      refine l_op (o_val (r_pick (b := true) (congrArg Value.bool (congrArg not hc13))) ?_)
      refine l_op (o_val (r_mv) ?_)
      refine l_no rfl rfl rfl rfl ?_
      refine l_no rfl rfl rfl rfl ?_
      refine l_no rfl rfl rfl rfl ?_
      refine l_no rfl rfl rfl rfl ?_
      refine l_op (o_val (r_pick rfl) ?_)
      first | refine l_end ?_ | refine l_nil ?_
      repeat refine c_seq ?_
      refine c_yes rfl ?_
      repeat refine c_seq ?_
      refine c_region ?_
      refine l_op (o_val (r_as) ?_)
      first | refine l_end ?_ | refine l_nil ?_
      refine c_ret ?_
      try dsimp only [Exit.then, Exit.inBlock]
      refine e_ret1 (v := .bool false) Try.results76 rfl ?_
      refine ⟨_, rfl, ?_⟩
      refine ⟨?_, H.sub (List.nil_sublist _)⟩
      have e : mayT t = false := Bool.eq_false_iff.2 fun h => by
        have h2 := (mayT_iff t).1 h
        rcases h2.1 with h3 | h3
        · exact absurd h3 (of_decide_eq_false (decide_eq_false hc2))
        · rw [hc13] at h3; cases h3
      rw [e]
theorem caveat14_ret (w0 : World) (c : Cav) (h1 : -9223372036854775808 ≤ c.2 ∧ c.2 ≤ 9223372036854775807) :
    Ret Try.prog 120 [.agg ([V8 c.1, VI c.2]).toArray] w0 fun v w' => ∃ a k, v = .slice (hd a) 9 k ∧ Hp w0 w' [] [.own a 9 k ((cavB c).map V8) 5 1] := by
  refine ret_mk Try.func120 rfl Try.ntmps120 (by simp) ?_
  have H := Hp.refl w0 []
  repeat refine c_seq ?_
  refine c_region ?_
  refine l_op (o_box (v := .agg ([V8 c.1, VI c.2]).toArray) H rfl (fun b1 w H hb1 => ?_))
  replace H : Hp w0 w [] ([.blk b1 ([V8 c.1, VI c.2]) 78]) := H
  refine l_op (o_val (r_as) ?_)
  first | refine l_end ?_ | refine l_nil ?_
  repeat refine c_seq ?_
  refine wp_held (fun w => Hp w0 w [] [.blk b1 ([V8 c.1, VI c.2]) 78]) mixed ?_
  replace H := H.drew
  have HS := H
  refine t_take 0 rfl (by kernel_rfl) (by kernel_rfl) (by kernel_rfl) (fun _ _ _ h => h) (fun w HS => r_fa rfl fo78_0) HS ?_
  refine t_take 1 rfl (by kernel_rfl) (by kernel_rfl) (by kernel_rfl) (fun _ _ _ h => h) (fun w HS => r_ld (v := V8 c.1) HS (i := 0) rfl rfl ct73 rfl) HS ?_
  refine t_take 3 rfl (by kernel_rfl) (by kernel_rfl) (by kernel_rfl) (fun _ _ _ h => h) (fun w HS => r_fa rfl fo78_1) HS ?_
  refine t_take 4 rfl (by kernel_rfl) (by kernel_rfl) (by kernel_rfl) (fun _ _ _ h => h) (fun w HS => r_ld (v := VI c.2) HS (i := 0) rfl rfl ct2 rfl) HS ?_
  refine t_all [2, 5] (by kernel_rfl) (by simp) (all_cons (w_op 2 rfl ?_) (all_cons (w_op 5 rfl ?_) (all_nil)))
  · skip
    refine (o_bslB ([c.1]) H sl29 zc5 rfl rfl (by decide) (fun b2 w H hb2 => ?_))
    replace H : Hp w0 w [] ([.blk b1 ([V8 c.1, VI c.2]) 78, .own (some b2) 1 1 (([c.1]).map V8) 5 1]) := H
    refine ⟨H.sub (.cons_cons _ (List.nil_sublist _)), ?_⟩
    replace HS := H.sub (.cons_cons _ (List.nil_sublist _))
    refine t_step 5 rfl (by kernel_rfl) (o_callR Try.func142 rfl rfl rfl (zig1_ret _ (c.2) (by omega) (by omega)) ?_)
    rintro _ w ⟨rfl, Hc⟩
    replace H : Hp w0 w [] ([.blk b1 ([V8 c.1, VI c.2]) 78, .own (some b2) 1 1 (([c.1]).map V8) 5 1]) := H.call Hc
    clear Hc
    refine ⟨H.sub (.cons_cons _ (List.nil_sublist _)), ?_⟩
    replace HS := H.sub (.cons_cons _ (List.nil_sublist _))
    refine t_step 6 rfl (by kernel_rfl) (o_callR Try.func55 rfl rfl rfl (eight_ret _ (zigU (c.2))) ?_)
    rintro _ w ⟨a3, c4, rfl, Hc⟩
    replace H : Hp w0 w [] ([.blk b1 ([V8 c.1, VI c.2]) 78, .own (some b2) 1 1 (([c.1]).map V8) 5 1, .own a3 8 c4 ((be (zigU (c.2)).toNat 8).map V8) 5 1]) := H.call Hc
    clear Hc
    refine ⟨H.sub (.cons_cons _ (List.nil_sublist _)), ?_⟩
    replace HS := H.sub (.cons_cons _ (List.nil_sublist _))
    refine t_step 7 rfl (by kernel_rfl) (o_appB (s := ⟨hd a3, 8, c4, be (zigU (c.2)).toNat 8⟩) (l' := [c.1] ++ (be (zigU (c.2)).toNat 8)) (len' := 9) rfl rfl H (i := 1) rfl sl29 Try.underlying29 rfl rfl (H.slOwn (i := 2) rfl) (by omega) (fun a5 c6 w H => ?_))
    replace H : Hp w0 w [] ([.blk b1 ([V8 c.1, VI c.2]) 78, .own a5 9 c6 (([c.1] ++ (be (zigU (c.2)).toNat 8)).map V8) 5 1, .own a3 8 c4 ((be (zigU (c.2)).toNat 8).map V8) 5 1]) := H
    refine ⟨H.sub (.cons_cons _ (List.nil_sublist _)), ?_⟩
    replace HS := H.sub (.cons_cons _ (List.nil_sublist _))
    refine t_take 8 rfl (by kernel_rfl) (by kernel_rfl) (by kernel_rfl) (fun _ _ _ h => h) (fun w HS => r_as) HS ?_
    refine t_done (by kernel_rfl) ?_
    clear HS
    refine c_ret ?_
    try dsimp only [Exit.then, Exit.inBlock]
    refine e_ret1 (v := .slice (hd a5) 9 c6) Try.results120 rfl ?_
    refine ⟨_, rfl, ?_⟩
    exact ⟨_, _, rfl, H.sub (.cons _ (.cons_cons _ (List.nil_sublist _)))⟩
  · skip
    refine (o_callR Try.func142 rfl rfl rfl (zig1_ret _ (c.2) (by omega) (by omega)) ?_)
    rintro _ w ⟨rfl, Hc⟩
    replace H : Hp w0 w [] ([.blk b1 ([V8 c.1, VI c.2]) 78]) := H.call Hc
    clear Hc
    refine ⟨H, ?_⟩
    replace HS := H
    refine t_all [2, 6] (by kernel_rfl) (by simp) (all_cons (w_op 2 rfl ?_) (all_cons (w_op 6 rfl ?_) (all_nil)))
    · skip
      refine (o_bslB ([c.1]) H sl29 zc5 rfl rfl (by decide) (fun b7 w H hb7 => ?_))
      replace H : Hp w0 w [] ([.blk b1 ([V8 c.1, VI c.2]) 78, .own (some b7) 1 1 (([c.1]).map V8) 5 1]) := H
      refine ⟨H.sub (.cons_cons _ (List.nil_sublist _)), ?_⟩
      replace HS := H.sub (.cons_cons _ (List.nil_sublist _))
      refine t_step 6 rfl (by kernel_rfl) (o_callR Try.func55 rfl rfl rfl (eight_ret _ (zigU (c.2))) ?_)
      rintro _ w ⟨a8, c9, rfl, Hc⟩
      replace H : Hp w0 w [] ([.blk b1 ([V8 c.1, VI c.2]) 78, .own (some b7) 1 1 (([c.1]).map V8) 5 1, .own a8 8 c9 ((be (zigU (c.2)).toNat 8).map V8) 5 1]) := H.call Hc
      clear Hc
      refine ⟨H.sub (.cons_cons _ (List.nil_sublist _)), ?_⟩
      replace HS := H.sub (.cons_cons _ (List.nil_sublist _))
      refine t_step 7 rfl (by kernel_rfl) (o_appB (s := ⟨hd a8, 8, c9, be (zigU (c.2)).toNat 8⟩) (l' := [c.1] ++ (be (zigU (c.2)).toNat 8)) (len' := 9) rfl rfl H (i := 1) rfl sl29 Try.underlying29 rfl rfl (H.slOwn (i := 2) rfl) (by omega) (fun a10 c11 w H => ?_))
      replace H : Hp w0 w [] ([.blk b1 ([V8 c.1, VI c.2]) 78, .own a10 9 c11 (([c.1] ++ (be (zigU (c.2)).toNat 8)).map V8) 5 1, .own a8 8 c9 ((be (zigU (c.2)).toNat 8).map V8) 5 1]) := H
      refine ⟨H.sub (.cons_cons _ (List.nil_sublist _)), ?_⟩
      replace HS := H.sub (.cons_cons _ (List.nil_sublist _))
      refine t_take 8 rfl (by kernel_rfl) (by kernel_rfl) (by kernel_rfl) (fun _ _ _ h => h) (fun w HS => r_as) HS ?_
      refine t_done (by kernel_rfl) ?_
      clear HS
      refine c_ret ?_
      try dsimp only [Exit.then, Exit.inBlock]
      refine e_ret1 (v := .slice (hd a10) 9 c11) Try.results120 rfl ?_
      refine ⟨_, rfl, ?_⟩
      exact ⟨_, _, rfl, H.sub (.cons _ (.cons_cons _ (List.nil_sublist _)))⟩
    · skip
      refine (o_callR Try.func55 rfl rfl rfl (eight_ret _ (zigU (c.2))) ?_)
      rintro _ w ⟨a12, c13, rfl, Hc⟩
      replace H : Hp w0 w [] ([.blk b1 ([V8 c.1, VI c.2]) 78, .own a12 8 c13 ((be (zigU (c.2)).toNat 8).map V8) 5 1]) := H.call Hc
      clear Hc
      refine ⟨H.sub (.cons_cons _ (List.nil_sublist _)), ?_⟩
      replace HS := H.sub (.cons_cons _ (List.nil_sublist _))
      refine t_step 2 rfl (by kernel_rfl) (o_bslB ([c.1]) H sl29 zc5 rfl rfl (by decide) (fun b14 w H hb14 => ?_))
      replace H : Hp w0 w [] ([.blk b1 ([V8 c.1, VI c.2]) 78, .own a12 8 c13 ((be (zigU (c.2)).toNat 8).map V8) 5 1, .own (some b14) 1 1 (([c.1]).map V8) 5 1]) := H
      refine ⟨H.sub (.cons_cons _ (List.nil_sublist _)), ?_⟩
      replace HS := H.sub (.cons_cons _ (List.nil_sublist _))
      refine t_step 7 rfl (by kernel_rfl) (o_appB (s := ⟨hd a12, 8, c13, be (zigU (c.2)).toNat 8⟩) (l' := [c.1] ++ (be (zigU (c.2)).toNat 8)) (len' := 9) rfl rfl H (i := 2) rfl sl29 Try.underlying29 rfl rfl (H.slOwn (i := 1) rfl) (by omega) (fun a15 c16 w H => ?_))
      replace H : Hp w0 w [] ([.blk b1 ([V8 c.1, VI c.2]) 78, .own a12 8 c13 ((be (zigU (c.2)).toNat 8).map V8) 5 1, .own a15 9 c16 (([c.1] ++ (be (zigU (c.2)).toNat 8)).map V8) 5 1]) := H
      refine ⟨H.sub (.cons_cons _ (List.nil_sublist _)), ?_⟩
      replace HS := H.sub (.cons_cons _ (List.nil_sublist _))
      refine t_take 8 rfl (by kernel_rfl) (by kernel_rfl) (by kernel_rfl) (fun _ _ _ h => h) (fun w HS => r_as) HS ?_
      refine t_done (by kernel_rfl) ?_
      clear HS
      refine c_ret ?_
      try dsimp only [Exit.then, Exit.inBlock]
      refine e_ret1 (v := .slice (hd a15) 9 c16) Try.results120 rfl ?_
      refine ⟨_, rfl, ?_⟩
      exact ⟨_, _, rfl, H.sub (.cons _ (.cons _ (.cons_cons _ (List.nil_sublist _))))⟩
theorem head14_ret (w0 : World) (t : Tok) (hc : t.cs.ok cavE 2 w0) (htag : t.tag.length = 32) (hn : t.tenant.length ≤ 65536) (hb : t.bd) :
    Ret Try.prog 126 [.agg ([V64 t.serial, .string ⟨(t.tenant).toArray⟩, V8 t.rights, VI t.from_, VI t.until_, t.cs.v] ++ (t.tag).map V8).toArray] w0 fun v w' => ∃ a n c, v = .slice (hd a) n c ∧ n ≤ t.tenant.length + 64 ∧ t.head.length = n ∧ Hp w0 w' [] [.own a n c (t.head.map V8) 5 1] := by
  refine ret_mk Try.func126 rfl Try.ntmps126 (by simp) ?_
  have H := Hp.refl w0 []
  have hbf := hb.f
  have hbu := hb.u
  repeat refine c_seq ?_
  refine c_region ?_
  refine l_op (o_box (v := .agg ([V64 t.serial, .string ⟨(t.tenant).toArray⟩, V8 t.rights, VI t.from_, VI t.until_, t.cs.v] ++ (t.tag).map V8).toArray) H rfl (fun b1 w H hb1 => ?_))
  replace H : Hp w0 w [] ([.blk b1 ([V64 t.serial, .string ⟨(t.tenant).toArray⟩, V8 t.rights, VI t.from_, VI t.until_, t.cs.v] ++ (t.tag).map V8) 76]) := H
  refine l_op (o_val (r_as) ?_)
  first | refine l_end ?_ | refine l_nil ?_
  repeat refine c_seq ?_
  refine c_region ?_
  refine l_op (o_val (r_fa rfl fo76_0) ?_)
  refine l_op (o_val (r_ld (v := V64 t.serial) H (i := 0) rfl rfl ct35 rfl) ?_)
  refine l_op (o_callR Try.func55 rfl rfl rfl (eight_ret _ (t.serial)) ?_)
  rintro _ w ⟨a2, c3, rfl, Hc⟩
  replace H : Hp w0 w [] ([.blk b1 ([V64 t.serial, .string ⟨(t.tenant).toArray⟩, V8 t.rights, VI t.from_, VI t.until_, t.cs.v] ++ (t.tag).map V8) 76, .own a2 8 c3 ((be (t.serial).toNat 8).map V8) 5 1]) := H.call Hc
  clear Hc
  refine l_op (o_val (r_as) ?_)
  first | refine l_end ?_ | refine l_nil ?_
  repeat refine c_seq ?_
  refine c_region ?_
  refine l_op (o_val (r_mv) ?_)
  refine l_op (o_val (r_fa rfl fo76_1) ?_)
  refine l_op (o_val (r_ld (v := .string ⟨(t.tenant).toArray⟩) H (i := 0) rfl rfl ct9 rfl) ?_)
  refine l_op (o_s2B (l := t.tenant) H Try.underlying9 Try.underlying29 Try.underlying5 rfl (by omega) (fun b4 c5 ob6 w H hb4 hr7 => ?_))
  replace H : Hp w0 w [] ([.blk b1 ([V64 t.serial, .string ⟨(t.tenant).toArray⟩, V8 t.rights, VI t.from_, VI t.until_, t.cs.v] ++ (t.tag).map V8) 76, .own a2 8 c3 ((be (t.serial).toNat 8).map V8) 5 1, .obj b4 ob6]) := H
  refine l_op (o_callR Try.func145 rfl rfl rfl (text1_ret _ ⟨hd a2, 8, c3, be (t.serial).toNat 8⟩ (⟨some ⟨b4, 0, none⟩, (t.tenant).length, c5, t.tenant⟩ : Sl) (H.slOwn (i := 1) rfl) (hr7 _ (H.has (.obj b4 ob6) (by simp))) (by (try simp only [Sl.cut]); omega) (by (try simp only [Sl.cut]); omega)) ?_)
  rintro _ w ⟨a8, n9, c10, rfl, hn11, Hc⟩
  replace H : Hp w0 w [] ([.blk b1 ([V64 t.serial, .string ⟨(t.tenant).toArray⟩, V8 t.rights, VI t.from_, VI t.until_, t.cs.v] ++ (t.tag).map V8) 76, .own a2 8 c3 ((be (t.serial).toNat 8).map V8) 5 1, .obj b4 ob6, .own a8 n9 c10 ((be (t.serial).toNat 8 ++ cnt ((t.tenant).length) ++ t.tenant).map V8) 5 1]) := H.call Hc
  clear Hc
  try dsimp only at hn11
  refine l_op (o_val (r_mv) ?_)
  refine l_op (o_val (r_ext rfl rfl) ?_)
  refine l_op (o_val (r_ext rfl rfl) ?_)
  refine l_op (o_val (r_as) ?_)
  first | refine l_end ?_ | refine l_nil ?_
  repeat refine c_seq ?_
  refine c_region ?_
  refine l_op (o_val (r_mv) ?_)
  refine l_op (o_val (r_fa rfl fo76_2) ?_)
  refine l_op (o_val (r_ld (v := V8 t.rights) H (i := 0) rfl rfl ct73 rfl) ?_)
  refine l_op (o_bslB ([t.rights]) H sl29 zc5 rfl rfl (by decide) (fun b12 w H hb12 => ?_))
  replace H : Hp w0 w [] ([.blk b1 ([V64 t.serial, .string ⟨(t.tenant).toArray⟩, V8 t.rights, VI t.from_, VI t.until_, t.cs.v] ++ (t.tag).map V8) 76, .own a2 8 c3 ((be (t.serial).toNat 8).map V8) 5 1, .obj b4 ob6, .own a8 n9 c10 ((be (t.serial).toNat 8 ++ cnt ((t.tenant).length) ++ t.tenant).map V8) 5 1, .own (some b12) 1 1 (([t.rights]).map V8) 5 1]) := H
  refine l_op (o_appB (s := ⟨hd (some b12), 1, 1, [t.rights]⟩) (l' := be (t.serial).toNat 8 ++ cnt ((t.tenant).length) ++ t.tenant ++ ([t.rights])) (len' := n9 + 1) rfl rfl H (i := 3) rfl sl29 Try.underlying29 rfl rfl (H.slOwn (i := 4) rfl) (by omega) (fun a13 c14 w H => ?_))
  replace H : Hp w0 w [] ([.blk b1 ([V64 t.serial, .string ⟨(t.tenant).toArray⟩, V8 t.rights, VI t.from_, VI t.until_, t.cs.v] ++ (t.tag).map V8) 76, .own a2 8 c3 ((be (t.serial).toNat 8).map V8) 5 1, .obj b4 ob6, .own a13 (n9 + 1) c14 ((be (t.serial).toNat 8 ++ cnt ((t.tenant).length) ++ t.tenant ++ ([t.rights])).map V8) 5 1, .own (some b12) 1 1 (([t.rights]).map V8) 5 1]) := H
  refine l_op (o_val (r_as) ?_)
  first | refine l_end ?_ | refine l_nil ?_
  repeat refine c_seq ?_
  refine c_region ?_
  refine l_op (o_val (r_mv) ?_)
  refine l_op (o_val (r_fa rfl fo76_3) ?_)
  refine l_op (o_val (r_ld (v := VI t.from_) H (i := 0) rfl rfl ct2 rfl) ?_)
  refine l_op (o_callR Try.func142 rfl rfl rfl (zig1_ret _ (t.from_) (by omega) (by omega)) ?_)
  rintro _ w ⟨rfl, Hc⟩
  replace H : Hp w0 w [] ([.blk b1 ([V64 t.serial, .string ⟨(t.tenant).toArray⟩, V8 t.rights, VI t.from_, VI t.until_, t.cs.v] ++ (t.tag).map V8) 76, .own a2 8 c3 ((be (t.serial).toNat 8).map V8) 5 1, .obj b4 ob6, .own a13 (n9 + 1) c14 ((be (t.serial).toNat 8 ++ cnt ((t.tenant).length) ++ t.tenant ++ ([t.rights])).map V8) 5 1, .own (some b12) 1 1 (([t.rights]).map V8) 5 1]) := H.call Hc
  clear Hc
  refine l_op (o_callR Try.func55 rfl rfl rfl (eight_ret _ (zigU (t.from_))) ?_)
  rintro _ w ⟨a15, c16, rfl, Hc⟩
  replace H : Hp w0 w [] ([.blk b1 ([V64 t.serial, .string ⟨(t.tenant).toArray⟩, V8 t.rights, VI t.from_, VI t.until_, t.cs.v] ++ (t.tag).map V8) 76, .own a2 8 c3 ((be (t.serial).toNat 8).map V8) 5 1, .obj b4 ob6, .own a13 (n9 + 1) c14 ((be (t.serial).toNat 8 ++ cnt ((t.tenant).length) ++ t.tenant ++ ([t.rights])).map V8) 5 1, .own (some b12) 1 1 (([t.rights]).map V8) 5 1, .own a15 8 c16 ((be (zigU (t.from_)).toNat 8).map V8) 5 1]) := H.call Hc
  clear Hc
  refine l_op (o_appB (s := ⟨hd a15, 8, c16, be (zigU (t.from_)).toNat 8⟩) (l' := be (t.serial).toNat 8 ++ cnt ((t.tenant).length) ++ t.tenant ++ ([t.rights]) ++ (be (zigU (t.from_)).toNat 8)) (len' := n9 + 1 + 8) rfl rfl H (i := 3) rfl sl29 Try.underlying29 rfl rfl (H.slOwn (i := 5) rfl) (by omega) (fun a17 c18 w H => ?_))
  replace H : Hp w0 w [] ([.blk b1 ([V64 t.serial, .string ⟨(t.tenant).toArray⟩, V8 t.rights, VI t.from_, VI t.until_, t.cs.v] ++ (t.tag).map V8) 76, .own a2 8 c3 ((be (t.serial).toNat 8).map V8) 5 1, .obj b4 ob6, .own a17 (n9 + 1 + 8) c18 ((be (t.serial).toNat 8 ++ cnt ((t.tenant).length) ++ t.tenant ++ ([t.rights]) ++ (be (zigU (t.from_)).toNat 8)).map V8) 5 1, .own (some b12) 1 1 (([t.rights]).map V8) 5 1, .own a15 8 c16 ((be (zigU (t.from_)).toNat 8).map V8) 5 1]) := H
  refine l_op (o_val (r_as) ?_)
  first | refine l_end ?_ | refine l_nil ?_
  repeat refine c_seq ?_
  refine c_region ?_
  refine l_op (o_val (r_mv) ?_)
  refine l_op (o_val (r_fa rfl fo76_4) ?_)
  refine l_op (o_val (r_ld (v := VI t.until_) H (i := 0) rfl rfl ct2 rfl) ?_)
  refine l_op (o_callR Try.func142 rfl rfl rfl (zig1_ret _ (t.until_) (by omega) (by omega)) ?_)
  rintro _ w ⟨rfl, Hc⟩
  replace H : Hp w0 w [] ([.blk b1 ([V64 t.serial, .string ⟨(t.tenant).toArray⟩, V8 t.rights, VI t.from_, VI t.until_, t.cs.v] ++ (t.tag).map V8) 76, .own a2 8 c3 ((be (t.serial).toNat 8).map V8) 5 1, .obj b4 ob6, .own a17 (n9 + 1 + 8) c18 ((be (t.serial).toNat 8 ++ cnt ((t.tenant).length) ++ t.tenant ++ ([t.rights]) ++ (be (zigU (t.from_)).toNat 8)).map V8) 5 1, .own (some b12) 1 1 (([t.rights]).map V8) 5 1, .own a15 8 c16 ((be (zigU (t.from_)).toNat 8).map V8) 5 1]) := H.call Hc
  clear Hc
  refine l_op (o_callR Try.func55 rfl rfl rfl (eight_ret _ (zigU (t.until_))) ?_)
  rintro _ w ⟨a19, c20, rfl, Hc⟩
  replace H : Hp w0 w [] ([.blk b1 ([V64 t.serial, .string ⟨(t.tenant).toArray⟩, V8 t.rights, VI t.from_, VI t.until_, t.cs.v] ++ (t.tag).map V8) 76, .own a2 8 c3 ((be (t.serial).toNat 8).map V8) 5 1, .obj b4 ob6, .own a17 (n9 + 1 + 8) c18 ((be (t.serial).toNat 8 ++ cnt ((t.tenant).length) ++ t.tenant ++ ([t.rights]) ++ (be (zigU (t.from_)).toNat 8)).map V8) 5 1, .own (some b12) 1 1 (([t.rights]).map V8) 5 1, .own a15 8 c16 ((be (zigU (t.from_)).toNat 8).map V8) 5 1, .own a19 8 c20 ((be (zigU (t.until_)).toNat 8).map V8) 5 1]) := H.call Hc
  clear Hc
  refine l_op (o_appB (s := ⟨hd a19, 8, c20, be (zigU (t.until_)).toNat 8⟩) (l' := be (t.serial).toNat 8 ++ cnt ((t.tenant).length) ++ t.tenant ++ ([t.rights]) ++ (be (zigU (t.from_)).toNat 8) ++ (be (zigU (t.until_)).toNat 8)) (len' := n9 + 1 + 8 + 8) rfl rfl H (i := 3) rfl sl29 Try.underlying29 rfl rfl (H.slOwn (i := 6) rfl) (by omega) (fun a21 c22 w H => ?_))
  replace H : Hp w0 w [] ([.blk b1 ([V64 t.serial, .string ⟨(t.tenant).toArray⟩, V8 t.rights, VI t.from_, VI t.until_, t.cs.v] ++ (t.tag).map V8) 76, .own a2 8 c3 ((be (t.serial).toNat 8).map V8) 5 1, .obj b4 ob6, .own a21 (n9 + 1 + 8 + 8) c22 ((be (t.serial).toNat 8 ++ cnt ((t.tenant).length) ++ t.tenant ++ ([t.rights]) ++ (be (zigU (t.from_)).toNat 8) ++ (be (zigU (t.until_)).toNat 8)).map V8) 5 1, .own (some b12) 1 1 (([t.rights]).map V8) 5 1, .own a15 8 c16 ((be (zigU (t.from_)).toNat 8).map V8) 5 1, .own a19 8 c20 ((be (zigU (t.until_)).toNat 8).map V8) 5 1]) := H
  refine l_op (o_val (r_as) ?_)
  first | refine l_end ?_ | refine l_nil ?_
  refine c_ret ?_
  try dsimp only [Exit.then, Exit.inBlock]
  refine e_ret1 (v := .slice (hd a21) (n9 + 1 + 8 + 8) c22) Try.results126 rfl ?_
  refine ⟨_, rfl, ?_⟩
  have e : be (t.serial).toNat 8 ++ cnt ((t.tenant).length) ++ t.tenant ++ ([t.rights]) ++ (be (zigU (t.from_)).toNat 8) ++ (be (zigU (t.until_)).toNat 8) = t.head := by simp [Tok.head, headB, timeB]
  rw [e] at H
  have hh := (H.ownLen (i := 3) rfl).1
  exact ⟨_, _, _, rfl, by omega, by simpa using hh, H.sub (.cons _ (.cons _ (.cons _ (.cons_cons _ (List.nil_sublist _)))))⟩
end Go.Proofs.Ytjmbbhnpfmblpaa
