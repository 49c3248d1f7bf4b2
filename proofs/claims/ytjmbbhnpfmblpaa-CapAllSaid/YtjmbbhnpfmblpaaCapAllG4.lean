/- Lemmas for the statement CapAll, part 4: rules of operations, walks through functions, plain laws. -/
import Derived.Test.YtjmbbhnpfmblpaaCapAllG3
import Derived.Laws.StructEq
namespace Go.Proofs.Ytjmbbhnpfmblpaa
open Go
set_option maxRecDepth 100000
theorem rMay_iff (r : UInt8) : rMay r = true ↔ r.toNat ≤ 15 := by
  have e : ∀ n, n < 256 → (rMay (UInt8.ofNat n) = true ↔ n ≤ 15) := by decide
  have := e r.toNat (u8_lt r)
  rwa [UInt8.ofNat_toNat] at this
/-- numbers of a token are such as int64 has. -/
structure Tok.bd (t : Tok) : Prop where
  f : -9223372036854775808 ≤ t.from_ ∧ t.from_ ≤ 9223372036854775807
  u : -9223372036854775808 ≤ t.until_ ∧ t.until_ ≤ 9223372036854775807
  cs : ∀ c ∈ t.cs.l, -9223372036854775808 ≤ c.2 ∧ c.2 ≤ 9223372036854775807
theorem nmay4_ret (w0 : World) (l : List UInt8) (hl : l.length ≤ 1099511627776) :
    Ret Try.prog 124 [.string ⟨(l).toArray⟩] w0 fun v w' => v = .bool (nameMay l) ∧ Hp w0 w' [] [] := by
  refine ret_mk Try.func124 rfl Try.ntmps124 (by simp) ?_
  have H := Hp.refl w0 []
  repeat refine c_seq ?_
  refine c_region ?_
  refine l_op (o_val (r_as) ?_)
  first | refine l_end ?_ | refine l_nil ?_
  repeat refine c_seq ?_
  refine c_region ?_
  refine l_op (o_val (r_mv) ?_)
  refine l_op (o_val (r_lenstr (s := ⟨(l).toArray⟩) Try.underlying9 rfl) ?_)
  refine l_op (o_val (r_bin (a := ((l).length : Int)) (b := 1) rfl rfl (fun _ => b_lss)) ?_)
  refine l_op (o_val (r_mv) ?_)
  by_cases hc1 : ((l).length : Int) < 1
  ·
   refine l_no rfl rfl (by exact congrArg Value.bool (decide_eq_true hc1)) rfl ?_
   refine l_no rfl rfl (by exact congrArg Value.bool (decide_eq_true hc1)) rfl ?_
   refine l_no rfl rfl (by exact congrArg Value.bool (decide_eq_true hc1)) rfl ?_
   refine l_op (o_val (r_pick (b := true) (congrArg Value.bool (decide_eq_true hc1))) ?_)
   refine l_op (o_val (r_mv) ?_)
   refine l_no rfl rfl rfl rfl ?_
   refine l_no rfl rfl rfl rfl ?_
   refine l_no rfl rfl rfl rfl ?_
   refine l_op (o_val (r_pick rfl) ?_)
   refine l_op (o_val (r_mv) ?_)
   refine l_no rfl rfl rfl rfl ?_
   refine l_no rfl rfl rfl rfl ?_
   refine l_no rfl rfl rfl rfl ?_
   refine l_op (o_val (r_pick rfl) ?_)
   first | refine l_end ?_ | refine l_nil ?_
   repeat refine c_seq ?_
   refine c_yes rfl ?_
   repeat refine c_seq ?_
   refine c_region ?_
   refine l_op (o_val (r_as) ?_)
   first | refine l_end ?_ | refine l_nil ?_
   refine c_ret ?_
   try dsimp only [Exit.then, Exit.inBlock]
   refine e_ret1 (v := .bool false) Try.results124 rfl ?_
   refine ⟨_, rfl, ?_⟩
   refine ⟨?_, H⟩
   have e : nameMay l = false := Bool.eq_false_iff.2 fun h => by
     have h2 := (nameMay_iff l).1 h
     exact absurd h2 (by omega)
   rw [e]
  ·
   refine l_yes rfl rfl (by exact congrArg Value.bool (decide_eq_false hc1)) (o_val (r_mv) ?_)
   refine l_yes rfl rfl (by exact congrArg Value.bool (decide_eq_false hc1)) (o_val (r_lenstr (s := ⟨(l).toArray⟩) Try.underlying9 rfl) ?_)
   refine l_yes rfl rfl (by exact congrArg Value.bool (decide_eq_false hc1)) (o_val (r_bin (a := ((l).length : Int)) (b := 16) rfl rfl (fun _ => b_gtr)) ?_)
   refine l_op (o_val (r_pick (b := false) (congrArg Value.bool (decide_eq_false hc1))) ?_)
   refine l_op (o_val (r_mv) ?_)
   by_cases hc2 : 16 < ((l).length : Int)
   ·
    refine l_no rfl rfl (by exact congrArg Value.bool (decide_eq_true hc2)) rfl ?_
    refine l_no rfl rfl (by exact congrArg Value.bool (decide_eq_true hc2)) rfl ?_
    refine l_no rfl rfl (by exact congrArg Value.bool (decide_eq_true hc2)) rfl ?_
    refine l_op (o_val (r_pick (b := true) (congrArg Value.bool (decide_eq_true hc2))) ?_)
    refine l_op (o_val (r_mv) ?_)
    refine l_no rfl rfl rfl rfl ?_
    refine l_no rfl rfl rfl rfl ?_
    refine l_no rfl rfl rfl rfl ?_
    refine l_op (o_val (r_pick rfl) ?_)
    first | refine l_end ?_ | refine l_nil ?_
    repeat refine c_seq ?_
    refine c_yes rfl ?_
    repeat refine c_seq ?_
    refine c_region ?_
    refine l_op (o_val (r_as) ?_)
    first | refine l_end ?_ | refine l_nil ?_
    refine c_ret ?_
    try dsimp only [Exit.then, Exit.inBlock]
    refine e_ret1 (v := .bool false) Try.results124 rfl ?_
    refine ⟨_, rfl, ?_⟩
    refine ⟨?_, H⟩
    have e : nameMay l = false := Bool.eq_false_iff.2 fun h => by
      have h2 := (nameMay_iff l).1 h
      exact absurd h2 (by omega)
    rw [e]
   ·
    refine l_yes rfl rfl (by exact congrArg Value.bool (decide_eq_false hc2)) (o_val (r_mv) ?_)
    refine l_yes rfl rfl (by exact congrArg Value.bool (decide_eq_false hc2)) (o_val (r_idxS (l := l) 0 Try.underlying9 rfl rfl (by omega) (by omega)) ?_)
    refine l_yes rfl rfl (by exact congrArg Value.bool (decide_eq_false hc2)) (o_val (r_bin (a := (((l).getD 0 0).toNat : Int)) (b := 97) rfl rfl (fun _ => b_lss)) ?_)
    refine l_op (o_val (r_pick (b := false) (congrArg Value.bool (decide_eq_false hc2))) ?_)
    refine l_op (o_val (r_mv) ?_)
    by_cases hc3 : (((l).getD 0 0).toNat : Int) < 97
    ·
     refine l_no rfl rfl (by exact congrArg Value.bool (decide_eq_true hc3)) rfl ?_
     refine l_no rfl rfl (by exact congrArg Value.bool (decide_eq_true hc3)) rfl ?_
     refine l_no rfl rfl (by exact congrArg Value.bool (decide_eq_true hc3)) rfl ?_
     refine l_op (o_val (r_pick (b := true) (congrArg Value.bool (decide_eq_true hc3))) ?_)
     first | refine l_end ?_ | refine l_nil ?_
     repeat refine c_seq ?_
     refine c_yes rfl ?_
     repeat refine c_seq ?_
     refine c_region ?_
     refine l_op (o_val (r_as) ?_)
     first | refine l_end ?_ | refine l_nil ?_
     refine c_ret ?_
     try dsimp only [Exit.then, Exit.inBlock]
     refine e_ret1 (v := .bool false) Try.results124 rfl ?_
     refine ⟨_, rfl, ?_⟩
     refine ⟨?_, H⟩
     have e : nameMay l = false := Bool.eq_false_iff.2 fun h => by
       have h2 := (nameMay_iff l).1 h
       exact absurd h2 (by omega)
     rw [e]
    ·
     refine l_yes rfl rfl (by exact congrArg Value.bool (decide_eq_false hc3)) (o_val (r_mv) ?_)
     refine l_yes rfl rfl (by exact congrArg Value.bool (decide_eq_false hc3)) (o_val (r_idxS (l := l) 0 Try.underlying9 rfl rfl (by omega) (by omega)) ?_)
     refine l_yes rfl rfl (by exact congrArg Value.bool (decide_eq_false hc3)) (o_val (r_bin (a := (((l).getD 0 0).toNat : Int)) (b := 122) rfl rfl (fun _ => b_gtr)) ?_)
     refine l_op (o_val (r_pick (b := false) (congrArg Value.bool (decide_eq_false hc3))) ?_)
     first | refine l_end ?_ | refine l_nil ?_
     by_cases hc4 : 122 < (((l).getD 0 0).toNat : Int)
     ·
      repeat refine c_seq ?_
      refine c_yes (by exact congrArg Value.bool (decide_eq_true hc4)) ?_
      repeat refine c_seq ?_
      refine c_region ?_
      refine l_op (o_val (r_as) ?_)
      first | refine l_end ?_ | refine l_nil ?_
      refine c_ret ?_
      try dsimp only [Exit.then, Exit.inBlock]
      refine e_ret1 (v := .bool false) Try.results124 rfl ?_
      refine ⟨_, rfl, ?_⟩
      refine ⟨?_, H⟩
      have e : nameMay l = false := Bool.eq_false_iff.2 fun h => by
        have h2 := (nameMay_iff l).1 h
        exact absurd h2 (by omega)
      rw [e]
     ·
      repeat refine c_seq ?_
      refine c_no (by exact congrArg Value.bool (decide_eq_false hc4)) ?_
      refine c_skip ?_
      repeat refine c_seq ?_
      refine c_region ?_
      refine l_op (o_val (r_as) ?_)
      first | refine l_end ?_ | refine l_nil ?_
      repeat refine c_seq ?_
      refine c_block ?_
      repeat refine c_seq ?_
      refine c_loop (fun (i : Nat) => [(0, .string ⟨(l).toArray⟩), (3, VI (i : Int))])
        (fun (i : Nat) w => (i ≤ l.length ∧ ∀ j, j < i → nm1 (l.getD j 0) = true) ∧ Hp w0 w [] ([]))
        (fun (i : Nat) => l.length - i) 0 ⟨rfl, rfl, trivial⟩ ⟨⟨Nat.zero_le _, fun j hj => absurd hj (by omega)⟩, H⟩ ?_
      clear H
      rintro i τ w ⟨⟨hi, hall⟩, H⟩
      repeat refine c_seq ?_
      refine c_region ?_
      refine l_op (o_val (r_mv) ?_)
      refine l_op (o_val (r_mv) ?_)
      refine l_op (o_val (r_lenstr (s := ⟨(l).toArray⟩) Try.underlying9 rfl) ?_)
      refine l_op (o_val (r_bin (a := (i : Int)) (b := ((l).length : Int)) rfl rfl (fun _ => b_lss)) ?_)
      first | refine l_end ?_ | refine l_nil ?_
      by_cases hc5 : (i : Int) < ((l).length : Int)
      ·
       repeat refine c_seq ?_
       refine c_yes (by exact congrArg Value.bool (decide_eq_true hc5)) ?_
       refine c_skip ?_
       repeat refine c_seq ?_
       refine c_block ?_
       repeat refine c_seq ?_
       refine c_region ?_
       refine l_op (o_val (r_mv) ?_)
       refine l_op (o_val (r_mv) ?_)
       refine l_op (o_val (r_idxS (l := l) i Try.underlying9 rfl rfl (by omega) (by omega)) ?_)
       refine l_op (o_val (r_as) ?_)
       first | refine l_end ?_ | refine l_nil ?_
       repeat refine c_seq ?_
       refine c_region ?_
       refine l_op (o_val (r_mv) ?_)
       refine l_op (o_val (r_bin (a := (((l).getD i 0).toNat : Int)) (b := 97) rfl rfl (fun _ => b_geq)) ?_)
       refine l_op (o_val (r_mv) ?_)
       by_cases hc6 : 97 ≤ (((l).getD i 0).toNat : Int)
       ·
        refine l_yes rfl rfl (by exact congrArg Value.bool (decide_eq_true hc6)) (o_val (r_mv) ?_)
        refine l_yes rfl rfl (by exact congrArg Value.bool (decide_eq_true hc6)) (o_val (r_bin (a := (((l).getD i 0).toNat : Int)) (b := 122) rfl rfl (fun _ => b_leq)) ?_)
        refine l_op (o_val (r_pick (b := true) (congrArg Value.bool (decide_eq_true hc6))) ?_)
        refine l_op (o_val (r_mv) ?_)
        by_cases hc7 : (((l).getD i 0).toNat : Int) ≤ 122
        ·
         refine l_no rfl rfl (by exact congrArg Value.bool (decide_eq_true hc7)) rfl ?_
         refine l_no rfl rfl (by exact congrArg Value.bool (decide_eq_true hc7)) rfl ?_
         refine l_no rfl rfl (by exact congrArg Value.bool (decide_eq_true hc7)) rfl ?_
         refine l_non rfl rfl rfl ?_
         refine l_non rfl rfl rfl ?_
         refine l_no rfl rfl (by exact congrArg Value.bool (decide_eq_true hc7)) rfl ?_
         refine l_op (o_val (r_pick (b := true) (congrArg Value.bool (decide_eq_true hc7))) ?_)
         refine l_op (o_val (r_mv) ?_)
         refine l_no rfl rfl rfl rfl ?_
         refine l_no rfl rfl rfl rfl ?_
         refine l_op (o_val (r_pick rfl) ?_)
         refine l_op (o_val (r_not rfl) ?_)
         first | refine l_end ?_ | refine l_nil ?_
         repeat refine c_seq ?_
         refine c_no rfl ?_
         refine c_skip ?_
         repeat refine c_seq ?_
         refine c_region ?_
         refine l_op (o_val (r_mv) ?_)
         refine l_op (o_val (r_bin (a := (i : Int)) (b := 1) rfl rfl (fun _ => b_add (by omega) (by omega))) ?_)
         refine l_op (o_val (r_as) ?_)
         first | refine l_end ?_ | refine l_nil ?_
         refine round_end (i + 1) ?_ ?_ ?_
         · exact ⟨rfl, show VI ((i : Int) + 1) = VI ((i + 1 : Nat) : Int) from congrArg VI (by omega), trivial⟩
         · refine ⟨?_, ?_⟩
           · try dsimp only
             exact ⟨by omega, fun j hj => by
               by_cases hji : j < i
               · exact hall j hji
               · have e : j = i := by omega
                 rw [e]; exact (nm1_iff _).2 (by omega)⟩
           · exact H
         · show l.length - (i + 1 : Nat) < l.length - i; omega
        ·
         refine l_yes rfl rfl (by exact congrArg Value.bool (decide_eq_false hc7)) (o_val (r_mv) ?_)
         refine l_yes rfl rfl (by exact congrArg Value.bool (decide_eq_false hc7)) (o_val (r_bin (a := (((l).getD i 0).toNat : Int)) (b := 48) rfl rfl (fun _ => b_geq)) ?_)
         refine l_yes rfl rfl (by exact congrArg Value.bool (decide_eq_false hc7)) (o_val (r_mv) ?_)
         by_cases hc8 : 48 ≤ (((l).getD i 0).toNat : Int)
         ·
          refine l_yes rfl rfl (by exact congrArg Value.bool (decide_eq_true hc8)) (o_val (r_mv) ?_)
          refine l_yes rfl rfl (by exact congrArg Value.bool (decide_eq_true hc8)) (o_val (r_bin (a := (((l).getD i 0).toNat : Int)) (b := 57) rfl rfl (fun _ => b_leq)) ?_)
          refine l_yes rfl rfl (by exact congrArg Value.bool (decide_eq_false hc7)) (o_val (r_pick (b := true) (congrArg Value.bool (decide_eq_true hc8))) ?_)
          refine l_op (o_val (r_pick (b := false) (congrArg Value.bool (decide_eq_false hc7))) ?_)
          refine l_op (o_val (r_mv) ?_)
          by_cases hc9 : (((l).getD i 0).toNat : Int) ≤ 57
          ·
           refine l_no rfl rfl (by exact congrArg Value.bool (decide_eq_true hc9)) rfl ?_
           refine l_no rfl rfl (by exact congrArg Value.bool (decide_eq_true hc9)) rfl ?_
           refine l_op (o_val (r_pick (b := true) (congrArg Value.bool (decide_eq_true hc9))) ?_)
           refine l_op (o_val (r_not rfl) ?_)
           first | refine l_end ?_ | refine l_nil ?_
           repeat refine c_seq ?_
           refine c_no rfl ?_
           refine c_skip ?_
           repeat refine c_seq ?_
           refine c_region ?_
           refine l_op (o_val (r_mv) ?_)
           refine l_op (o_val (r_bin (a := (i : Int)) (b := 1) rfl rfl (fun _ => b_add (by omega) (by omega))) ?_)
           refine l_op (o_val (r_as) ?_)
           first | refine l_end ?_ | refine l_nil ?_
           refine round_end (i + 1) ?_ ?_ ?_
           · exact ⟨rfl, show VI ((i : Int) + 1) = VI ((i + 1 : Nat) : Int) from congrArg VI (by omega), trivial⟩
           · refine ⟨?_, ?_⟩
             · try dsimp only
               exact ⟨by omega, fun j hj => by
                 by_cases hji : j < i
                 · exact hall j hji
                 · have e : j = i := by omega
                   rw [e]; exact (nm1_iff _).2 (by omega)⟩
             · exact H
           · show l.length - (i + 1 : Nat) < l.length - i; omega
          ·
           refine l_yes rfl rfl (by exact congrArg Value.bool (decide_eq_false hc9)) (o_val (r_mv) ?_)
           refine l_yes rfl rfl (by exact congrArg Value.bool (decide_eq_false hc9)) (o_val (r_bin (a := (((l).getD i 0).toNat : Int)) (b := 45) rfl rfl (fun _ => b_eql)) ?_)
           refine l_op (o_val (r_pick (b := false) (congrArg Value.bool (decide_eq_false hc9))) ?_)
           refine l_op (o_val (r_not rfl) ?_)
           first | refine l_end ?_ | refine l_nil ?_
           by_cases hc10 : (((l).getD i 0).toNat : Int) = 45
           ·
            repeat refine c_seq ?_
            refine c_no (by exact congrArg Value.bool (congrArg not (decide_eq_true hc10))) ?_
            refine c_skip ?_
            repeat refine c_seq ?_
            refine c_region ?_
            refine l_op (o_val (r_mv) ?_)
            refine l_op (o_val (r_bin (a := (i : Int)) (b := 1) rfl rfl (fun _ => b_add (by omega) (by omega))) ?_)
            refine l_op (o_val (r_as) ?_)
            first | refine l_end ?_ | refine l_nil ?_
            refine round_end (i + 1) ?_ ?_ ?_
            · exact ⟨rfl, show VI ((i : Int) + 1) = VI ((i + 1 : Nat) : Int) from congrArg VI (by omega), trivial⟩
            · refine ⟨?_, ?_⟩
              · try dsimp only
                exact ⟨by omega, fun j hj => by
                  by_cases hji : j < i
                  · exact hall j hji
                  · have e : j = i := by omega
                    rw [e]; exact (nm1_iff _).2 (by omega)⟩
              · exact H
            · show l.length - (i + 1 : Nat) < l.length - i; omega
           ·
            repeat refine c_seq ?_
            refine c_yes (by exact congrArg Value.bool (congrArg not (decide_eq_false hc10))) ?_
            repeat refine c_seq ?_
            refine c_region ?_
            refine l_op (o_val (r_as) ?_)
            first | refine l_end ?_ | refine l_nil ?_
            refine c_ret ?_
            try dsimp only [Exit.then, Exit.inBlock]
            refine e_ret1 (v := .bool false) Try.results124 rfl ?_
            refine ⟨_, rfl, ?_⟩
            refine ⟨?_, H⟩
            have e : nameMay l = false := Bool.eq_false_iff.2 fun h => by
              have h2 := (nameMay_iff l).1 h
              have h3 := (nm1_iff _).1 (h2.2.2.2.2 i (by omega))
              exact absurd h2 (by omega)
            rw [e]
         ·
          refine l_no rfl rfl (by exact congrArg Value.bool (decide_eq_false hc8)) rfl ?_
          refine l_no rfl rfl (by exact congrArg Value.bool (decide_eq_false hc8)) rfl ?_
          refine l_yes rfl rfl (by exact congrArg Value.bool (decide_eq_false hc7)) (o_val (r_pick (b := false) (congrArg Value.bool (decide_eq_false hc8))) ?_)
          refine l_op (o_val (r_pick (b := false) (congrArg Value.bool (decide_eq_false hc7))) ?_)
          refine l_op (o_val (r_mv) ?_)
          refine l_yes rfl rfl rfl (o_val (r_mv) ?_)
          refine l_yes rfl rfl rfl (o_val (r_bin (a := (((l).getD i 0).toNat : Int)) (b := 45) rfl rfl (fun _ => b_eql)) ?_)
          refine l_op (o_val (r_pick rfl) ?_)
          refine l_op (o_val (r_not rfl) ?_)
          first | refine l_end ?_ | refine l_nil ?_
          by_cases hc11 : (((l).getD i 0).toNat : Int) = 45
          ·
           repeat refine c_seq ?_
           refine c_no (by exact congrArg Value.bool (congrArg not (decide_eq_true hc11))) ?_
           refine c_skip ?_
           repeat refine c_seq ?_
           refine c_region ?_
           refine l_op (o_val (r_mv) ?_)
           refine l_op (o_val (r_bin (a := (i : Int)) (b := 1) rfl rfl (fun _ => b_add (by omega) (by omega))) ?_)
           refine l_op (o_val (r_as) ?_)
           first | refine l_end ?_ | refine l_nil ?_
           refine round_end (i + 1) ?_ ?_ ?_
           · exact ⟨rfl, show VI ((i : Int) + 1) = VI ((i + 1 : Nat) : Int) from congrArg VI (by omega), trivial⟩
           · refine ⟨?_, ?_⟩
             · try dsimp only
               exact ⟨by omega, fun j hj => by
                 by_cases hji : j < i
                 · exact hall j hji
                 · have e : j = i := by omega
                   rw [e]; exact (nm1_iff _).2 (by omega)⟩
             · exact H
           · show l.length - (i + 1 : Nat) < l.length - i; omega
          ·
           repeat refine c_seq ?_
           refine c_yes (by exact congrArg Value.bool (congrArg not (decide_eq_false hc11))) ?_
           repeat refine c_seq ?_
           refine c_region ?_
           refine l_op (o_val (r_as) ?_)
           first | refine l_end ?_ | refine l_nil ?_
           refine c_ret ?_
           try dsimp only [Exit.then, Exit.inBlock]
           refine e_ret1 (v := .bool false) Try.results124 rfl ?_
           refine ⟨_, rfl, ?_⟩
           refine ⟨?_, H⟩
           have e : nameMay l = false := Bool.eq_false_iff.2 fun h => by
             have h2 := (nameMay_iff l).1 h
             have h3 := (nm1_iff _).1 (h2.2.2.2.2 i (by omega))
             exact absurd h2 (by omega)
           rw [e]
       ·
        refine l_no rfl rfl (by exact congrArg Value.bool (decide_eq_false hc6)) rfl ?_
        refine l_no rfl rfl (by exact congrArg Value.bool (decide_eq_false hc6)) rfl ?_
        refine l_op (o_val (r_pick (b := false) (congrArg Value.bool (decide_eq_false hc6))) ?_)
        refine l_op (o_val (r_mv) ?_)
        refine l_yes rfl rfl rfl (o_val (r_mv) ?_)
        refine l_yes rfl rfl rfl (o_val (r_bin (a := (((l).getD i 0).toNat : Int)) (b := 48) rfl rfl (fun _ => b_geq)) ?_)
        refine l_yes rfl rfl rfl (o_val (r_mv) ?_)
        by_cases hc12 : 48 ≤ (((l).getD i 0).toNat : Int)
        ·
         refine l_yes rfl rfl (by exact congrArg Value.bool (decide_eq_true hc12)) (o_val (r_mv) ?_)
         refine l_yes rfl rfl (by exact congrArg Value.bool (decide_eq_true hc12)) (o_val (r_bin (a := (((l).getD i 0).toNat : Int)) (b := 57) rfl rfl (fun _ => b_leq)) ?_)
         refine l_yes rfl rfl rfl (o_val (r_pick (b := true) (congrArg Value.bool (decide_eq_true hc12))) ?_)
         refine l_op (o_val (r_pick rfl) ?_)
         refine l_op (o_val (r_mv) ?_)
         by_cases hc13 : (((l).getD i 0).toNat : Int) ≤ 57
         ·
          refine l_no rfl rfl (by exact congrArg Value.bool (decide_eq_true hc13)) rfl ?_
          refine l_no rfl rfl (by exact congrArg Value.bool (decide_eq_true hc13)) rfl ?_
          refine l_op (o_val (r_pick (b := true) (congrArg Value.bool (decide_eq_true hc13))) ?_)
          refine l_op (o_val (r_not rfl) ?_)
          first | refine l_end ?_ | refine l_nil ?_
          repeat refine c_seq ?_
          refine c_no rfl ?_
          refine c_skip ?_
          repeat refine c_seq ?_
          refine c_region ?_
          refine l_op (o_val (r_mv) ?_)
          refine l_op (o_val (r_bin (a := (i : Int)) (b := 1) rfl rfl (fun _ => b_add (by omega) (by omega))) ?_)
          refine l_op (o_val (r_as) ?_)
          first | refine l_end ?_ | refine l_nil ?_
          refine round_end (i + 1) ?_ ?_ ?_
          · exact ⟨rfl, show VI ((i : Int) + 1) = VI ((i + 1 : Nat) : Int) from congrArg VI (by omega), trivial⟩
          · refine ⟨?_, ?_⟩
            · try dsimp only
              exact ⟨by omega, fun j hj => by
                by_cases hji : j < i
                · exact hall j hji
                · have e : j = i := by omega
                  rw [e]; exact (nm1_iff _).2 (by omega)⟩
            · exact H
          · show l.length - (i + 1 : Nat) < l.length - i; omega
         ·
          refine l_yes rfl rfl (by exact congrArg Value.bool (decide_eq_false hc13)) (o_val (r_mv) ?_)
          refine l_yes rfl rfl (by exact congrArg Value.bool (decide_eq_false hc13)) (o_val (r_bin (a := (((l).getD i 0).toNat : Int)) (b := 45) rfl rfl (fun _ => b_eql)) ?_)
          refine l_op (o_val (r_pick (b := false) (congrArg Value.bool (decide_eq_false hc13))) ?_)
          refine l_op (o_val (r_not rfl) ?_)
          first | refine l_end ?_ | refine l_nil ?_
          by_cases hc14 : (((l).getD i 0).toNat : Int) = 45
          ·
           repeat refine c_seq ?_
           refine c_no (by exact congrArg Value.bool (congrArg not (decide_eq_true hc14))) ?_
           refine c_skip ?_
           repeat refine c_seq ?_
           refine c_region ?_
           refine l_op (o_val (r_mv) ?_)
           refine l_op (o_val (r_bin (a := (i : Int)) (b := 1) rfl rfl (fun _ => b_add (by omega) (by omega))) ?_)
           refine l_op (o_val (r_as) ?_)
           first | refine l_end ?_ | refine l_nil ?_
           refine round_end (i + 1) ?_ ?_ ?_
           · exact ⟨rfl, show VI ((i : Int) + 1) = VI ((i + 1 : Nat) : Int) from congrArg VI (by omega), trivial⟩
           · refine ⟨?_, ?_⟩
             · try dsimp only
               exact ⟨by omega, fun j hj => by
                 by_cases hji : j < i
                 · exact hall j hji
                 · have e : j = i := by omega
                   rw [e]; exact (nm1_iff _).2 (by omega)⟩
             · exact H
           · show l.length - (i + 1 : Nat) < l.length - i; omega
          ·
           repeat refine c_seq ?_
           refine c_yes (by exact congrArg Value.bool (congrArg not (decide_eq_false hc14))) ?_
           repeat refine c_seq ?_
           refine c_region ?_
           refine l_op (o_val (r_as) ?_)
           first | refine l_end ?_ | refine l_nil ?_
           refine c_ret ?_
           try dsimp only [Exit.then, Exit.inBlock]
           refine e_ret1 (v := .bool false) Try.results124 rfl ?_
           refine ⟨_, rfl, ?_⟩
           refine ⟨?_, H⟩
           have e : nameMay l = false := Bool.eq_false_iff.2 fun h => by
             have h2 := (nameMay_iff l).1 h
             have h3 := (nm1_iff _).1 (h2.2.2.2.2 i (by omega))
             exact absurd h2 (by omega)
           rw [e]
        ·
         refine l_no rfl rfl (by exact congrArg Value.bool (decide_eq_false hc12)) rfl ?_
         refine l_no rfl rfl (by exact congrArg Value.bool (decide_eq_false hc12)) rfl ?_
         refine l_yes rfl rfl rfl (o_val (r_pick (b := false) (congrArg Value.bool (decide_eq_false hc12))) ?_)
         refine l_op (o_val (r_pick rfl) ?_)
         refine l_op (o_val (r_mv) ?_)
         refine l_yes rfl rfl rfl (o_val (r_mv) ?_)
         refine l_yes rfl rfl rfl (o_val (r_bin (a := (((l).getD i 0).toNat : Int)) (b := 45) rfl rfl (fun _ => b_eql)) ?_)
         refine l_op (o_val (r_pick rfl) ?_)
         refine l_op (o_val (r_not rfl) ?_)
         first | refine l_end ?_ | refine l_nil ?_
         by_cases hc15 : (((l).getD i 0).toNat : Int) = 45
         ·
          repeat refine c_seq ?_
          refine c_no (by exact congrArg Value.bool (congrArg not (decide_eq_true hc15))) ?_
          refine c_skip ?_
          repeat refine c_seq ?_
          refine c_region ?_
          refine l_op (o_val (r_mv) ?_)
          refine l_op (o_val (r_bin (a := (i : Int)) (b := 1) rfl rfl (fun _ => b_add (by omega) (by omega))) ?_)
          refine l_op (o_val (r_as) ?_)
          first | refine l_end ?_ | refine l_nil ?_
          refine round_end (i + 1) ?_ ?_ ?_
          · exact ⟨rfl, show VI ((i : Int) + 1) = VI ((i + 1 : Nat) : Int) from congrArg VI (by omega), trivial⟩
          · refine ⟨?_, ?_⟩
            · try dsimp only
              exact ⟨by omega, fun j hj => by
                by_cases hji : j < i
                · exact hall j hji
                · have e : j = i := by omega
                  rw [e]; exact (nm1_iff _).2 (by omega)⟩
            · exact H
          · show l.length - (i + 1 : Nat) < l.length - i; omega
         ·
          repeat refine c_seq ?_
          refine c_yes (by exact congrArg Value.bool (congrArg not (decide_eq_false hc15))) ?_
          repeat refine c_seq ?_
          refine c_region ?_
          refine l_op (o_val (r_as) ?_)
          first | refine l_end ?_ | refine l_nil ?_
          refine c_ret ?_
          try dsimp only [Exit.then, Exit.inBlock]
          refine e_ret1 (v := .bool false) Try.results124 rfl ?_
          refine ⟨_, rfl, ?_⟩
          refine ⟨?_, H⟩
          have e : nameMay l = false := Bool.eq_false_iff.2 fun h => by
            have h2 := (nameMay_iff l).1 h
            have h3 := (nm1_iff _).1 (h2.2.2.2.2 i (by omega))
            exact absurd h2 (by omega)
          rw [e]
      ·
       repeat refine c_seq ?_
       refine c_no (by exact congrArg Value.bool (decide_eq_false hc5)) ?_
       refine c_exit ?_
       repeat refine c_seq ?_
       refine c_region ?_
       refine l_op (o_val (r_as) ?_)
       first | refine l_end ?_ | refine l_nil ?_
       refine c_ret ?_
       try dsimp only [Exit.then, Exit.inBlock]
       refine e_ret1 (v := .bool true) Try.results124 rfl ?_
       refine ⟨_, rfl, ?_⟩
       refine ⟨?_, H⟩
       rw [(nameMay_iff l).2 ⟨by omega, by omega, by omega, by omega, fun j hj => hall j (by omega)⟩]
theorem may14_ret (w0 : World) (t : Tok) (hc : t.cs.ok cavE 2 w0) (_htag : t.tag.length = 32) (hn : t.tenant.length ≤ 65536) :
    Ret Try.prog 76 [.agg ([V64 t.serial, .string ⟨(t.tenant).toArray⟩, V8 t.rights, VI t.from_, VI t.until_, t.cs.v] ++ (t.tag).map V8).toArray] w0 fun v w' => v = .bool (mayT t) ∧ Hp w0 w' [] [] := by
  refine ret_mk Try.func76 rfl Try.ntmps76 (by simp) ?_
  have H := Hp.refl w0 []
  have hxl := hc.le
  have hxm := hc.mx
  have hmL : maxLen = 9223372036854775807 := rfl
  repeat refine c_seq ?_
  refine c_region ?_
  refine l_op (o_box (v := .agg ([V64 t.serial, .string ⟨(t.tenant).toArray⟩, V8 t.rights, VI t.from_, VI t.until_, t.cs.v] ++ (t.tag).map V8).toArray) H rfl (fun b1 w H hb1 => ?_))
  replace H : Hp _ w _ ([.blk b1 ([V64 t.serial, .string ⟨(t.tenant).toArray⟩, V8 t.rights, VI t.from_, VI t.until_, t.cs.v] ++ (t.tag).map V8) 76]) := H
  refine l_op (o_val (r_as) ?_)
  first | refine l_end ?_ | refine l_nil ?_
  repeat refine c_seq ?_
  refine c_region ?_
  refine l_op (o_val (r_fa rfl fo76_1) ?_)
  refine l_op (o_val (r_ld (v := .string ⟨(t.tenant).toArray⟩) H (i := 0) rfl rfl ct9 rfl) ?_)
  refine l_op (o_val (r_strne (a := t.tenant) (b := ([] : List UInt8)) rfl rfl) ?_)
  refine l_op (o_val (r_mv) ?_)
  by_cases hc2 : t.tenant = ([] : List UInt8)
  ·
   refine l_no rfl rfl (by exact congrArg Value.bool (congrArg not (decide_eq_true hc2))) rfl ?_
   refine l_no rfl rfl (by exact congrArg Value.bool (congrArg not (decide_eq_true hc2))) rfl ?_
   refine l_no rfl rfl (by exact congrArg Value.bool (congrArg not (decide_eq_true hc2))) rfl ?_
   refine l_no rfl rfl (by exact congrArg Value.bool (congrArg not (decide_eq_true hc2))) rfl ?_
   refine l_op (o_val (r_pick (b := false) (congrArg Value.bool (congrArg not (decide_eq_true hc2)))) ?_)
   refine l_op (o_val (r_mv) ?_)
   refine l_yes rfl rfl rfl (o_val (r_fa rfl fo76_2) ?_)
   refine l_yes rfl rfl rfl (o_val (r_ld (v := V8 t.rights) H (i := 0) rfl rfl ct73 rfl) ?_)
   refine l_yes rfl rfl rfl (o_val (r_bin (a := (t.rights.toNat : Int)) (b := 15) rfl rfl (fun _ => b_gtr)) ?_)
   refine l_op (o_val (r_pick rfl) ?_)
   refine l_op (o_val (r_mv) ?_)
   by_cases hc3 : 15 < (t.rights.toNat : Int)
   ·
    refine l_no rfl rfl (by exact congrArg Value.bool (decide_eq_true hc3)) rfl ?_
    refine l_no rfl rfl (by exact congrArg Value.bool (decide_eq_true hc3)) rfl ?_
    refine l_no rfl rfl (by exact congrArg Value.bool (decide_eq_true hc3)) rfl ?_
    refine l_no rfl rfl (by exact congrArg Value.bool (decide_eq_true hc3)) rfl ?_
    refine l_op (o_val (r_pick (b := true) (congrArg Value.bool (decide_eq_true hc3))) ?_)
    first | refine l_end ?_ | refine l_nil ?_
    repeat refine c_seq ?_
    refine c_yes rfl ?_
    repeat refine c_seq ?_
    refine c_region ?_
    refine l_op (o_val (r_as) ?_)
    first | refine l_end ?_ | refine l_nil ?_
    refine c_ret ?_
    try dsimp only [Exit.then, Exit.inBlock]
    refine e_ret1 (v := .bool false) Try.results76 rfl ?_
    refine ⟨_, rfl, ?_⟩
    refine ⟨?_, H.sub (List.nil_sublist _)⟩
    have e : mayT t = false := Bool.eq_false_iff.2 fun h => by
      have h2 := (mayT_iff t).1 h
      have h3 := (rMay_iff _).1 h2.2.1
      omega
    rw [e]
   ·
    refine l_yes rfl rfl (by exact congrArg Value.bool (decide_eq_false hc3)) (o_val (r_fa rfl fo76_5) ?_)
    refine l_yes rfl rfl (by exact congrArg Value.bool (decide_eq_false hc3)) (o_val (r_ld (v := t.cs.v) H (i := 0) rfl rfl ct74 rfl) ?_)
    refine l_yes rfl rfl (by exact congrArg Value.bool (decide_eq_false hc3)) (o_val (r_lens el74 rfl) ?_)
    refine l_yes rfl rfl (by exact congrArg Value.bool (decide_eq_false hc3)) (o_val (r_bin (a := (t.cs.len : Int)) (b := 8) rfl rfl (fun _ => b_gtr)) ?_)
    refine l_op (o_val (r_pick (b := false) (congrArg Value.bool (decide_eq_false hc3))) ?_)
    first | refine l_end ?_ | refine l_nil ?_
    by_cases hc4 : 8 < (t.cs.len : Int)
    ·
     repeat refine c_seq ?_
     refine c_yes (by exact congrArg Value.bool (decide_eq_true hc4)) ?_
     repeat refine c_seq ?_
     refine c_region ?_
     refine l_op (o_val (r_as) ?_)
     first | refine l_end ?_ | refine l_nil ?_
     refine c_ret ?_
     try dsimp only [Exit.then, Exit.inBlock]
     refine e_ret1 (v := .bool false) Try.results76 rfl ?_
     refine ⟨_, rfl, ?_⟩
     refine ⟨?_, H.sub (List.nil_sublist _)⟩
     have e : mayT t = false := Bool.eq_false_iff.2 fun h => by
       have h2 := (mayT_iff t).1 h
       have h3 := (rMay_iff _).1 h2.2.1
       omega
     rw [e]
    ·
     repeat refine c_seq ?_
     refine c_no (by exact congrArg Value.bool (decide_eq_false hc4)) ?_
     refine c_skip ?_
     repeat refine c_seq ?_
     refine c_region ?_
     refine l_op (o_val (r_as) ?_)
     first | refine l_end ?_ | refine l_nil ?_
     repeat refine c_seq ?_
     refine c_block ?_
     repeat refine c_seq ?_
     refine c_loop (fun (i : Nat) => [(1, .pointer (some ⟨b1, 0, none⟩)), (3, VI (i : Int))])
       (fun (i : Nat) w => (i ≤ t.cs.len ∧ ∀ (j : Nat) (c : Cav), j < i → t.cs.l[j]? = some c → rMay c.1 = true) ∧ Hp w0 w [] ([.blk b1 ([V64 t.serial, .string ⟨(t.tenant).toArray⟩, V8 t.rights, VI t.from_, VI t.until_, t.cs.v] ++ (t.tag).map V8) 76]))
       (fun (i : Nat) => t.cs.len - i) 0 ⟨rfl, rfl, trivial⟩ ⟨⟨Nat.zero_le _, fun j c hj => absurd hj (by omega)⟩, H⟩ ?_
     clear H
     rintro i τ w ⟨⟨hi, hall⟩, H⟩
     repeat refine c_seq ?_
     refine c_region ?_
     refine l_op (o_val (r_mv) ?_)
     refine l_op (o_val (r_fa rfl fo76_5) ?_)
     refine l_op (o_val (r_ld (v := t.cs.v) H (i := 0) rfl rfl ct74 rfl) ?_)
     refine l_op (o_val (r_lens el74 rfl) ?_)
     refine l_op (o_val (r_bin (a := (i : Int)) (b := (t.cs.len : Int)) rfl rfl (fun _ => b_lss)) ?_)
     first | refine l_end ?_ | refine l_nil ?_
     by_cases hc5 : (i : Int) < (t.cs.len : Int)
     ·
      repeat refine c_seq ?_
      refine c_yes (by exact congrArg Value.bool (decide_eq_true hc5)) ?_
      refine c_skip ?_
      repeat refine c_seq ?_
      refine c_block ?_
      repeat refine c_seq ?_
      refine c_region ?_
      refine l_op (o_val (r_fa rfl fo76_5) ?_)
      refine l_op (o_val (r_ld (v := t.cs.v) H (i := 0) rfl rfl ct74 rfl) ?_)
      refine l_op (o_val (r_mv) ?_)
      have ah8 := ((hc.up H)).addr (by decide) (by first | omega | (dsimp only; omega))
      obtain ⟨ab6, ao7, ah8⟩ := ah8
      refine l_op (o_val (r_isN i rfl rfl el74 ah8 (by omega) (by (try simp only [Sl.cut]); omega)) ?_)
      refine l_op (o_val (r_fa rfl fo78_0) ?_)
      have he10 : ∃ c, t.cs.l[i]? = some c := ⟨_, List.getElem?_eq_getElem (by have := ((hc.up H)).ln; (try dsimp only at this ⊢); omega)⟩
      obtain ⟨e9, he10⟩ := he10
      have hez11 := ((hc.up H)).sz e9 (List.mem_of_getElem? he10)
      refine l_op (o_val (r_ldFld (v := V8 e9.1) (s := t.cs) (k := i) (off := 0) (hc.up H) ah8 rfl ct73 he10 (by decide) rfl) ?_)
      refine l_op (o_val (r_bin (a := (e9.1.toNat : Int)) (b := 15) rfl rfl (fun _ => b_gtr)) ?_)
      first | refine l_end ?_ | refine l_nil ?_
      by_cases hc12 : 15 < (e9.1.toNat : Int)
      ·
       repeat refine c_seq ?_
       refine c_yes (by exact congrArg Value.bool (decide_eq_true hc12)) ?_
       repeat refine c_seq ?_
       refine c_region ?_
       refine l_op (o_val (r_as) ?_)
       first | refine l_end ?_ | refine l_nil ?_
       refine c_ret ?_
       try dsimp only [Exit.then, Exit.inBlock]
       refine e_ret1 (v := .bool false) Try.results76 rfl ?_
       refine ⟨_, rfl, ?_⟩
       refine ⟨?_, H.sub (List.nil_sublist _)⟩
       have e : mayT t = false := Bool.eq_false_iff.2 fun h => by
         have h2 := (mayT_iff t).1 h
         have h3 := (rMay_iff _).1 (h2.2.2.2 i e9 he10)
         omega
       rw [e]
      ·
       repeat refine c_seq ?_
       refine c_no (by exact congrArg Value.bool (decide_eq_false hc12)) ?_
       refine c_skip ?_
       repeat refine c_seq ?_
       refine c_region ?_
       refine l_op (o_val (r_mv) ?_)
       refine l_op (o_val (r_bin (a := (i : Int)) (b := 1) rfl rfl (fun _ => b_add (by omega) (by omega))) ?_)
       refine l_op (o_val (r_as) ?_)
       first | refine l_end ?_ | refine l_nil ?_
       refine round_end (i + 1) ?_ ?_ ?_
       · exact ⟨rfl, show VI ((i : Int) + 1) = VI ((i + 1 : Nat) : Int) from congrArg VI (by omega), trivial⟩
       · refine ⟨?_, ?_⟩
         · try dsimp only
           exact ⟨by omega, fun j c hj hjc => by
             by_cases hji : j < i
             · exact hall j c hji hjc
             · have e : j = i := by omega
               rw [e, he10] at hjc
               cases hjc
               exact (rMay_iff _).2 (by omega)⟩
         · exact H
       · show t.cs.len - (i + 1 : Nat) < t.cs.len - i; omega
     ·
      repeat refine c_seq ?_
      refine c_no (by exact congrArg Value.bool (decide_eq_false hc5)) ?_
      refine c_exit ?_
      repeat refine c_seq ?_
      refine c_region ?_
      refine l_op (o_val (r_as) ?_)
      first | refine l_end ?_ | refine l_nil ?_
      refine c_ret ?_
      try dsimp only [Exit.then, Exit.inBlock]
      refine e_ret1 (v := .bool true) Try.results76 rfl ?_
      refine ⟨_, rfl, ?_⟩
      refine ⟨?_, H.sub (List.nil_sublist _)⟩
      rw [(mayT_iff t).2 ⟨.inl (of_decide_eq_true (decide_eq_true hc2)), (rMay_iff _).2 (by omega), by omega, fun j c hj => hall j c (by have := hc.ln; have := (List.getElem?_eq_some_iff.1 hj).1; omega) hj⟩]
  ·
   refine l_yes rfl rfl (by exact congrArg Value.bool (congrArg not (decide_eq_false hc2))) (o_val (r_fa rfl fo76_1) ?_)
   refine l_yes rfl rfl (by exact congrArg Value.bool (congrArg not (decide_eq_false hc2))) (o_val (r_ld (v := .string ⟨(t.tenant).toArray⟩) H (i := 0) rfl rfl ct9 rfl) ?_)
   refine l_yes rfl rfl (by exact congrArg Value.bool (congrArg not (decide_eq_false hc2))) (o_callR Try.func124 rfl rfl rfl (nmay4_ret _ (t.tenant) (by omega)) ?_)
   rintro _ w ⟨rfl, Hc⟩
   replace H : Hp _ w _ ([_]) := H.call Hc
   clear Hc
   refine l_yes rfl rfl (by exact congrArg Value.bool (congrArg not (decide_eq_false hc2))) (o_val (r_not rfl) ?_)
   refine l_op (o_val (r_pick (b := true) (congrArg Value.bool (congrArg not (decide_eq_false hc2)))) ?_)
   refine l_op (o_val (r_mv) ?_)
   rcases Bool.eq_false_or_eq_true (nameMay (t.tenant)) with hc13 | hc13
   ·
    refine l_yes rfl rfl (by exact congrArg Value.bool (congrArg not hc13)) (o_val (r_fa rfl fo76_2) ?_)
    refine l_yes rfl rfl (by exact congrArg Value.bool (congrArg not hc13)) (o_val (r_ld (v := V8 t.rights) H (i := 0) rfl rfl ct73 rfl) ?_)
    refine l_yes rfl rfl (by exact congrArg Value.bool (congrArg not hc13)) (o_val (r_bin (a := (t.rights.toNat : Int)) (b := 15) rfl rfl (fun _ => b_gtr)) ?_)
    refine l_op (o_val (r_pick (b := false) (congrArg Value.bool (congrArg not hc13))) ?_)
    refine l_op (o_val (r_mv) ?_)
    by_cases hc14 : 15 < (t.rights.toNat : Int)
    ·
     refine l_no rfl rfl (by exact congrArg Value.bool (decide_eq_true hc14)) rfl ?_
     refine l_no rfl rfl (by exact congrArg Value.bool (decide_eq_true hc14)) rfl ?_
     refine l_no rfl rfl (by exact congrArg Value.bool (decide_eq_true hc14)) rfl ?_
     refine l_no rfl rfl (by exact congrArg Value.bool (decide_eq_true hc14)) rfl ?_
     refine l_op (o_val (r_pick (b := true) (congrArg Value.bool (decide_eq_true hc14))) ?_)
     first | refine l_end ?_ | refine l_nil ?_
     repeat refine c_seq ?_
     refine c_yes rfl ?_
     repeat refine c_seq ?_
     refine c_region ?_
     refine l_op (o_val (r_as) ?_)
     first | refine l_end ?_ | refine l_nil ?_
     refine c_ret ?_
     try dsimp only [Exit.then, Exit.inBlock]
     refine e_ret1 (v := .bool false) Try.results76 rfl ?_
     refine ⟨_, rfl, ?_⟩
     refine ⟨?_, H.sub (List.nil_sublist _)⟩
     have e : mayT t = false := Bool.eq_false_iff.2 fun h => by
       have h2 := (mayT_iff t).1 h
       have h3 := (rMay_iff _).1 h2.2.1
       omega
     rw [e]
    ·
     refine l_yes rfl rfl (by exact congrArg Value.bool (decide_eq_false hc14)) (o_val (r_fa rfl fo76_5) ?_)
     refine l_yes rfl rfl (by exact congrArg Value.bool (decide_eq_false hc14)) (o_val (r_ld (v := t.cs.v) H (i := 0) rfl rfl ct74 rfl) ?_)
     refine l_yes rfl rfl (by exact congrArg Value.bool (decide_eq_false hc14)) (o_val (r_lens el74 rfl) ?_)
     refine l_yes rfl rfl (by exact congrArg Value.bool (decide_eq_false hc14)) (o_val (r_bin (a := (t.cs.len : Int)) (b := 8) rfl rfl (fun _ => b_gtr)) ?_)
     refine l_op (o_val (r_pick (b := false) (congrArg Value.bool (decide_eq_false hc14))) ?_)
     first | refine l_end ?_ | refine l_nil ?_
     by_cases hc15 : 8 < (t.cs.len : Int)
     ·
      repeat refine c_seq ?_
      refine c_yes (by exact congrArg Value.bool (decide_eq_true hc15)) ?_
      repeat refine c_seq ?_
      refine c_region ?_
      refine l_op (o_val (r_as) ?_)
      first | refine l_end ?_ | refine l_nil ?_
      refine c_ret ?_
      try dsimp only [Exit.then, Exit.inBlock]
      refine e_ret1 (v := .bool false) Try.results76 rfl ?_
      refine ⟨_, rfl, ?_⟩
      refine ⟨?_, H.sub (List.nil_sublist _)⟩
      have e : mayT t = false := Bool.eq_false_iff.2 fun h => by
        have h2 := (mayT_iff t).1 h
        have h3 := (rMay_iff _).1 h2.2.1
        omega
      rw [e]
     ·
      repeat refine c_seq ?_
      refine c_no (by exact congrArg Value.bool (decide_eq_false hc15)) ?_
      refine c_skip ?_
      repeat refine c_seq ?_
      refine c_region ?_
      refine l_op (o_val (r_as) ?_)
      first | refine l_end ?_ | refine l_nil ?_
      repeat refine c_seq ?_
      refine c_block ?_
      repeat refine c_seq ?_
      refine c_loop (fun (i : Nat) => [(1, .pointer (some ⟨b1, 0, none⟩)), (3, VI (i : Int))])
        (fun (i : Nat) w => (i ≤ t.cs.len ∧ ∀ (j : Nat) (c : Cav), j < i → t.cs.l[j]? = some c → rMay c.1 = true) ∧ Hp w0 w [] ([.blk b1 ([V64 t.serial, .string ⟨(t.tenant).toArray⟩, V8 t.rights, VI t.from_, VI t.until_, t.cs.v] ++ (t.tag).map V8) 76]))
        (fun (i : Nat) => t.cs.len - i) 0 ⟨rfl, rfl, trivial⟩ ⟨⟨Nat.zero_le _, fun j c hj => absurd hj (by omega)⟩, H⟩ ?_
      clear H
      rintro i τ w ⟨⟨hi, hall⟩, H⟩
      repeat refine c_seq ?_
      refine c_region ?_
      refine l_op (o_val (r_mv) ?_)
      refine l_op (o_val (r_fa rfl fo76_5) ?_)
      refine l_op (o_val (r_ld (v := t.cs.v) H (i := 0) rfl rfl ct74 rfl) ?_)
      refine l_op (o_val (r_lens el74 rfl) ?_)
      refine l_op (o_val (r_bin (a := (i : Int)) (b := (t.cs.len : Int)) rfl rfl (fun _ => b_lss)) ?_)
      first | refine l_end ?_ | refine l_nil ?_
      by_cases hc16 : (i : Int) < (t.cs.len : Int)
      ·
       repeat refine c_seq ?_
       refine c_yes (by exact congrArg Value.bool (decide_eq_true hc16)) ?_
       refine c_skip ?_
       repeat refine c_seq ?_
       refine c_block ?_
       repeat refine c_seq ?_
       refine c_region ?_
       refine l_op (o_val (r_fa rfl fo76_5) ?_)
       refine l_op (o_val (r_ld (v := t.cs.v) H (i := 0) rfl rfl ct74 rfl) ?_)
       refine l_op (o_val (r_mv) ?_)
       have ah19 := ((hc.up H)).addr (by decide) (by first | omega | (dsimp only; omega))
       obtain ⟨ab17, ao18, ah19⟩ := ah19
       refine l_op (o_val (r_isN i rfl rfl el74 ah19 (by omega) (by (try simp only [Sl.cut]); omega)) ?_)
       refine l_op (o_val (r_fa rfl fo78_0) ?_)
       have he21 : ∃ c, t.cs.l[i]? = some c := ⟨_, List.getElem?_eq_getElem (by have := ((hc.up H)).ln; (try dsimp only at this ⊢); omega)⟩
       obtain ⟨e20, he21⟩ := he21
       have hez22 := ((hc.up H)).sz e20 (List.mem_of_getElem? he21)
       refine l_op (o_val (r_ldFld (v := V8 e20.1) (s := t.cs) (k := i) (off := 0) (hc.up H) ah19 rfl ct73 he21 (by decide) rfl) ?_)
       refine l_op (o_val (r_bin (a := (e20.1.toNat : Int)) (b := 15) rfl rfl (fun _ => b_gtr)) ?_)
       first | refine l_end ?_ | refine l_nil ?_
       by_cases hc23 : 15 < (e20.1.toNat : Int)
       ·
        repeat refine c_seq ?_
        refine c_yes (by exact congrArg Value.bool (decide_eq_true hc23)) ?_
        repeat refine c_seq ?_
        refine c_region ?_
        refine l_op (o_val (r_as) ?_)
        first | refine l_end ?_ | refine l_nil ?_
        refine c_ret ?_
        try dsimp only [Exit.then, Exit.inBlock]
        refine e_ret1 (v := .bool false) Try.results76 rfl ?_
        refine ⟨_, rfl, ?_⟩
        refine ⟨?_, H.sub (List.nil_sublist _)⟩
        have e : mayT t = false := Bool.eq_false_iff.2 fun h => by
          have h2 := (mayT_iff t).1 h
          have h3 := (rMay_iff _).1 (h2.2.2.2 i e20 he21)
          omega
        rw [e]
       ·
        repeat refine c_seq ?_
        refine c_no (by exact congrArg Value.bool (decide_eq_false hc23)) ?_
        refine c_skip ?_
        repeat refine c_seq ?_
        refine c_region ?_
        refine l_op (o_val (r_mv) ?_)
        refine l_op (o_val (r_bin (a := (i : Int)) (b := 1) rfl rfl (fun _ => b_add (by omega) (by omega))) ?_)
        refine l_op (o_val (r_as) ?_)
        first | refine l_end ?_ | refine l_nil ?_
        refine round_end (i + 1) ?_ ?_ ?_
        · exact ⟨rfl, show VI ((i : Int) + 1) = VI ((i + 1 : Nat) : Int) from congrArg VI (by omega), trivial⟩
        · refine ⟨?_, ?_⟩
          · try dsimp only
            exact ⟨by omega, fun j c hj hjc => by
              by_cases hji : j < i
              · exact hall j c hji hjc
              · have e : j = i := by omega
                rw [e, he21] at hjc
                cases hjc
                exact (rMay_iff _).2 (by omega)⟩
          · exact H
        · show t.cs.len - (i + 1 : Nat) < t.cs.len - i; omega
      ·
       repeat refine c_seq ?_
       refine c_no (by exact congrArg Value.bool (decide_eq_false hc16)) ?_
       refine c_exit ?_
       repeat refine c_seq ?_
       refine c_region ?_
       refine l_op (o_val (r_as) ?_)
       first | refine l_end ?_ | refine l_nil ?_
       refine c_ret ?_
       try dsimp only [Exit.then, Exit.inBlock]
       refine e_ret1 (v := .bool true) Try.results76 rfl ?_
       refine ⟨_, rfl, ?_⟩
       refine ⟨?_, H.sub (List.nil_sublist _)⟩
       rw [(mayT_iff t).2 ⟨.inr hc13, (rMay_iff _).2 (by omega), by omega, fun j c hj => hall j c (by have := hc.ln; have := (List.getElem?_eq_some_iff.1 hj).1; omega) hj⟩]
   ·
    refine l_no rfl rfl (by exact congrArg Value.bool (congrArg not hc13)) rfl ?_
    refine l_no rfl rfl (by exact congrArg Value.bool (congrArg not hc13)) rfl ?_
    refine l_no rfl rfl (by exact congrArg Value.bool (congrArg not hc13)) rfl ?_
    refine l_op (o_val (r_pick (b := true) (congrArg Value.bool (congrArg not hc13))) ?_)
    refine l_op (o_val (r_mv) ?_)
    refine l_no rfl rfl rfl rfl ?_
    refine l_no rfl rfl rfl rfl ?_
    refine l_no rfl rfl rfl rfl ?_
    refine l_no rfl rfl rfl rfl ?_
    refine l_op (o_val (r_pick rfl) ?_)
    first | refine l_end ?_ | refine l_nil ?_
    repeat refine c_seq ?_
    refine c_yes rfl ?_
    repeat refine c_seq ?_
    refine c_region ?_
    refine l_op (o_val (r_as) ?_)
    first | refine l_end ?_ | refine l_nil ?_
    refine c_ret ?_
    try dsimp only [Exit.then, Exit.inBlock]
    refine e_ret1 (v := .bool false) Try.results76 rfl ?_
    refine ⟨_, rfl, ?_⟩
    refine ⟨?_, H.sub (List.nil_sublist _)⟩
    have e : mayT t = false := Bool.eq_false_iff.2 fun h => by
      have h2 := (mayT_iff t).1 h
      rcases h2.1 with h3 | h3
      · exact absurd h3 (of_decide_eq_false (decide_eq_false hc2))
      · rw [hc13] at h3; cases h3
    rw [e]
theorem caveat14_ret (w0 : World) (c : Cav) (h1 : -9223372036854775808 ≤ c.2 ∧ c.2 ≤ 9223372036854775807) :
    Ret Try.prog 120 [.agg ([V8 c.1, VI c.2]).toArray] w0 fun v w' => ∃ a k, v = .slice (hd a) 9 k ∧ Hp w0 w' [] [.own a 9 k ((cavB c).map V8) 5 1] := by
  refine ret_mk Try.func120 rfl Try.ntmps120 (by simp) ?_
  have H := Hp.refl w0 []
  repeat refine c_seq ?_
  refine c_region ?_
  refine l_op (o_box (v := .agg ([V8 c.1, VI c.2]).toArray) H rfl (fun b1 w H hb1 => ?_))
  replace H : Hp _ w _ ([.blk b1 ([V8 c.1, VI c.2]) 78]) := H
  refine l_op (o_val (r_as) ?_)
  first | refine l_end ?_ | refine l_nil ?_
  repeat refine c_seq ?_
  refine wp_held (fun w => Hp w0 w [] [.blk b1 ([V8 c.1, VI c.2]) 78]) mixed ?_
  replace H := H.drew
  have HS := H
  refine t_take 0 rfl (by kernel_rfl) (by kernel_rfl) (by kernel_rfl) (fun _ _ _ h => h) (fun w HS => r_fa rfl fo78_0) HS ?_
  refine t_take 1 rfl (by kernel_rfl) (by kernel_rfl) (by kernel_rfl) (fun _ _ _ h => h) (fun w HS => r_ld (v := V8 c.1) HS (i := 0) rfl rfl ct73 rfl) HS ?_
  refine t_take 3 rfl (by kernel_rfl) (by kernel_rfl) (by kernel_rfl) (fun _ _ _ h => h) (fun w HS => r_fa rfl fo78_1) HS ?_
  refine t_take 4 rfl (by kernel_rfl) (by kernel_rfl) (by kernel_rfl) (fun _ _ _ h => h) (fun w HS => r_ld (v := VI c.2) HS (i := 0) rfl rfl ct2 rfl) HS ?_
  refine t_all [2, 5] (by kernel_rfl) (by simp) (all_cons (w_op 2 rfl ?_) (all_cons (w_op 5 rfl ?_) (all_nil)))
  ·
   refine (o_bslB ([c.1]) H sl29 zc5 rfl rfl (by decide) (fun b2 w H hb2 => ?_))
   replace H : Hp _ w _ ([_, .own (some b2) 1 1 (([c.1]).map V8) 5 1]) := H
   refine ⟨H.sub (.cons_cons _ (List.nil_sublist _)), ?_⟩
   replace HS := H.sub (.cons_cons _ (List.nil_sublist _))
   refine t_step 5 rfl (by kernel_rfl) (o_callR Try.func142 rfl rfl rfl (zig1_ret _ (c.2) (by omega) (by omega)) ?_)
   rintro _ w ⟨rfl, Hc⟩
   replace H : Hp _ w _ ([_, _]) := H.call Hc
   clear Hc
   refine ⟨H.sub (.cons_cons _ (List.nil_sublist _)), ?_⟩
   replace HS := H.sub (.cons_cons _ (List.nil_sublist _))
   refine t_step 6 rfl (by kernel_rfl) (o_callR Try.func55 rfl rfl rfl (eight_ret _ (zigU (c.2))) ?_)
   rintro _ w ⟨a3, c4, rfl, Hc⟩
   replace H : Hp _ w _ ([_, _, .own a3 8 c4 ((be (zigU (c.2)).toNat 8).map V8) 5 1]) := H.call Hc
   clear Hc
   refine ⟨H.sub (.cons_cons _ (List.nil_sublist _)), ?_⟩
   replace HS := H.sub (.cons_cons _ (List.nil_sublist _))
   refine t_step 7 rfl (by kernel_rfl) (o_appB (s := ⟨hd a3, 8, c4, be (zigU (c.2)).toNat 8⟩) (l' := [c.1] ++ (be (zigU (c.2)).toNat 8)) (len' := 9) rfl rfl H (i := 1) rfl sl29 Try.underlying29 rfl rfl (H.slOwn (i := 2) rfl) (by omega) (fun a5 c6 w H => ?_))
   replace H : Hp _ w _ ([_, .own a5 9 c6 (([c.1] ++ (be (zigU (c.2)).toNat 8)).map V8) 5 1, _]) := H
   refine ⟨H.sub (.cons_cons _ (List.nil_sublist _)), ?_⟩
   replace HS := H.sub (.cons_cons _ (List.nil_sublist _))
   refine t_take 8 rfl (by kernel_rfl) (by kernel_rfl) (by kernel_rfl) (fun _ _ _ h => h) (fun w HS => r_as) HS ?_
   refine t_done (by kernel_rfl) ?_
   clear HS
   refine c_ret ?_
   try dsimp only [Exit.then, Exit.inBlock]
   refine e_ret1 (v := .slice (hd a5) 9 c6) Try.results120 rfl ?_
   refine ⟨_, rfl, ?_⟩
   exact ⟨_, _, rfl, H.sub (.cons _ (.cons_cons _ (List.nil_sublist _)))⟩
  ·
   refine (o_callR Try.func142 rfl rfl rfl (zig1_ret _ (c.2) (by omega) (by omega)) ?_)
   rintro _ w ⟨rfl, Hc⟩
   replace H : Hp _ w _ ([_]) := H.call Hc
   clear Hc
   refine ⟨H, ?_⟩
   replace HS := H
   refine t_all [2, 6] (by kernel_rfl) (by simp) (all_cons (w_op 2 rfl ?_) (all_cons (w_op 6 rfl ?_) (all_nil)))
   ·
    refine (o_bslB ([c.1]) H sl29 zc5 rfl rfl (by decide) (fun b7 w H hb7 => ?_))
    replace H : Hp _ w _ ([_, .own (some b7) 1 1 (([c.1]).map V8) 5 1]) := H
    refine ⟨H.sub (.cons_cons _ (List.nil_sublist _)), ?_⟩
    replace HS := H.sub (.cons_cons _ (List.nil_sublist _))
    refine t_step 6 rfl (by kernel_rfl) (o_callR Try.func55 rfl rfl rfl (eight_ret _ (zigU (c.2))) ?_)
    rintro _ w ⟨a8, c9, rfl, Hc⟩
    replace H : Hp _ w _ ([_, _, .own a8 8 c9 ((be (zigU (c.2)).toNat 8).map V8) 5 1]) := H.call Hc
    clear Hc
    refine ⟨H.sub (.cons_cons _ (List.nil_sublist _)), ?_⟩
    replace HS := H.sub (.cons_cons _ (List.nil_sublist _))
    refine t_step 7 rfl (by kernel_rfl) (o_appB (s := ⟨hd a8, 8, c9, be (zigU (c.2)).toNat 8⟩) (l' := [c.1] ++ (be (zigU (c.2)).toNat 8)) (len' := 9) rfl rfl H (i := 1) rfl sl29 Try.underlying29 rfl rfl (H.slOwn (i := 2) rfl) (by omega) (fun a10 c11 w H => ?_))
    replace H : Hp _ w _ ([_, .own a10 9 c11 (([c.1] ++ (be (zigU (c.2)).toNat 8)).map V8) 5 1, _]) := H
    refine ⟨H.sub (.cons_cons _ (List.nil_sublist _)), ?_⟩
    replace HS := H.sub (.cons_cons _ (List.nil_sublist _))
    refine t_take 8 rfl (by kernel_rfl) (by kernel_rfl) (by kernel_rfl) (fun _ _ _ h => h) (fun w HS => r_as) HS ?_
    refine t_done (by kernel_rfl) ?_
    clear HS
    refine c_ret ?_
    try dsimp only [Exit.then, Exit.inBlock]
    refine e_ret1 (v := .slice (hd a10) 9 c11) Try.results120 rfl ?_
    refine ⟨_, rfl, ?_⟩
    exact ⟨_, _, rfl, H.sub (.cons _ (.cons_cons _ (List.nil_sublist _)))⟩
   ·
    refine (o_callR Try.func55 rfl rfl rfl (eight_ret _ (zigU (c.2))) ?_)
    rintro _ w ⟨a12, c13, rfl, Hc⟩
    replace H : Hp _ w _ ([_, .own a12 8 c13 ((be (zigU (c.2)).toNat 8).map V8) 5 1]) := H.call Hc
    clear Hc
    refine ⟨H.sub (.cons_cons _ (List.nil_sublist _)), ?_⟩
    replace HS := H.sub (.cons_cons _ (List.nil_sublist _))
    refine t_step 2 rfl (by kernel_rfl) (o_bslB ([c.1]) H sl29 zc5 rfl rfl (by decide) (fun b14 w H hb14 => ?_))
    replace H : Hp _ w _ ([_, _, .own (some b14) 1 1 (([c.1]).map V8) 5 1]) := H
    refine ⟨H.sub (.cons_cons _ (List.nil_sublist _)), ?_⟩
    replace HS := H.sub (.cons_cons _ (List.nil_sublist _))
    refine t_step 7 rfl (by kernel_rfl) (o_appB (s := ⟨hd a12, 8, c13, be (zigU (c.2)).toNat 8⟩) (l' := [c.1] ++ (be (zigU (c.2)).toNat 8)) (len' := 9) rfl rfl H (i := 2) rfl sl29 Try.underlying29 rfl rfl (H.slOwn (i := 1) rfl) (by omega) (fun a15 c16 w H => ?_))
    replace H : Hp _ w _ ([_, _, .own a15 9 c16 (([c.1] ++ (be (zigU (c.2)).toNat 8)).map V8) 5 1]) := H
    refine ⟨H.sub (.cons_cons _ (List.nil_sublist _)), ?_⟩
    replace HS := H.sub (.cons_cons _ (List.nil_sublist _))
    refine t_take 8 rfl (by kernel_rfl) (by kernel_rfl) (by kernel_rfl) (fun _ _ _ h => h) (fun w HS => r_as) HS ?_
    refine t_done (by kernel_rfl) ?_
    clear HS
    refine c_ret ?_
    try dsimp only [Exit.then, Exit.inBlock]
    refine e_ret1 (v := .slice (hd a15) 9 c16) Try.results120 rfl ?_
    refine ⟨_, rfl, ?_⟩
    exact ⟨_, _, rfl, H.sub (.cons _ (.cons _ (.cons_cons _ (List.nil_sublist _))))⟩
theorem head14_ret (w0 : World) (t : Tok) (_hc : t.cs.ok cavE 2 w0) (_htag : t.tag.length = 32) (hn : t.tenant.length ≤ 65536) (hb : t.bd) :
    Ret Try.prog 126 [.agg ([V64 t.serial, .string ⟨(t.tenant).toArray⟩, V8 t.rights, VI t.from_, VI t.until_, t.cs.v] ++ (t.tag).map V8).toArray] w0 fun v w' => ∃ a n c, v = .slice (hd a) n c ∧ n ≤ t.tenant.length + 64 ∧ t.head.length = n ∧ Hp w0 w' [] [.own a n c (t.head.map V8) 5 1] := by
  refine ret_mk Try.func126 rfl Try.ntmps126 (by simp) ?_
  have H := Hp.refl w0 []
  have hbf := hb.f
  have hbu := hb.u
  repeat refine c_seq ?_
  refine c_region ?_
  refine l_op (o_box (v := .agg ([V64 t.serial, .string ⟨(t.tenant).toArray⟩, V8 t.rights, VI t.from_, VI t.until_, t.cs.v] ++ (t.tag).map V8).toArray) H rfl (fun b1 w H hb1 => ?_))
  replace H : Hp _ w _ ([.blk b1 ([V64 t.serial, .string ⟨(t.tenant).toArray⟩, V8 t.rights, VI t.from_, VI t.until_, t.cs.v] ++ (t.tag).map V8) 76]) := H
  refine l_op (o_val (r_as) ?_)
  first | refine l_end ?_ | refine l_nil ?_
  repeat refine c_seq ?_
  refine c_region ?_
  refine l_op (o_val (r_fa rfl fo76_0) ?_)
  refine l_op (o_val (r_ld (v := V64 t.serial) H (i := 0) rfl rfl ct35 rfl) ?_)
  refine l_op (o_callR Try.func55 rfl rfl rfl (eight_ret _ (t.serial)) ?_)
  rintro _ w ⟨a2, c3, rfl, Hc⟩
  replace H : Hp _ w _ ([_, .own a2 8 c3 ((be (t.serial).toNat 8).map V8) 5 1]) := H.call Hc
  clear Hc
  refine l_op (o_val (r_as) ?_)
  first | refine l_end ?_ | refine l_nil ?_
  repeat refine c_seq ?_
  refine c_region ?_
  refine l_op (o_val (r_mv) ?_)
  refine l_op (o_val (r_fa rfl fo76_1) ?_)
  refine l_op (o_val (r_ld (v := .string ⟨(t.tenant).toArray⟩) H (i := 0) rfl rfl ct9 rfl) ?_)
  refine l_op (o_s2B (l := t.tenant) H Try.underlying9 Try.underlying29 Try.underlying5 rfl (by omega) (fun b4 c5 ob6 w H hb4 hr7 => ?_))
  replace H : Hp _ w _ ([_, _, .obj b4 ob6]) := H
  refine l_op (o_callR Try.func145 rfl rfl rfl (text1_ret _ ⟨hd a2, 8, c3, be (t.serial).toNat 8⟩ (⟨some ⟨b4, 0, none⟩, (t.tenant).length, c5, t.tenant⟩ : Sl) (H.slOwn (i := 1) rfl) (hr7 _ (H.has (.obj b4 ob6) (by simp))) (by (try simp only []); omega) (by (try simp only []); omega)) ?_)
  rintro _ w ⟨a8, n9, c10, rfl, hn11, Hc⟩
  replace H : Hp _ w _ ([_, _, _, .own a8 n9 c10 ((be (t.serial).toNat 8 ++ cnt ((t.tenant).length) ++ t.tenant).map V8) 5 1]) := H.call Hc
  clear Hc
  try dsimp only at hn11
  refine l_op (o_val (r_mv) ?_)
  refine l_op (o_val (r_ext rfl rfl) ?_)
  refine l_op (o_val (r_ext rfl rfl) ?_)
  refine l_op (o_val (r_as) ?_)
  first | refine l_end ?_ | refine l_nil ?_
  repeat refine c_seq ?_
  refine c_region ?_
  refine l_op (o_val (r_mv) ?_)
  refine l_op (o_val (r_fa rfl fo76_2) ?_)
  refine l_op (o_val (r_ld (v := V8 t.rights) H (i := 0) rfl rfl ct73 rfl) ?_)
  refine l_op (o_bslB ([t.rights]) H sl29 zc5 rfl rfl (by decide) (fun b12 w H hb12 => ?_))
  replace H : Hp _ w _ ([_, _, _, _, .own (some b12) 1 1 (([t.rights]).map V8) 5 1]) := H
  refine l_op (o_appB (s := ⟨hd (some b12), 1, 1, [t.rights]⟩) (l' := be (t.serial).toNat 8 ++ cnt ((t.tenant).length) ++ t.tenant ++ ([t.rights])) (len' := n9 + 1) rfl rfl H (i := 3) rfl sl29 Try.underlying29 rfl rfl (H.slOwn (i := 4) rfl) (by omega) (fun a13 c14 w H => ?_))
  replace H : Hp _ w _ ([_, _, _, .own a13 (n9 + 1) c14 ((be (t.serial).toNat 8 ++ cnt ((t.tenant).length) ++ t.tenant ++ ([t.rights])).map V8) 5 1, _]) := H
  refine l_op (o_val (r_as) ?_)
  first | refine l_end ?_ | refine l_nil ?_
  repeat refine c_seq ?_
  refine c_region ?_
  refine l_op (o_val (r_mv) ?_)
  refine l_op (o_val (r_fa rfl fo76_3) ?_)
  refine l_op (o_val (r_ld (v := VI t.from_) H (i := 0) rfl rfl ct2 rfl) ?_)
  refine l_op (o_callR Try.func142 rfl rfl rfl (zig1_ret _ (t.from_) (by omega) (by omega)) ?_)
  rintro _ w ⟨rfl, Hc⟩
  replace H : Hp _ w _ ([_, _, _, _, _]) := H.call Hc
  clear Hc
  refine l_op (o_callR Try.func55 rfl rfl rfl (eight_ret _ (zigU (t.from_))) ?_)
  rintro _ w ⟨a15, c16, rfl, Hc⟩
  replace H : Hp _ w _ ([_, _, _, _, _, .own a15 8 c16 ((be (zigU (t.from_)).toNat 8).map V8) 5 1]) := H.call Hc
  clear Hc
  refine l_op (o_appB (s := ⟨hd a15, 8, c16, be (zigU (t.from_)).toNat 8⟩) (l' := be (t.serial).toNat 8 ++ cnt ((t.tenant).length) ++ t.tenant ++ ([t.rights]) ++ (be (zigU (t.from_)).toNat 8)) (len' := n9 + 1 + 8) rfl rfl H (i := 3) rfl sl29 Try.underlying29 rfl rfl (H.slOwn (i := 5) rfl) (by omega) (fun a17 c18 w H => ?_))
  replace H : Hp _ w _ ([_, _, _, .own a17 (n9 + 1 + 8) c18 ((be (t.serial).toNat 8 ++ cnt ((t.tenant).length) ++ t.tenant ++ ([t.rights]) ++ (be (zigU (t.from_)).toNat 8)).map V8) 5 1, _, _]) := H
  refine l_op (o_val (r_as) ?_)
  first | refine l_end ?_ | refine l_nil ?_
  repeat refine c_seq ?_
  refine c_region ?_
  refine l_op (o_val (r_mv) ?_)
  refine l_op (o_val (r_fa rfl fo76_4) ?_)
  refine l_op (o_val (r_ld (v := VI t.until_) H (i := 0) rfl rfl ct2 rfl) ?_)
  refine l_op (o_callR Try.func142 rfl rfl rfl (zig1_ret _ (t.until_) (by omega) (by omega)) ?_)
  rintro _ w ⟨rfl, Hc⟩
  replace H : Hp _ w _ ([_, _, _, _, _, _]) := H.call Hc
  clear Hc
  refine l_op (o_callR Try.func55 rfl rfl rfl (eight_ret _ (zigU (t.until_))) ?_)
  rintro _ w ⟨a19, c20, rfl, Hc⟩
  replace H : Hp _ w _ ([_, _, _, _, _, _, .own a19 8 c20 ((be (zigU (t.until_)).toNat 8).map V8) 5 1]) := H.call Hc
  clear Hc
  refine l_op (o_appB (s := ⟨hd a19, 8, c20, be (zigU (t.until_)).toNat 8⟩) (l' := be (t.serial).toNat 8 ++ cnt ((t.tenant).length) ++ t.tenant ++ ([t.rights]) ++ (be (zigU (t.from_)).toNat 8) ++ (be (zigU (t.until_)).toNat 8)) (len' := n9 + 1 + 8 + 8) rfl rfl H (i := 3) rfl sl29 Try.underlying29 rfl rfl (H.slOwn (i := 6) rfl) (by omega) (fun a21 c22 w H => ?_))
  replace H : Hp _ w _ ([_, _, _, .own a21 (n9 + 1 + 8 + 8) c22 ((be (t.serial).toNat 8 ++ cnt ((t.tenant).length) ++ t.tenant ++ ([t.rights]) ++ (be (zigU (t.from_)).toNat 8) ++ (be (zigU (t.until_)).toNat 8)).map V8) 5 1, _, _, _]) := H
  refine l_op (o_val (r_as) ?_)
  first | refine l_end ?_ | refine l_nil ?_
  refine c_ret ?_
  try dsimp only [Exit.then, Exit.inBlock]
  refine e_ret1 (v := .slice (hd a21) (n9 + 1 + 8 + 8) c22) Try.results126 rfl ?_
  refine ⟨_, rfl, ?_⟩
  have e : be (t.serial).toNat 8 ++ cnt ((t.tenant).length) ++ t.tenant ++ ([t.rights]) ++ (be (zigU (t.from_)).toNat 8) ++ (be (zigU (t.until_)).toNat 8) = t.head := by simp [Tok.head, headB, timeB]
  rw [e] at H
  have hh := (H.ownLen (i := 3) rfl).1
  exact ⟨_, _, _, rfl, by omega, by simpa using hh, H.sub (.cons _ (.cons _ (.cons _ (.cons_cons _ (List.nil_sublist _)))))⟩
end Go.Proofs.Ytjmbbhnpfmblpaa
namespace Go.Proofs.Ytjmbbhnpfmblpaa
open Go Go.ChangeShapes Go.WideShapes Go.ChangeAt Go.RowKit Go.Deep Go.ChangeMaps
set_option maxRecDepth 100000
section
variable {H : Type} {enc : TypeId × Value → H} {W : World} {base : Nat} {spare : Nat → Bool} {held : Bool}
theorem open_rowsP {P : Program} {α : Type} [Inhabited α] {p : α → Prop} {en : α → List Value} {sz : Nat} {t e : TypeId} {fuel : Nat} {cs : List Value} {x : DataW H × List MemPlace} (ht : P.underlying t = some (.slice e)) (hsz : P.cellsOf e = sz) (hz : 0 < sz)
    (hrow : ∀ (fuel : Nat) (cs : List Value) (x : DataW H × List MemPlace), DataW.trod enc P W base spare held fuel e cs = some x → ∃ c : α, cs = en c ∧ (en c).length = sz ∧ p c)
    (h : DataW.trod enc P W base spare held fuel t cs = some x) : ∃ g : Gl α, cs = [g.v] ∧ g.ok en sz W ∧ ∀ c ∈ g.l, p c := by
  rcases DataW.trod_slice ht h with ⟨rfl, _⟩ | ⟨a, len, cap, elems, rest, n, _, rfl, _, _, hl, hm, hlen, hel, _, _⟩
  · exact ⟨⟨none, 0, 0, []⟩, rfl, Gl.ok_nil _, fun _ h => by cases h⟩
  · have hs : ∀ i, i < len → ∃ c : α, (∀ j v, (en c)[j]? = some v → W.cell? (a.add (i * sz + j)) = some v) ∧ (en c).length = sz ∧ p c := by
      intro i hi
      have h1 := hel i hi
      rw [List.getElem?_eq_getElem (by omega), hsz] at h1
      obtain ⟨cs, hcs, htr⟩ := Option.bind_eq_some_iff.1 h1
      obtain ⟨c, rfl, hc⟩ := hrow _ _ _ htr
      refine ⟨c, fun j v hv => ?_, hc⟩
      have hlt : j < sz := by rw [← hc.1]; exact (List.getElem?_eq_some_iff.1 hv).1
      obtain ⟨_, _, hq⟩ := World.cells?_some hcs
      have := hq j hlt
      rw [hv, Addr.add_add] at this
      exact this
    obtain ⟨F, hF⟩ := choose_lt (α := α) (p := fun i c => (∀ j v, (en c)[j]? = some v → W.cell? (a.add (i * sz + j)) = some v) ∧ (en c).length = sz ∧ p c) hs
    have hsz' : ∀ c ∈ (List.range len).map F, (en c).length = sz := by
      intro c hc
      simp only [List.mem_map, List.mem_range] at hc
      obtain ⟨i, hi, rfl⟩ := hc
      exact (hF i hi).2.1
    have hall : ∀ c ∈ (List.range len).map F, p c := by
      intro c hc
      simp only [List.mem_map, List.mem_range] at hc
      obtain ⟨i, hi, rfl⟩ := hc
      exact (hF i hi).2.2
    refine ⟨⟨some a, len, cap, (List.range len).map F⟩, rfl, ⟨rd_of_cells fun i v hv => ?_, by simp, hl, hm, hsz'⟩, hall⟩
    have hlt : i < len * sz := by
      have := (List.getElem?_eq_some_iff.1 hv).1
      rw [flat_len hsz'] at this; simpa using this
    have hq : i / sz < len := Nat.div_lt_of_lt_mul (by rw [Nat.mul_comm]; exact hlt)
    have hk : ((List.range len).map F)[i / sz]? = some (F (i / sz)) := by simp [hq]
    have hrow' := flat_at hsz' hk
    have hv' : (en (F (i / sz)))[i % sz]? = some v := by
      rw [← hrow', List.getElem?_take_of_lt (Nat.mod_lt _ hz), List.getElem?_drop, Nat.div_add_mod']
      exact hv
    have := (hF (i / sz) hq).1 _ _ hv'
    rwa [Nat.div_add_mod'] at this
theorem trod_cavb (fuel : Nat) (cs : List Value) (x : DataW H × List MemPlace) (h : DataW.trod enc Try.prog W base spare held fuel 78 cs = some x) : ∃ c : Cav, cs = cavE c ∧ (cavE c).length = 2 ∧ (-9223372036854775808 ≤ c.2 ∧ c.2 ≤ 9223372036854775807) := by
  obtain ⟨y0, y1, n, _, hl, h0, h1⟩ := trod_struct2 Try.underlying78 h
  obtain ⟨u, hu⟩ := open_u8v (t := 73) (by kernel_rfl) h0
  obtain ⟨k, hk, _, wk⟩ := DataW.trod_int (t := 2) (k := .i64) (by kernel_rfl) h1
  rw [cellsCav] at hl
  have e1 : Try.prog.cellsOf 73 = 1 := by kernel_rfl
  have e2 : Try.prog.cellsOf 2 = 1 := by kernel_rfl
  simp only [e1, e2] at hu hk
  refine ⟨(u, k), ?_, rfl, bounds_i64 wk⟩
  match cs, hl with
  | [a, b], _ =>
    simp at hu hk
    simp [cavE, hu, hk]
theorem trod_tokb {fuel : Nat} {cs : List Value} {x : DataW H × List MemPlace} (h : DataW.trod enc Try.prog W base spare held fuel 76 cs = some x) :
    ∃ t : Tok, cs = [V64 t.serial, .string ⟨t.tenant.toArray⟩, V8 t.rights, VI t.from_, VI t.until_, t.cs.v] ++ t.tag.map V8 ∧ t.cs.ok cavE 2 W ∧ t.tag.length = 32 ∧ t.bd := by
  obtain ⟨xs, n, _, _, hl, hx, hi⟩ := DataW.trod_struct Try.underlying76 h
  have hs : ∀ i, i < 7 → ∃ y, xs[i]? = some y := fun i hi => ⟨_, List.getElem?_eq_getElem (by rw [hx]; exact hi)⟩
  obtain ⟨y0, e0⟩ := hs 0 (by decide)
  obtain ⟨y1, e1⟩ := hs 1 (by decide)
  obtain ⟨y2, e2⟩ := hs 2 (by decide)
  obtain ⟨y3, e3⟩ := hs 3 (by decide)
  obtain ⟨y4, e4⟩ := hs 4 (by decide)
  obtain ⟨y5, e5⟩ := hs 5 (by decide)
  obtain ⟨y6, e6⟩ := hs 6 (by decide)
  have h0 := (hi 0 _ rfl).trans e0
  have h1 := (hi 1 _ rfl).trans e1
  have h2 := (hi 2 _ rfl).trans e2
  have h3 := (hi 3 _ rfl).trans e3
  have h4 := (hi 4 _ rfl).trans e4
  have h5 := (hi 5 _ rfl).trans e5
  have h6 := (hi 6 _ rfl).trans e6
  obtain ⟨a0, q0⟩ := open_u64v (t := 35) (by kernel_rfl) h0
  obtain ⟨a1, q1, _, _⟩ := DataW.trod_string (t := 9) (by kernel_rfl) h1
  obtain ⟨a2, q2⟩ := open_u8v (t := 73) (by kernel_rfl) h2
  obtain ⟨a3, q3, _, w3⟩ := DataW.trod_int (t := 2) (k := .i64) (by kernel_rfl) h3
  obtain ⟨a4, q4, _, w4⟩ := DataW.trod_int (t := 2) (k := .i64) (by kernel_rfl) h4
  obtain ⟨a5, q5, ok5, b5⟩ := open_rowsP Try.underlying74 cellsCav (by decide) trod_cavb h5
  obtain ⟨a6, q6, l6⟩ := trod_id h6
  have f1 : Try.prog.cellsOf 35 = 1 := by kernel_rfl
  have f2 : Try.prog.cellsOf 9 = 1 := by kernel_rfl
  have f3 : Try.prog.cellsOf 73 = 1 := by kernel_rfl
  have f4 : Try.prog.cellsOf 2 = 1 := by kernel_rfl
  have f5 : Try.prog.cellsOf 74 = 1 := by kernel_rfl
  have f7 : Try.prog.cellsOf 76 = 38 := by kernel_rfl
  replace q0 : (cs.drop 0).take (Try.prog.cellsOf 35) = _ := q0
  rw [f1] at q0
  replace q1 : (cs.drop 1).take (Try.prog.cellsOf 9) = _ := q1
  rw [f2] at q1
  replace q2 : (cs.drop 2).take (Try.prog.cellsOf 73) = _ := q2
  rw [f3] at q2
  replace q3 : (cs.drop 3).take (Try.prog.cellsOf 2) = _ := q3
  rw [f4] at q3
  replace q4 : (cs.drop 4).take (Try.prog.cellsOf 2) = _ := q4
  rw [f4] at q4
  replace q5 : (cs.drop 5).take (Try.prog.cellsOf 74) = _ := q5
  rw [f5] at q5
  replace q6 : (cs.drop 6).take (Try.prog.cellsOf 31) = _ := q6
  rw [cellsId] at q6
  rw [f7] at hl
  have s : ∀ k v, (cs.drop k).take 1 = [v] → cs.drop k = v :: cs.drop (k + 1) := fun k v h => by
    have := List.take_append_drop 1 (cs.drop k)
    rw [h, List.drop_drop] at this
    exact this.symm
  refine ⟨⟨a0, a1.data.toList, a2, a3, a4, a5, a6⟩, ?_, ok5, l6, ⟨bounds_i64 w3, bounds_i64 w4, b5⟩⟩
  have z : cs.drop 0 = [V64 a0, .string a1, V8 a2, VI a3, VI a4, a5.v] ++ a6.map V8 := by
    rw [s 0 _ q0, s (0 + 1) _ q1, s (0 + 1 + 1) _ q2, s (0 + 1 + 1 + 1) _ q3, s (0 + 1 + 1 + 1 + 1) _ q4, s (0 + 1 + 1 + 1 + 1 + 1) _ q5, ← q6, List.take_of_length_le (by simp; omega)]
    rfl
  rw [List.drop_zero] at z
  exact z
theorem open_tokb {base0 : Nat} {v : Value} {d : DataW H} {p : List MemPlace} (_ : Value.okWide Try.prog W .any base0 76 v) (h : DataW.Trod enc Try.prog W base spare held 76 v d p) :
    ∃ t : Tok, v = .agg ([V64 t.serial, .string ⟨t.tenant.toArray⟩, V8 t.rights, VI t.from_, VI t.until_, t.cs.v] ++ t.tag.map V8).toArray ∧ t.cs.ok cavE 2 W ∧ t.tag.length = 32 ∧ t.bd := by
  obtain ⟨fuel, hf⟩ := h
  obtain ⟨t, ht, h1, h2⟩ := trod_tokb hf
  exact ⟨t, open_agg ht (by simp), h1, h2⟩
end
end Go.Proofs.Ytjmbbhnpfmblpaa
namespace Go.Proofs.Ytjmbbhnpfmblpaa
open Go
set_option maxRecDepth 100000
/-- a token as data. -/
structure TV where
  serial : UInt64
  tenant : List UInt8
  rights : UInt8
  from_ : Int
  until_ : Int
  cs : List Cav
  tag : List UInt8
deriving DecidableEq
def Tok.tv (t : Tok) : TV := ⟨t.serial, t.tenant, t.rights, t.from_, t.until_, t.cs.l, t.tag⟩
def TV.may (t : TV) : Bool := (decide (t.tenant = []) || nameMay t.tenant) && rMay t.rights && decide (t.cs.length ≤ 8) && t.cs.all fun c => rMay c.1
def TV.bytes (t : TV) : List UInt8 := [1] ++ headB t.serial t.tenant t.rights t.from_ t.until_ ++ [UInt8.ofNat t.cs.length] ++ cavsB t.cs ++ t.tag
def i64in (v : Int) : Prop := -9223372036854775808 ≤ v ∧ v ≤ 9223372036854775807
/-- what a token's data may be in a program. -/
structure TV.fits (t : TV) : Prop where
  f : i64in t.from_
  u : i64in t.until_
  c : ∀ c ∈ t.cs, i64in c.2
  tag : t.tag.length = 32
/-- where a token's parts stand. -/
def tkN (b : List UInt8) : Nat := (b.getD 9 0).toNat
def tkK (b : List UInt8) : Nat := (b.getD (27 + tkN b) 0).toNat
def tkShape (b : List UInt8) : Prop := tkN b ≤ 16 ∧ 60 + tkN b ≤ b.length ∧ tkK b ≤ 8 ∧ b.length = 60 + tkN b + 9 * tkK b
instance (b : List UInt8) : Decidable (tkShape b) := by unfold tkShape; infer_instance
end Go.Proofs.Ytjmbbhnpfmblpaa
namespace Go.Proofs.Ytjmbbhnpfmblpaa
open Go Go.ChangeShapes Go.WideShapes Go.ChangeAt Go.RowKit Go.Deep Go.ChangeMaps
set_option maxRecDepth 100000
section
variable {H : Type} {enc : TypeId × Value → H} {W : World} {base : Nat} {spare : Nat → Bool} {held : Bool}
theorem open_cav1 {base0 : Nat} {v : Value} {d : DataW H} {p : List MemPlace} (_ : Value.okWide Try.prog W .any base0 78 v) (h : DataW.Trod enc Try.prog W base spare held 78 v d p) :
    ∃ c : Cav, v = .agg (cavE c).toArray ∧ i64in c.2 := by
  obtain ⟨fuel, hf⟩ := h
  obtain ⟨c, hc, h1, h2⟩ := trod_cavb _ _ _ hf
  exact ⟨c, open_agg hc (by rw [h1]; decide), h2⟩
end
end Go.Proofs.Ytjmbbhnpfmblpaa
namespace Go.Proofs.Ytjmbbhnpfmblpaa
open Go
set_option maxRecDepth 100000
/-- a twin: where it stands. -/
def Sl.at (t : Sl) : Prop := ∃ b, t.a = some ⟨b, 0, none⟩ ∧ t.l.length = t.len ∧ t.cap = t.len + 3 ∧ t.len ≤ 1048576
end Go.Proofs.Ytjmbbhnpfmblpaa
namespace Go.Proofs.Ytjmbbhnpfmblpaa
open Go
set_option maxRecDepth 100000
theorem checkT_own (key : List UInt8) (t : Tok) (now : Int) (hm : mayT t = true) (ht : onF (hmac key (framed [t.head])) t.cs.l = t.tag) : checkT key t now = if now < t.from_ ∨ (effF t.rights t.until_ t.cs.l).2 ≤ now then 14 else 0 := by
  rw [checkT, if_neg (by rw [hm]; decide), if_neg (not_not_intro ht)]
theorem checkT_iff (key : List UInt8) (t : Tok) (now : Int) (hm : mayT t = true) (ht : onF (hmac key (framed [t.head])) t.cs.l = t.tag) : (checkT key t now = 0 ∨ checkT key t now = 14) ∧ (checkT key t now = 0 ↔ t.from_ ≤ now ∧ now < (effF t.rights t.until_ t.cs.l).2) := by
  rw [checkT_own key t now hm ht]
  by_cases h : now < t.from_ ∨ (effF t.rights t.until_ t.cs.l).2 ≤ now
  · rw [if_pos h]; exact ⟨.inr rfl, by constructor <;> intro h2 <;> omega⟩
  · rw [if_neg h]; exact ⟨.inl rfl, by constructor <;> intro h2 <;> omega⟩
theorem begun14_ret (w0 : World) :
    Ret Try.prog 65 [] w0 fun v w' => v = .bool true ∧ Hp w0 w' [] [] := by
  refine ret_mk Try.func65 rfl Try.ntmps65 (by simp) ?_
  have H := Hp.refl w0 []
  repeat refine c_seq ?_
  refine c_region ?_
  refine l_op (o_val (r_as) ?_)
  first | refine l_end ?_ | refine l_nil ?_
  repeat refine c_seq ?_
  refine c_region ?_
  refine l_op (o_val (r_bld' (cells := ((((1 : UInt8) :: List.replicate 31 (0 : UInt8))).map V8).toArray) (pv := [(0, V8 (1 : UInt8))]) bd31 rfl rfl) ?_)
  refine l_op (o_alloc H zc31 (fun b1 w H hb1 => ?_))
  replace H : Hp _ w _ ([.blk b1 ((List.replicate 32 (0 : UInt8)).map V8) 31]) := H
  refine l_op (o_stA (l' := ((1 : UInt8) :: List.replicate 31 (0 : UInt8))) H (i := 0) rfl rfl rfl cs31 (show (List.replicate 32 (0 : UInt8)).length = 32 from (List.length_replicate ..)) (show (((1 : UInt8) :: List.replicate 31 (0 : UInt8))).length = 32 from rfl) (fun w H => ?_))
  replace H : Hp _ w _ ([.blk b1 ((((1 : UInt8) :: List.replicate 31 (0 : UInt8))).map V8) 31]) := H
  first | refine l_end ?_ | refine l_nil ?_
  repeat refine c_seq ?_
  refine c_region ?_
  refine l_op (o_val (r_ldAA (l := ((1 : UInt8) :: List.replicate 31 (0 : UInt8))) H (i := 0) rfl rfl rt31 (show (((1 : UInt8) :: List.replicate 31 (0 : UInt8))).length = 32 from rfl)) ?_)
  refine l_op (o_val (r_bld' (cells := ([V64 (1 : UInt64), .string ⟨(([] : List UInt8)).toArray⟩, V8 (7 : UInt8), VI 0, VI 9, .slice none 0 0] ++ (List.replicate 32 (0 : UInt8)).map V8).toArray) (pv := [(0, V64 (1 : UInt64)), (2, V8 (7 : UInt8)), (4, VI 9)]) bd76 rfl rfl) ?_)
  refine l_op (o_callR Try.func68 rfl rfl rfl (issue_ok _ (((1 : UInt8) :: List.replicate 31 (0 : UInt8))) (show (((1 : UInt8) :: List.replicate 31 (0 : UInt8))).length = 32 from rfl) (⟨(1 : UInt64), ([] : List UInt8), (7 : UInt8), 0, 9, ⟨none, 0, 0, []⟩, List.replicate 32 (0 : UInt8)⟩ : Tok) (Gl.ok_nil _) (show (List.replicate 32 (0 : UInt8)).length = 32 from (List.length_replicate ..)) (by first | omega | (dsimp only; omega) | simp) (by first | rfl | (simp [mayT]; decide)) rfl) ?_)
  rintro _ w ⟨rfl, Hc⟩
  replace H : Hp _ w _ ([_]) := H.call Hc
  clear Hc
  refine l_op (o_val (r_mv) ?_)
  refine l_op (o_val (r_ext rfl rfl) ?_)
  refine l_op (o_val (r_ext rfl rfl) ?_)
  refine l_op (o_alloc H zc76 (fun b2 w H hb2 => ?_))
  replace H : Hp _ w _ ([_, .blk b2 ([V64 (0 : UInt64), .string ⟨(([] : List UInt8)).toArray⟩, V8 (0 : UInt8), VI 0, VI 0, .slice none 0 0] ++ (List.replicate 32 (0 : UInt8)).map V8) 76]) := H
  refine l_op (o_stW (C' := [V64 (1 : UInt64), .string ⟨(([] : List UInt8)).toArray⟩, V8 (7 : UInt8), VI 0, VI 9, .slice none 0 0] ++ (hmac (((1 : UInt8) :: List.replicate 31 (0 : UInt8))) (framed [headB ((1 : UInt64)) (([] : List UInt8)) ((7 : UInt8)) (0) (9)])).map V8) H (i := 1) rfl rfl rfl cs76 (by simp [Value.oneCell']) (by rw [List.length_append, List.length_map, (show (List.replicate 32 (0 : UInt8)).length = 32 from (List.length_replicate ..))]; rfl) (by rw [List.length_append, List.length_map, (show (hmac (((1 : UInt8) :: List.replicate 31 (0 : UInt8))) (framed [headB ((1 : UInt64)) (([] : List UInt8)) ((7 : UInt8)) (0) (9)])).length = 32 from hmac_len _ _)]; rfl) (fun w H => ?_))
  replace H : Hp _ w _ ([_, .blk b2 ([V64 (1 : UInt64), .string ⟨(([] : List UInt8)).toArray⟩, V8 (7 : UInt8), VI 0, VI 9, .slice none 0 0] ++ (hmac (((1 : UInt8) :: List.replicate 31 (0 : UInt8))) (framed [headB ((1 : UInt64)) (([] : List UInt8)) ((7 : UInt8)) (0) (9)])).map V8) 76]) := H
  refine l_op (o_val (r_as) ?_)
  first | refine l_end ?_ | refine l_nil ?_
  repeat refine c_seq ?_
  refine c_region ?_
  refine l_op (o_val (r_ldA (C := [V64 (1 : UInt64), .string ⟨(([] : List UInt8)).toArray⟩, V8 (7 : UInt8), VI 0, VI 9, .slice none 0 0] ++ (hmac (((1 : UInt8) :: List.replicate 31 (0 : UInt8))) (framed [headB ((1 : UInt64)) (([] : List UInt8)) ((7 : UInt8)) (0) (9)])).map V8) H (i := 1) rfl rfl rt76 (by rw [List.length_append, List.length_map, (show (hmac (((1 : UInt8) :: List.replicate 31 (0 : UInt8))) (framed [headB ((1 : UInt64)) (([] : List UInt8)) ((7 : UInt8)) (0) (9)])).length = 32 from hmac_len _ _)]; rfl)) ?_)
  refine l_op (o_val (r_bld' (cells := ([V8 (1 : UInt8), VI 5]).toArray) (pv := [(0, V8 (1 : UInt8)), (1, VI 5)]) bd78 rfl rfl) ?_)
  refine l_op (o_callR Try.func70 rfl rfl rfl (less_ok _ (⟨(1 : UInt64), ([] : List UInt8), (7 : UInt8), 0, 9, ⟨none, 0, 0, []⟩, hmac (((1 : UInt8) :: List.replicate 31 (0 : UInt8))) (framed [headB ((1 : UInt64)) (([] : List UInt8)) ((7 : UInt8)) (0) (9)])⟩ : Tok) ((1 : UInt8), 5) (Gl.ok_nil _) (show (hmac (((1 : UInt8) :: List.replicate 31 (0 : UInt8))) (framed [headB ((1 : UInt64)) (([] : List UInt8)) ((7 : UInt8)) (0) (9)])).length = 32 from hmac_len _ _) (by first | omega | (dsimp only; omega) | simp) (by first | rfl | (simp [mayT]; decide)) (by rfl) (by first | omega | (dsimp only; omega) | simp)) ?_)
  rintro _ w ⟨a3, c4, rfl, Hc⟩
  replace H : Hp _ w _ ([_, _, .own a3 (0 + 1) c4 ((([] : List Cav) ++ [((1 : UInt8), 5)]).flatMap cavE) 78 2]) := H.call Hc
  clear Hc
  refine l_op (o_val (r_mv) ?_)
  refine l_op (o_val (r_ext rfl rfl) ?_)
  refine l_op (o_val (r_ext rfl rfl) ?_)
  refine l_op (o_alloc H zc76 (fun b5 w H hb5 => ?_))
  replace H : Hp _ w _ ([_, _, _, .blk b5 ([V64 (0 : UInt64), .string ⟨(([] : List UInt8)).toArray⟩, V8 (0 : UInt8), VI 0, VI 0, .slice none 0 0] ++ (List.replicate 32 (0 : UInt8)).map V8) 76]) := H
  refine l_op (o_stW (C' := [V64 (1 : UInt64), .string ⟨(([] : List UInt8)).toArray⟩, V8 (7 : UInt8), VI 0, VI 9, .slice (hd a3) (0 + 1) c4] ++ (onF (hmac (((1 : UInt8) :: List.replicate 31 (0 : UInt8))) (framed [headB ((1 : UInt64)) (([] : List UInt8)) ((7 : UInt8)) (0) (9)])) [((1 : UInt8), 5)]).map V8) H (i := 3) rfl rfl rfl cs76 (by simp [Value.oneCell']) (by rw [List.length_append, List.length_map, (show (List.replicate 32 (0 : UInt8)).length = 32 from (List.length_replicate ..))]; rfl) (by rw [List.length_append, List.length_map, (show (onF (hmac (((1 : UInt8) :: List.replicate 31 (0 : UInt8))) (framed [headB ((1 : UInt64)) (([] : List UInt8)) ((7 : UInt8)) (0) (9)])) [((1 : UInt8), 5)]).length = 32 from onF_len _ (show (hmac (((1 : UInt8) :: List.replicate 31 (0 : UInt8))) (framed [headB ((1 : UInt64)) (([] : List UInt8)) ((7 : UInt8)) (0) (9)])).length = 32 from hmac_len _ _) _)]; rfl) (fun w H => ?_))
  replace H : Hp _ w _ ([_, _, _, .blk b5 ([V64 (1 : UInt64), .string ⟨(([] : List UInt8)).toArray⟩, V8 (7 : UInt8), VI 0, VI 9, .slice (hd a3) (0 + 1) c4] ++ (onF (hmac (((1 : UInt8) :: List.replicate 31 (0 : UInt8))) (framed [headB ((1 : UInt64)) (([] : List UInt8)) ((7 : UInt8)) (0) (9)])) [((1 : UInt8), 5)]).map V8) 76]) := H
  refine l_op (o_val (r_as) ?_)
  first | refine l_end ?_ | refine l_nil ?_
  repeat refine c_seq ?_
  refine c_region ?_
  refine l_op (o_val (r_ldA (C := [V64 (1 : UInt64), .string ⟨(([] : List UInt8)).toArray⟩, V8 (7 : UInt8), VI 0, VI 9, .slice (hd a3) (0 + 1) c4] ++ (onF (hmac (((1 : UInt8) :: List.replicate 31 (0 : UInt8))) (framed [headB ((1 : UInt64)) (([] : List UInt8)) ((7 : UInt8)) (0) (9)])) [((1 : UInt8), 5)]).map V8) H (i := 3) rfl rfl rt76 (by rw [List.length_append, List.length_map, (show (onF (hmac (((1 : UInt8) :: List.replicate 31 (0 : UInt8))) (framed [headB ((1 : UInt64)) (([] : List UInt8)) ((7 : UInt8)) (0) (9)])) [((1 : UInt8), 5)]).length = 32 from onF_len _ (show (hmac (((1 : UInt8) :: List.replicate 31 (0 : UInt8))) (framed [headB ((1 : UInt64)) (([] : List UInt8)) ((7 : UInt8)) (0) (9)])).length = 32 from hmac_len _ _) _)]; rfl)) ?_)
  refine l_op (o_callR Try.func72 rfl rfl rfl (effect_ret _ (⟨(1 : UInt64), ([] : List UInt8), (7 : UInt8), 0, 9, ⟨hd a3, 0 + 1, c4, ([] : List Cav) ++ [((1 : UInt8), 5)]⟩, onF (hmac (((1 : UInt8) :: List.replicate 31 (0 : UInt8))) (framed [headB ((1 : UInt64)) (([] : List UInt8)) ((7 : UInt8)) (0) (9)])) [((1 : UInt8), 5)]⟩ : Tok) (H.glOwn (i := 2) rfl (by decide) (fun _ _ => rfl)) (show (onF (hmac (((1 : UInt8) :: List.replicate 31 (0 : UInt8))) (framed [headB ((1 : UInt64)) (([] : List UInt8)) ((7 : UInt8)) (0) (9)])) [((1 : UInt8), 5)]).length = 32 from onF_len _ (show (hmac (((1 : UInt8) :: List.replicate 31 (0 : UInt8))) (framed [headB ((1 : UInt64)) (([] : List UInt8)) ((7 : UInt8)) (0) (9)])).length = 32 from hmac_len _ _) _)) ?_)
  rintro _ w ⟨rfl, Hc⟩
  replace H : Hp _ w _ ([_, _, _, _]) := H.call Hc
  clear Hc
  refine l_op (o_val (r_mv) ?_)
  refine l_op (o_val (r_ext rfl rfl) ?_)
  refine l_op (o_val (r_ext rfl rfl) ?_)
  refine l_op (o_val (r_as) ?_)
  refine l_op (o_val (r_as) ?_)
  first | refine l_end ?_ | refine l_nil ?_
  have c1 : ∀ n, (checkT (((1 : UInt8) :: List.replicate 31 (0 : UInt8))) (⟨(1 : UInt64), ([] : List UInt8), (7 : UInt8), 0, 9, ⟨none, 0, 0, []⟩, hmac (((1 : UInt8) :: List.replicate 31 (0 : UInt8))) (framed [headB ((1 : UInt64)) (([] : List UInt8)) ((7 : UInt8)) (0) (9)])⟩ : Tok) n = 0 ∨ checkT (((1 : UInt8) :: List.replicate 31 (0 : UInt8))) (⟨(1 : UInt64), ([] : List UInt8), (7 : UInt8), 0, 9, ⟨none, 0, 0, []⟩, hmac (((1 : UInt8) :: List.replicate 31 (0 : UInt8))) (framed [headB ((1 : UInt64)) (([] : List UInt8)) ((7 : UInt8)) (0) (9)])⟩ : Tok) n = 14) ∧ (checkT (((1 : UInt8) :: List.replicate 31 (0 : UInt8))) (⟨(1 : UInt64), ([] : List UInt8), (7 : UInt8), 0, 9, ⟨none, 0, 0, []⟩, hmac (((1 : UInt8) :: List.replicate 31 (0 : UInt8))) (framed [headB ((1 : UInt64)) (([] : List UInt8)) ((7 : UInt8)) (0) (9)])⟩ : Tok) n = 0 ↔ 0 ≤ n ∧ n < 9) := fun n => checkT_iff (((1 : UInt8) :: List.replicate 31 (0 : UInt8))) (⟨(1 : UInt64), ([] : List UInt8), (7 : UInt8), 0, 9, ⟨none, 0, 0, []⟩, hmac (((1 : UInt8) :: List.replicate 31 (0 : UInt8))) (framed [headB ((1 : UInt64)) (([] : List UInt8)) ((7 : UInt8)) (0) (9)])⟩ : Tok) n (by rfl) (by rfl)
  have c2 : ∀ n, (checkT (((1 : UInt8) :: List.replicate 31 (0 : UInt8))) (⟨(1 : UInt64), ([] : List UInt8), (7 : UInt8), 0, 9, ⟨hd a3, 0 + 1, c4, ([] : List Cav) ++ [((1 : UInt8), 5)]⟩, onF (hmac (((1 : UInt8) :: List.replicate 31 (0 : UInt8))) (framed [headB ((1 : UInt64)) (([] : List UInt8)) ((7 : UInt8)) (0) (9)])) [((1 : UInt8), 5)]⟩ : Tok) n = 0 ∨ checkT (((1 : UInt8) :: List.replicate 31 (0 : UInt8))) (⟨(1 : UInt64), ([] : List UInt8), (7 : UInt8), 0, 9, ⟨hd a3, 0 + 1, c4, ([] : List Cav) ++ [((1 : UInt8), 5)]⟩, onF (hmac (((1 : UInt8) :: List.replicate 31 (0 : UInt8))) (framed [headB ((1 : UInt64)) (([] : List UInt8)) ((7 : UInt8)) (0) (9)])) [((1 : UInt8), 5)]⟩ : Tok) n = 14) ∧ (checkT (((1 : UInt8) :: List.replicate 31 (0 : UInt8))) (⟨(1 : UInt64), ([] : List UInt8), (7 : UInt8), 0, 9, ⟨hd a3, 0 + 1, c4, ([] : List Cav) ++ [((1 : UInt8), 5)]⟩, onF (hmac (((1 : UInt8) :: List.replicate 31 (0 : UInt8))) (framed [headB ((1 : UInt64)) (([] : List UInt8)) ((7 : UInt8)) (0) (9)])) [((1 : UInt8), 5)]⟩ : Tok) n = 0 ↔ 0 ≤ n ∧ n < 5) := fun n => checkT_iff (((1 : UInt8) :: List.replicate 31 (0 : UInt8))) (⟨(1 : UInt64), ([] : List UInt8), (7 : UInt8), 0, 9, ⟨hd a3, 0 + 1, c4, ([] : List Cav) ++ [((1 : UInt8), 5)]⟩, onF (hmac (((1 : UInt8) :: List.replicate 31 (0 : UInt8))) (framed [headB ((1 : UInt64)) (([] : List UInt8)) ((7 : UInt8)) (0) (9)])) [((1 : UInt8), 5)]⟩ : Tok) n (by first | rfl | (simp [mayT]; decide)) (by rfl)
  repeat refine c_seq ?_
  refine c_region ?_
  refine l_op (o_val (r_mv) ?_)
  refine l_op (o_val (r_bin (a := 0) (b := 0) rfl rfl (fun _ => b_eqlB true (decide_eq_true (by decide)))) ?_)
  refine l_op (o_val (r_mv) ?_)
  refine l_yes rfl rfl rfl (o_val (r_mv) ?_)
  refine l_yes rfl rfl rfl (o_val (r_bin (a := 0) (b := 0) rfl rfl (fun _ => b_eqlB true (decide_eq_true (by decide)))) ?_)
  refine l_op (o_val (r_pick rfl) ?_)
  refine l_op (o_val (r_mv) ?_)
  refine l_yes rfl rfl rfl (o_val (r_ldAA (l := ((1 : UInt8) :: List.replicate 31 (0 : UInt8))) H (i := 0) rfl rfl rt31 (show (((1 : UInt8) :: List.replicate 31 (0 : UInt8))).length = 32 from rfl)) ?_)
  refine l_yes rfl rfl rfl (o_val (r_ldA (C := [V64 (1 : UInt64), .string ⟨(([] : List UInt8)).toArray⟩, V8 (7 : UInt8), VI 0, VI 9, .slice none 0 0] ++ (hmac (((1 : UInt8) :: List.replicate 31 (0 : UInt8))) (framed [headB ((1 : UInt64)) (([] : List UInt8)) ((7 : UInt8)) (0) (9)])).map V8) H (i := 1) rfl rfl rt76 (by rw [List.length_append, List.length_map, (show (hmac (((1 : UInt8) :: List.replicate 31 (0 : UInt8))) (framed [headB ((1 : UInt64)) (([] : List UInt8)) ((7 : UInt8)) (0) (9)])).length = 32 from hmac_len _ _)]; rfl)) ?_)
  refine l_yes rfl rfl rfl (o_callR Try.func77 rfl rfl rfl (check14_ret _ (((1 : UInt8) :: List.replicate 31 (0 : UInt8))) (show (((1 : UInt8) :: List.replicate 31 (0 : UInt8))).length = 32 from rfl) (⟨(1 : UInt64), ([] : List UInt8), (7 : UInt8), 0, 9, ⟨none, 0, 0, []⟩, hmac (((1 : UInt8) :: List.replicate 31 (0 : UInt8))) (framed [headB ((1 : UInt64)) (([] : List UInt8)) ((7 : UInt8)) (0) (9)])⟩ : Tok) (Gl.ok_nil _) (show (hmac (((1 : UInt8) :: List.replicate 31 (0 : UInt8))) (framed [headB ((1 : UInt64)) (([] : List UInt8)) ((7 : UInt8)) (0) (9)])).length = 32 from hmac_len _ _) (by first | omega | (dsimp only; omega) | simp) (8)) ?_)
  rintro _ w ⟨rfl, Hc⟩
  replace H : Hp _ w _ ([_, _, _, _]) := H.call Hc
  clear Hc
  refine l_yes rfl rfl rfl (o_val (r_bin (a := checkT (((1 : UInt8) :: List.replicate 31 (0 : UInt8))) (⟨(1 : UInt64), ([] : List UInt8), (7 : UInt8), 0, 9, ⟨none, 0, 0, []⟩, hmac (((1 : UInt8) :: List.replicate 31 (0 : UInt8))) (framed [headB ((1 : UInt64)) (([] : List UInt8)) ((7 : UInt8)) (0) (9)])⟩ : Tok) (8)) (b := 0) rfl rfl (fun _ => b_eqlB true (decide_eq_true (by have := c1 8; omega)))) ?_)
  refine l_op (o_val (r_pick rfl) ?_)
  refine l_op (o_val (r_mv) ?_)
  refine l_yes rfl rfl rfl (o_val (r_ldAA (l := ((1 : UInt8) :: List.replicate 31 (0 : UInt8))) H (i := 0) rfl rfl rt31 (show (((1 : UInt8) :: List.replicate 31 (0 : UInt8))).length = 32 from rfl)) ?_)
  refine l_yes rfl rfl rfl (o_val (r_ldA (C := [V64 (1 : UInt64), .string ⟨(([] : List UInt8)).toArray⟩, V8 (7 : UInt8), VI 0, VI 9, .slice none 0 0] ++ (hmac (((1 : UInt8) :: List.replicate 31 (0 : UInt8))) (framed [headB ((1 : UInt64)) (([] : List UInt8)) ((7 : UInt8)) (0) (9)])).map V8) H (i := 1) rfl rfl rt76 (by rw [List.length_append, List.length_map, (show (hmac (((1 : UInt8) :: List.replicate 31 (0 : UInt8))) (framed [headB ((1 : UInt64)) (([] : List UInt8)) ((7 : UInt8)) (0) (9)])).length = 32 from hmac_len _ _)]; rfl)) ?_)
  refine l_yes rfl rfl rfl (o_callR Try.func77 rfl rfl rfl (check14_ret _ (((1 : UInt8) :: List.replicate 31 (0 : UInt8))) (show (((1 : UInt8) :: List.replicate 31 (0 : UInt8))).length = 32 from rfl) (⟨(1 : UInt64), ([] : List UInt8), (7 : UInt8), 0, 9, ⟨none, 0, 0, []⟩, hmac (((1 : UInt8) :: List.replicate 31 (0 : UInt8))) (framed [headB ((1 : UInt64)) (([] : List UInt8)) ((7 : UInt8)) (0) (9)])⟩ : Tok) (Gl.ok_nil _) (show (hmac (((1 : UInt8) :: List.replicate 31 (0 : UInt8))) (framed [headB ((1 : UInt64)) (([] : List UInt8)) ((7 : UInt8)) (0) (9)])).length = 32 from hmac_len _ _) (by first | omega | (dsimp only; omega) | simp) (9)) ?_)
  rintro _ w ⟨rfl, Hc⟩
  replace H : Hp _ w _ ([_, _, _, _]) := H.call Hc
  clear Hc
  refine l_yes rfl rfl rfl (o_val (r_bin (a := checkT (((1 : UInt8) :: List.replicate 31 (0 : UInt8))) (⟨(1 : UInt64), ([] : List UInt8), (7 : UInt8), 0, 9, ⟨none, 0, 0, []⟩, hmac (((1 : UInt8) :: List.replicate 31 (0 : UInt8))) (framed [headB ((1 : UInt64)) (([] : List UInt8)) ((7 : UInt8)) (0) (9)])⟩ : Tok) (9)) (b := 14) rfl rfl (fun _ => b_eqlB true (decide_eq_true (by have := c1 9; omega)))) ?_)
  refine l_op (o_val (r_pick rfl) ?_)
  refine l_op (o_val (r_mv) ?_)
  refine l_yes rfl rfl rfl (o_val (r_ldAA (l := ((1 : UInt8) :: List.replicate 31 (0 : UInt8))) H (i := 0) rfl rfl rt31 (show (((1 : UInt8) :: List.replicate 31 (0 : UInt8))).length = 32 from rfl)) ?_)
  refine l_yes rfl rfl rfl (o_val (r_ldA (C := [V64 (1 : UInt64), .string ⟨(([] : List UInt8)).toArray⟩, V8 (7 : UInt8), VI 0, VI 9, .slice (hd a3) (0 + 1) c4] ++ (onF (hmac (((1 : UInt8) :: List.replicate 31 (0 : UInt8))) (framed [headB ((1 : UInt64)) (([] : List UInt8)) ((7 : UInt8)) (0) (9)])) [((1 : UInt8), 5)]).map V8) H (i := 3) rfl rfl rt76 (by rw [List.length_append, List.length_map, (show (onF (hmac (((1 : UInt8) :: List.replicate 31 (0 : UInt8))) (framed [headB ((1 : UInt64)) (([] : List UInt8)) ((7 : UInt8)) (0) (9)])) [((1 : UInt8), 5)]).length = 32 from onF_len _ (show (hmac (((1 : UInt8) :: List.replicate 31 (0 : UInt8))) (framed [headB ((1 : UInt64)) (([] : List UInt8)) ((7 : UInt8)) (0) (9)])).length = 32 from hmac_len _ _) _)]; rfl)) ?_)
  refine l_yes rfl rfl rfl (o_callR Try.func77 rfl rfl rfl (check14_ret _ (((1 : UInt8) :: List.replicate 31 (0 : UInt8))) (show (((1 : UInt8) :: List.replicate 31 (0 : UInt8))).length = 32 from rfl) (⟨(1 : UInt64), ([] : List UInt8), (7 : UInt8), 0, 9, ⟨hd a3, 0 + 1, c4, ([] : List Cav) ++ [((1 : UInt8), 5)]⟩, onF (hmac (((1 : UInt8) :: List.replicate 31 (0 : UInt8))) (framed [headB ((1 : UInt64)) (([] : List UInt8)) ((7 : UInt8)) (0) (9)])) [((1 : UInt8), 5)]⟩ : Tok) (H.glOwn (i := 2) rfl (by decide) (fun _ _ => rfl)) (show (onF (hmac (((1 : UInt8) :: List.replicate 31 (0 : UInt8))) (framed [headB ((1 : UInt64)) (([] : List UInt8)) ((7 : UInt8)) (0) (9)])) [((1 : UInt8), 5)]).length = 32 from onF_len _ (show (hmac (((1 : UInt8) :: List.replicate 31 (0 : UInt8))) (framed [headB ((1 : UInt64)) (([] : List UInt8)) ((7 : UInt8)) (0) (9)])).length = 32 from hmac_len _ _) _) (by first | omega | (dsimp only; omega) | simp) (6)) ?_)
  rintro _ w ⟨rfl, Hc⟩
  replace H : Hp _ w _ ([_, _, _, _]) := H.call Hc
  clear Hc
  refine l_yes rfl rfl rfl (o_val (r_bin (a := checkT (((1 : UInt8) :: List.replicate 31 (0 : UInt8))) (⟨(1 : UInt64), ([] : List UInt8), (7 : UInt8), 0, 9, ⟨hd a3, 0 + 1, c4, ([] : List Cav) ++ [((1 : UInt8), 5)]⟩, onF (hmac (((1 : UInt8) :: List.replicate 31 (0 : UInt8))) (framed [headB ((1 : UInt64)) (([] : List UInt8)) ((7 : UInt8)) (0) (9)])) [((1 : UInt8), 5)]⟩ : Tok) (6)) (b := 14) rfl rfl (fun _ => b_eqlB true (decide_eq_true (by have := c2 6; omega)))) ?_)
  refine l_op (o_val (r_pick rfl) ?_)
  refine l_op (o_val (r_mv) ?_)
  refine l_yes rfl rfl rfl (o_val (r_mv) ?_)
  refine l_yes rfl rfl rfl (o_val (r_bin (a := (((effF ((7 : UInt8)) (9) (([] : List Cav) ++ [((1 : UInt8), 5)])).1).toNat : Int)) (b := 1) rfl rfl (fun _ => b_eqlB true (decide_eq_true (by rfl)))) ?_)
  refine l_op (o_val (r_pick rfl) ?_)
  refine l_op (o_val (r_mv) ?_)
  refine l_yes rfl rfl rfl (o_val (r_mv) ?_)
  refine l_yes rfl rfl rfl (o_val (r_bin (a := (effF ((7 : UInt8)) (9) (([] : List Cav) ++ [((1 : UInt8), 5)])).2) (b := 5) rfl rfl (fun _ => b_eqlB true (decide_eq_true (by rfl)))) ?_)
  refine l_op (o_val (r_pick rfl) ?_)
  refine l_op (o_val (r_as) ?_)
  first | refine l_end ?_ | refine l_nil ?_
  refine c_ret ?_
  try dsimp only [Exit.then, Exit.inBlock]
  refine e_ret1 (v := .bool true) Try.results65 rfl ?_
  refine ⟨_, rfl, ?_⟩
  exact ⟨rfl, H.sub (List.nil_sublist _)⟩
end Go.Proofs.Ytjmbbhnpfmblpaa
namespace Go.Proofs.Ytjmbbhnpfmblpaa
open Go
set_option maxRecDepth 100000
theorem tag14_ret (w0 : World) (key : List UInt8) (hk : key.length = 32) (t : Tok) (hc : t.cs.ok cavE 2 w0) (htag : t.tag.length = 32) (hn : t.tenant.length ≤ 65536) (hb : t.bd) :
    Ret Try.prog 116 [.agg ((key).map V8).toArray, .agg ([V64 t.serial, .string ⟨(t.tenant).toArray⟩, V8 t.rights, VI t.from_, VI t.until_, t.cs.v] ++ (t.tag).map V8).toArray] w0 fun v w' => v = .agg ((onF (hmac key (framed [t.head])) t.cs.l).map V8).toArray ∧ Hp w0 w' [] [] := by
  refine ret_mk Try.func116 rfl Try.ntmps116 (by simp) ?_
  have H := Hp.refl w0 []
  have hxl := hc.le
  have hxm := hc.mx
  have hmL : maxLen = 9223372036854775807 := rfl
  repeat refine c_seq ?_
  refine c_region ?_
  refine l_op (o_box (v := .agg ((key).map V8).toArray) H rfl (fun b1 w H hb1 => ?_))
  replace H : Hp _ w _ ([.blk b1 ((key).map V8) 31]) := H
  refine l_op (o_box (v := .agg ([V64 t.serial, .string ⟨(t.tenant).toArray⟩, V8 t.rights, VI t.from_, VI t.until_, t.cs.v] ++ (t.tag).map V8).toArray) H rfl (fun b2 w H hb2 => ?_))
  replace H : Hp _ w _ ([_, .blk b2 ([V64 t.serial, .string ⟨(t.tenant).toArray⟩, V8 t.rights, VI t.from_, VI t.until_, t.cs.v] ++ (t.tag).map V8) 76]) := H
  refine l_op (o_alloc H zc31 (fun b3 w H hb3 => ?_))
  replace H : Hp _ w _ ([_, _, .blk b3 ((List.replicate 32 (0 : UInt8)).map V8) 31]) := H
  first | refine l_end ?_ | refine l_nil ?_
  repeat refine c_seq ?_
  refine wp_held (fun w => Hp w0 w [] [.blk b1 ((key).map V8) 31, .blk b2 ([V64 t.serial, .string ⟨(t.tenant).toArray⟩, V8 t.rights, VI t.from_, VI t.until_, t.cs.v] ++ (t.tag).map V8) 76, .blk b3 ((List.replicate 32 (0 : UInt8)).map V8) 31]) mixed ?_
  replace H := H.drew
  have HS := H
  refine t_take 0 rfl (by kernel_rfl) (by kernel_rfl) (by kernel_rfl) (fun _ _ _ h => h) (fun w HS => r_slA (h := 32) (m := 32) (lv := none) (hv := none) (mv := none) rfl ar31 rfl rfl rfl (fun w => sbn w)) HS ?_
  refine t_take 1 rfl (by kernel_rfl) (by kernel_rfl) (by kernel_rfl) (fun _ _ _ h => h) (fun w HS => r_ldA (C := [V64 t.serial, .string ⟨(t.tenant).toArray⟩, V8 t.rights, VI t.from_, VI t.until_, t.cs.v] ++ (t.tag).map V8) HS (i := 1) rfl rfl rt76 (by rw [List.length_append, List.length_map, (show (t.tag).length = 32 from htag)]; rfl)) HS ?_
  refine t_all [2, 5] (by kernel_rfl) (by simp) (all_cons (w_op 2 rfl ?_) (all_cons (w_op 5 rfl ?_) (all_nil)))
  ·
   refine (o_callR Try.func126 rfl rfl rfl (head14_ret _ t (hc.up H) (show (t.tag).length = 32 from htag) (by first | omega | (dsimp only; omega) | simp) hb) ?_)
   rintro _ w ⟨a4, n5, c6, rfl, hn7, hh8, Hc⟩
   replace H : Hp _ w _ ([_, _, _, .own a4 n5 c6 ((t.head).map V8) 5 1]) := H.call Hc
   clear Hc
   try dsimp only at hn7
   refine ⟨H.sub (.cons_cons _ (.cons_cons _ (.cons_cons _ (List.nil_sublist _)))), ?_⟩
   replace HS := H.sub (.cons_cons _ (.cons_cons _ (.cons_cons _ (List.nil_sublist _))))
   refine t_all [3, 5] (by kernel_rfl) (by simp) (all_cons (w_op 3 rfl ?_) (all_cons (w_op 5 rfl ?_) (all_nil)))
   ·
    refine (o_bslV ([.slice (hd a4) n5 c6]) H sl22 zc29 rfl (by simp [Value.oneCell']) rfl (by decide) (fun b9 w H hb9 => ?_))
    replace H : Hp _ w _ ([_, _, _, _, .own (some b9) 1 1 ([.slice (hd a4) n5 c6]) 29 1]) := H
    refine ⟨H.sub (.cons_cons _ (.cons_cons _ (.cons_cons _ (List.nil_sublist _)))), ?_⟩
    replace HS := H.sub (.cons_cons _ (.cons_cons _ (.cons_cons _ (List.nil_sublist _))))
    refine t_all [4, 5] (by kernel_rfl) (by simp) (all_cons (w_op 4 rfl ?_) (all_cons (w_op 5 rfl ?_) (all_nil)))
    ·
     refine (o_callR Try.func53 rfl rfl rfl (of3_ret _ (⟨some ⟨b1, 0, none⟩, 32, 32, key⟩ : Sl) (H.slBlkA (i := 0) rfl 32 (show (key).length = 32 from hk) (by decide)) (hd (some b9)) 1 1 [⟨hd a4, n5, c6, t.head⟩] (H.own (i := 4) rfl) rfl (all1 (H.slOwn (i := 3) rfl)) (by (try dsimp only); omega) (by omega) (by simp [framed, be_len] <;> omega)) ?_)
     rintro _ w ⟨rfl, Hc⟩
     replace H : Hp _ w _ ([_, _, _, _, _]) := H.call Hc
     clear Hc
     refine ⟨H.sub (.cons_cons _ (.cons_cons _ (.cons_cons _ (List.nil_sublist _)))), ?_⟩
     replace HS := H.sub (.cons_cons _ (.cons_cons _ (.cons_cons _ (List.nil_sublist _))))
     refine t_step 5 rfl (by kernel_rfl) (o_alloc H zc31 (fun b10 w H hb10 => ?_))
     replace H : Hp _ w _ ([_, _, _, _, _, .blk b10 ((List.replicate 32 (0 : UInt8)).map V8) 31]) := H
     refine ⟨H.sub (.cons_cons _ (.cons_cons _ (.cons_cons _ (List.nil_sublist _)))), ?_⟩
     replace HS := H.sub (.cons_cons _ (.cons_cons _ (.cons_cons _ (List.nil_sublist _))))
     refine t_step 6 rfl (by kernel_rfl) (o_stA (l' := hmac (key) (framed [t.head])) H (i := 5) rfl rfl rfl cs31 (show (List.replicate 32 (0 : UInt8)).length = 32 from (List.length_replicate ..)) (show (hmac (key) (framed [t.head])).length = 32 from hmac_len _ _) (fun w H => ?_))
     replace H : Hp _ w _ ([_, _, _, _, _, .blk b10 ((hmac (key) (framed [t.head])).map V8) 31]) := H
     refine ⟨H.sub (.cons_cons _ (.cons_cons _ (.cons_cons _ (List.nil_sublist _)))), ?_⟩
     replace HS := H.sub (.cons_cons _ (.cons_cons _ (.cons_cons _ (List.nil_sublist _))))
     refine t_done (by kernel_rfl) ?_
     clear HS
     repeat refine c_seq ?_
     refine c_region ?_
     refine l_op (o_val (r_as) ?_)
     first | refine l_end ?_ | refine l_nil ?_
     repeat refine c_seq ?_
     refine c_block ?_
     repeat refine c_seq ?_
     refine c_loop (fun (i : Nat) => [(3, .pointer (some ⟨b2, 0, none⟩)), (4, .pointer (some ⟨b3, 0, none⟩)), (5, .pointer (some ⟨b10, 0, none⟩)), (6, VI (i : Int))])
       (fun (i : Nat) w => (i ≤ t.cs.len) ∧ Hp w0 w [] ([.blk b1 ((key).map V8) 31, .blk b2 ([V64 t.serial, .string ⟨(t.tenant).toArray⟩, V8 t.rights, VI t.from_, VI t.until_, t.cs.v] ++ (t.tag).map V8) 76, .blk b3 ((List.replicate 32 (0 : UInt8)).map V8) 31, .own a4 n5 c6 ((t.head).map V8) 5 1, .own (some b9) 1 1 ([.slice (hd a4) n5 c6]) 29 1, .blk b10 ((onF (hmac key (framed [t.head])) (t.cs.l.take i)).map V8) 31]))
       (fun (i : Nat) => t.cs.len - i) 0 ⟨rfl, rfl, rfl, rfl, trivial⟩ ⟨Nat.zero_le _, H⟩ ?_
     clear H
     rintro i τ w ⟨hi, H⟩
     repeat refine c_seq ?_
     refine c_region ?_
     refine l_op (o_val (r_mv) ?_)
     refine l_op (o_val (r_fa rfl fo76_5) ?_)
     refine l_op (o_val (r_ld (v := t.cs.v) H (i := 1) rfl rfl ct74 rfl) ?_)
     refine l_op (o_val (r_lens el74 rfl) ?_)
     refine l_op (o_val (r_bin (a := (i : Int)) (b := (t.cs.len : Int)) rfl rfl (fun _ => b_lss)) ?_)
     first | refine l_end ?_ | refine l_nil ?_
     by_cases hc11 : (i : Int) < (t.cs.len : Int)
     ·
      repeat refine c_seq ?_
      refine c_yes (by exact congrArg Value.bool (decide_eq_true hc11)) ?_
      refine c_skip ?_
      repeat refine c_seq ?_
      refine c_block ?_
      repeat refine c_seq ?_
      refine wp_held (fun w => Hp w0 w [] [.blk b1 ((key).map V8) 31, .blk b2 ([V64 t.serial, .string ⟨(t.tenant).toArray⟩, V8 t.rights, VI t.from_, VI t.until_, t.cs.v] ++ (t.tag).map V8) 76, .blk b3 ((List.replicate 32 (0 : UInt8)).map V8) 31, .own a4 n5 c6 ((t.head).map V8) 5 1, .own (some b9) 1 1 ([.slice (hd a4) n5 c6]) 29 1]) mixed ?_
      replace H := H.drew
      have HS := H.sub (.cons_cons _ (.cons_cons _ (.cons_cons _ (.cons_cons _ (.cons_cons _ (List.nil_sublist _))))))
      refine t_take 0 rfl (by kernel_rfl) (by kernel_rfl) (by kernel_rfl) (fun _ _ _ h => h) (fun w HS => r_slA (h := 32) (m := 32) (lv := none) (hv := none) (mv := none) rfl ar31 rfl rfl rfl (fun w => sbn w)) HS ?_
      refine t_take 1 rfl (by kernel_rfl) (by kernel_rfl) (by kernel_rfl) (fun _ _ _ h => h) (fun w HS => r_fa rfl fo76_5) HS ?_
      refine t_take 2 rfl (by kernel_rfl) (by kernel_rfl) (by kernel_rfl) (fun _ _ _ h => h) (fun w HS => r_ld (v := t.cs.v) HS (i := 1) rfl rfl ct74 rfl) HS ?_
      refine t_take 3 rfl (by kernel_rfl) (by kernel_rfl) (by kernel_rfl) (fun _ _ _ h => h) (fun w HS => r_mv) HS ?_
      have ah14 := ((hc.up HS)).addr (by decide) (by first | omega | (dsimp only; omega))
      obtain ⟨ab12, ao13, ah14⟩ := ah14
      refine t_take 4 rfl (by kernel_rfl) (by kernel_rfl) (by kernel_rfl) (fun _ _ _ h => h) (fun w HS => r_isN i rfl rfl el74 ah14 (by omega) (by (try simp only [Sl.cut]); omega)) HS ?_
      have he16 : ∃ c, t.cs.l[i]? = some c := ⟨_, List.getElem?_eq_getElem (by have := ((hc.up HS)).ln; (try dsimp only at this ⊢); omega)⟩
      obtain ⟨e15, he16⟩ := he16
      have hez17 := ((hc.up HS)).sz e15 (List.mem_of_getElem? he16)
      refine t_take 5 rfl (by kernel_rfl) (by kernel_rfl) (by kernel_rfl) (fun _ _ _ h => h) (fun w HS => r_ldRow (s := t.cs) (k := i) (hc.up HS) ah14 rfl rt78 (by decide) he16) HS ?_
      refine t_step 6 rfl (by kernel_rfl) (o_callR Try.func120 rfl rfl rfl (caveat14_ret _ e15 (hb.cs _ (List.mem_of_getElem? (by assumption)))) ?_)
      rintro _ w ⟨a18, c19, rfl, Hc⟩
      replace H : Hp _ w _ ([_, _, _, _, _, _, .own a18 9 c19 ((cavB e15).map V8) 5 1]) := H.call Hc
      clear Hc
      refine ⟨H.sub (.cons_cons _ (.cons_cons _ (.cons_cons _ (.cons_cons _ (.cons_cons _ (List.nil_sublist _)))))), ?_⟩
      replace HS := H.sub (.cons_cons _ (.cons_cons _ (.cons_cons _ (.cons_cons _ (.cons_cons _ (List.nil_sublist _))))))
      refine t_step 7 rfl (by kernel_rfl) (o_bslV ([.slice (hd a18) 9 c19]) H sl22 zc29 rfl (by simp [Value.oneCell']) rfl (by decide) (fun b20 w H hb20 => ?_))
      replace H : Hp _ w _ ([_, _, _, _, _, _, _, .own (some b20) 1 1 ([.slice (hd a18) 9 c19]) 29 1]) := H
      refine ⟨H.sub (.cons_cons _ (.cons_cons _ (.cons_cons _ (.cons_cons _ (.cons_cons _ (List.nil_sublist _)))))), ?_⟩
      replace HS := H.sub (.cons_cons _ (.cons_cons _ (.cons_cons _ (.cons_cons _ (.cons_cons _ (List.nil_sublist _))))))
      refine t_step 8 rfl (by kernel_rfl) (o_callR Try.func53 rfl rfl rfl (of3_ret _ (⟨some ⟨b10, 0, none⟩, 32, 32, onF (hmac key (framed [t.head])) (t.cs.l.take i)⟩ : Sl) (H.slBlkA (i := 5) rfl 32 (show (onF (hmac key (framed [t.head])) (t.cs.l.take i)).length = 32 from onF_len _ (hmac_len _ _) _) (by decide)) (hd (some b20)) 1 1 [⟨hd a18, 9, c19, cavB e15⟩] (H.own (i := 7) rfl) rfl (all1 (H.slOwn (i := 6) rfl)) (by (try dsimp only); omega) (by omega) (by simp [framed, be_len, cavB_len] <;> omega)) ?_)
      rintro _ w ⟨rfl, Hc⟩
      replace H : Hp _ w _ ([_, _, _, _, _, _, _, _]) := H.call Hc
      clear Hc
      refine ⟨H.sub (.cons_cons _ (.cons_cons _ (.cons_cons _ (.cons_cons _ (.cons_cons _ (List.nil_sublist _)))))), ?_⟩
      replace HS := H.sub (.cons_cons _ (.cons_cons _ (.cons_cons _ (.cons_cons _ (.cons_cons _ (List.nil_sublist _))))))
      refine t_step 9 rfl (by kernel_rfl) (o_stA (l' := hmac (onF (hmac key (framed [t.head])) (t.cs.l.take i)) (framed [cavB e15])) H (i := 5) rfl rfl rfl cs31 (show (onF (hmac key (framed [t.head])) (t.cs.l.take i)).length = 32 from onF_len _ (hmac_len _ _) _) (show (hmac (onF (hmac key (framed [t.head])) (t.cs.l.take i)) (framed [cavB e15])).length = 32 from hmac_len _ _) (fun w H => ?_))
      replace H : Hp _ w _ ([_, _, _, _, _, .blk b10 ((hmac (onF (hmac key (framed [t.head])) (t.cs.l.take i)) (framed [cavB e15])).map V8) 31, _, _]) := H
      refine ⟨H.sub (.cons_cons _ (.cons_cons _ (.cons_cons _ (.cons_cons _ (.cons_cons _ (List.nil_sublist _)))))), ?_⟩
      replace HS := H.sub (.cons_cons _ (.cons_cons _ (.cons_cons _ (.cons_cons _ (.cons_cons _ (List.nil_sublist _))))))
      refine t_done (by kernel_rfl) ?_
      clear HS
      repeat refine c_seq ?_
      refine c_region ?_
      refine l_op (o_val (r_mv) ?_)
      refine l_op (o_val (r_bin (a := (i : Int)) (b := 1) rfl rfl (fun _ => b_add (by omega) (by omega))) ?_)
      refine l_op (o_val (r_as) ?_)
      first | refine l_end ?_ | refine l_nil ?_
      rw [onF_succ _ t.cs.l i e15 he16] at H
      refine round_end (i + 1) ?_ ?_ ?_
      · exact ⟨rfl, rfl, rfl, show VI ((i : Int) + 1) = VI ((i + 1 : Nat) : Int) from congrArg VI (by omega), trivial⟩
      · refine ⟨?_, ?_⟩
        · try dsimp only
          exact by omega
        · exact H.sub (.cons_cons _ (.cons_cons _ (.cons_cons _ (.cons_cons _ (.cons_cons _ (.cons_cons _ (List.nil_sublist _)))))))
      · show t.cs.len - (i + 1 : Nat) < t.cs.len - i; omega
     ·
      repeat refine c_seq ?_
      refine c_no (by exact congrArg Value.bool (decide_eq_false hc11)) ?_
      refine c_exit ?_
      repeat refine c_seq ?_
      refine c_region ?_
      refine l_op (o_val (r_ldAA (l := onF (hmac key (framed [t.head])) (t.cs.l.take i)) H (i := 5) rfl rfl rt31 (show (onF (hmac key (framed [t.head])) (t.cs.l.take i)).length = 32 from onF_len _ (hmac_len _ _) _)) ?_)
      refine l_op (o_stA (l' := onF (hmac key (framed [t.head])) (t.cs.l.take i)) H (i := 2) rfl rfl rfl cs31 (show (List.replicate 32 (0 : UInt8)).length = 32 from (List.length_replicate ..)) (show (onF (hmac key (framed [t.head])) (t.cs.l.take i)).length = 32 from onF_len _ (hmac_len _ _) _) (fun w H => ?_))
      replace H : Hp _ w _ ([_, _, .blk b3 ((onF (hmac key (framed [t.head])) (t.cs.l.take i)).map V8) 31, _, _, _]) := H
      first | refine l_end ?_ | refine l_nil ?_
      refine c_ret ?_
      try dsimp only [Exit.then, Exit.inBlock]
      refine e_retA (l := onF (hmac key (framed [t.head])) (t.cs.l.take i)) Try.results116 H (i := 2) rfl rfl rt31 (show (onF (hmac key (framed [t.head])) (t.cs.l.take i)).length = 32 from onF_len _ (hmac_len _ _) _) ?_
      refine ⟨_, rfl, ?_⟩
      have hi2 : i = t.cs.len := by omega
      rw [List.take_of_length_le (by have := hc.ln; omega)]
      exact ⟨rfl, H.sub (List.nil_sublist _)⟩
    ·
     refine (o_alloc H zc31 (fun b21 w H hb21 => ?_))
     replace H : Hp _ w _ ([_, _, _, _, _, .blk b21 ((List.replicate 32 (0 : UInt8)).map V8) 31]) := H
     refine ⟨H.sub (.cons_cons _ (.cons_cons _ (.cons_cons _ (List.nil_sublist _)))), ?_⟩
     replace HS := H.sub (.cons_cons _ (.cons_cons _ (.cons_cons _ (List.nil_sublist _))))
     refine t_step 4 rfl (by kernel_rfl) (o_callR Try.func53 rfl rfl rfl (of3_ret _ (⟨some ⟨b1, 0, none⟩, 32, 32, key⟩ : Sl) (H.slBlkA (i := 0) rfl 32 (show (key).length = 32 from hk) (by decide)) (hd (some b9)) 1 1 [⟨hd a4, n5, c6, t.head⟩] (H.own (i := 4) rfl) rfl (all1 (H.slOwn (i := 3) rfl)) (by (try dsimp only); omega) (by omega) (by simp [framed, be_len] <;> omega)) ?_)
     rintro _ w ⟨rfl, Hc⟩
     replace H : Hp _ w _ ([_, _, _, _, _, _]) := H.call Hc
     clear Hc
     refine ⟨H.sub (.cons_cons _ (.cons_cons _ (.cons_cons _ (List.nil_sublist _)))), ?_⟩
     replace HS := H.sub (.cons_cons _ (.cons_cons _ (.cons_cons _ (List.nil_sublist _))))
     refine t_step 6 rfl (by kernel_rfl) (o_stA (l' := hmac (key) (framed [t.head])) H (i := 5) rfl rfl rfl cs31 (show (List.replicate 32 (0 : UInt8)).length = 32 from (List.length_replicate ..)) (show (hmac (key) (framed [t.head])).length = 32 from hmac_len _ _) (fun w H => ?_))
     replace H : Hp _ w _ ([_, _, _, _, _, .blk b21 ((hmac (key) (framed [t.head])).map V8) 31]) := H
     refine ⟨H.sub (.cons_cons _ (.cons_cons _ (.cons_cons _ (List.nil_sublist _)))), ?_⟩
     replace HS := H.sub (.cons_cons _ (.cons_cons _ (.cons_cons _ (List.nil_sublist _))))
     refine t_done (by kernel_rfl) ?_
     clear HS
     repeat refine c_seq ?_
     refine c_region ?_
     refine l_op (o_val (r_as) ?_)
     first | refine l_end ?_ | refine l_nil ?_
     repeat refine c_seq ?_
     refine c_block ?_
     repeat refine c_seq ?_
     refine c_loop (fun (i : Nat) => [(3, .pointer (some ⟨b2, 0, none⟩)), (4, .pointer (some ⟨b3, 0, none⟩)), (5, .pointer (some ⟨b21, 0, none⟩)), (6, VI (i : Int))])
       (fun (i : Nat) w => (i ≤ t.cs.len) ∧ Hp w0 w [] ([.blk b1 ((key).map V8) 31, .blk b2 ([V64 t.serial, .string ⟨(t.tenant).toArray⟩, V8 t.rights, VI t.from_, VI t.until_, t.cs.v] ++ (t.tag).map V8) 76, .blk b3 ((List.replicate 32 (0 : UInt8)).map V8) 31, .own a4 n5 c6 ((t.head).map V8) 5 1, .own (some b9) 1 1 ([.slice (hd a4) n5 c6]) 29 1, .blk b21 ((onF (hmac key (framed [t.head])) (t.cs.l.take i)).map V8) 31]))
       (fun (i : Nat) => t.cs.len - i) 0 ⟨rfl, rfl, rfl, rfl, trivial⟩ ⟨Nat.zero_le _, H⟩ ?_
     clear H
     rintro i τ w ⟨hi, H⟩
     repeat refine c_seq ?_
     refine c_region ?_
     refine l_op (o_val (r_mv) ?_)
     refine l_op (o_val (r_fa rfl fo76_5) ?_)
     refine l_op (o_val (r_ld (v := t.cs.v) H (i := 1) rfl rfl ct74 rfl) ?_)
     refine l_op (o_val (r_lens el74 rfl) ?_)
     refine l_op (o_val (r_bin (a := (i : Int)) (b := (t.cs.len : Int)) rfl rfl (fun _ => b_lss)) ?_)
     first | refine l_end ?_ | refine l_nil ?_
     by_cases hc22 : (i : Int) < (t.cs.len : Int)
     ·
      repeat refine c_seq ?_
      refine c_yes (by exact congrArg Value.bool (decide_eq_true hc22)) ?_
      refine c_skip ?_
      repeat refine c_seq ?_
      refine c_block ?_
      repeat refine c_seq ?_
      refine wp_held (fun w => Hp w0 w [] [.blk b1 ((key).map V8) 31, .blk b2 ([V64 t.serial, .string ⟨(t.tenant).toArray⟩, V8 t.rights, VI t.from_, VI t.until_, t.cs.v] ++ (t.tag).map V8) 76, .blk b3 ((List.replicate 32 (0 : UInt8)).map V8) 31, .own a4 n5 c6 ((t.head).map V8) 5 1, .own (some b9) 1 1 ([.slice (hd a4) n5 c6]) 29 1]) mixed ?_
      replace H := H.drew
      have HS := H.sub (.cons_cons _ (.cons_cons _ (.cons_cons _ (.cons_cons _ (.cons_cons _ (List.nil_sublist _))))))
      refine t_take 0 rfl (by kernel_rfl) (by kernel_rfl) (by kernel_rfl) (fun _ _ _ h => h) (fun w HS => r_slA (h := 32) (m := 32) (lv := none) (hv := none) (mv := none) rfl ar31 rfl rfl rfl (fun w => sbn w)) HS ?_
      refine t_take 1 rfl (by kernel_rfl) (by kernel_rfl) (by kernel_rfl) (fun _ _ _ h => h) (fun w HS => r_fa rfl fo76_5) HS ?_
      refine t_take 2 rfl (by kernel_rfl) (by kernel_rfl) (by kernel_rfl) (fun _ _ _ h => h) (fun w HS => r_ld (v := t.cs.v) HS (i := 1) rfl rfl ct74 rfl) HS ?_
      refine t_take 3 rfl (by kernel_rfl) (by kernel_rfl) (by kernel_rfl) (fun _ _ _ h => h) (fun w HS => r_mv) HS ?_
      have ah25 := ((hc.up HS)).addr (by decide) (by first | omega | (dsimp only; omega))
      obtain ⟨ab23, ao24, ah25⟩ := ah25
      refine t_take 4 rfl (by kernel_rfl) (by kernel_rfl) (by kernel_rfl) (fun _ _ _ h => h) (fun w HS => r_isN i rfl rfl el74 ah25 (by omega) (by (try simp only [Sl.cut]); omega)) HS ?_
      have he27 : ∃ c, t.cs.l[i]? = some c := ⟨_, List.getElem?_eq_getElem (by have := ((hc.up HS)).ln; (try dsimp only at this ⊢); omega)⟩
      obtain ⟨e26, he27⟩ := he27
      have hez28 := ((hc.up HS)).sz e26 (List.mem_of_getElem? he27)
      refine t_take 5 rfl (by kernel_rfl) (by kernel_rfl) (by kernel_rfl) (fun _ _ _ h => h) (fun w HS => r_ldRow (s := t.cs) (k := i) (hc.up HS) ah25 rfl rt78 (by decide) he27) HS ?_
      refine t_step 6 rfl (by kernel_rfl) (o_callR Try.func120 rfl rfl rfl (caveat14_ret _ e26 (hb.cs _ (List.mem_of_getElem? (by assumption)))) ?_)
      rintro _ w ⟨a29, c30, rfl, Hc⟩
      replace H : Hp _ w _ ([_, _, _, _, _, _, .own a29 9 c30 ((cavB e26).map V8) 5 1]) := H.call Hc
      clear Hc
      refine ⟨H.sub (.cons_cons _ (.cons_cons _ (.cons_cons _ (.cons_cons _ (.cons_cons _ (List.nil_sublist _)))))), ?_⟩
      replace HS := H.sub (.cons_cons _ (.cons_cons _ (.cons_cons _ (.cons_cons _ (.cons_cons _ (List.nil_sublist _))))))
      refine t_step 7 rfl (by kernel_rfl) (o_bslV ([.slice (hd a29) 9 c30]) H sl22 zc29 rfl (by simp [Value.oneCell']) rfl (by decide) (fun b31 w H hb31 => ?_))
      replace H : Hp _ w _ ([_, _, _, _, _, _, _, .own (some b31) 1 1 ([.slice (hd a29) 9 c30]) 29 1]) := H
      refine ⟨H.sub (.cons_cons _ (.cons_cons _ (.cons_cons _ (.cons_cons _ (.cons_cons _ (List.nil_sublist _)))))), ?_⟩
      replace HS := H.sub (.cons_cons _ (.cons_cons _ (.cons_cons _ (.cons_cons _ (.cons_cons _ (List.nil_sublist _))))))
      refine t_step 8 rfl (by kernel_rfl) (o_callR Try.func53 rfl rfl rfl (of3_ret _ (⟨some ⟨b21, 0, none⟩, 32, 32, onF (hmac key (framed [t.head])) (t.cs.l.take i)⟩ : Sl) (H.slBlkA (i := 5) rfl 32 (show (onF (hmac key (framed [t.head])) (t.cs.l.take i)).length = 32 from onF_len _ (hmac_len _ _) _) (by decide)) (hd (some b31)) 1 1 [⟨hd a29, 9, c30, cavB e26⟩] (H.own (i := 7) rfl) rfl (all1 (H.slOwn (i := 6) rfl)) (by (try dsimp only); omega) (by omega) (by simp [framed, be_len, cavB_len] <;> omega)) ?_)
      rintro _ w ⟨rfl, Hc⟩
      replace H : Hp _ w _ ([_, _, _, _, _, _, _, _]) := H.call Hc
      clear Hc
      refine ⟨H.sub (.cons_cons _ (.cons_cons _ (.cons_cons _ (.cons_cons _ (.cons_cons _ (List.nil_sublist _)))))), ?_⟩
      replace HS := H.sub (.cons_cons _ (.cons_cons _ (.cons_cons _ (.cons_cons _ (.cons_cons _ (List.nil_sublist _))))))
      refine t_step 9 rfl (by kernel_rfl) (o_stA (l' := hmac (onF (hmac key (framed [t.head])) (t.cs.l.take i)) (framed [cavB e26])) H (i := 5) rfl rfl rfl cs31 (show (onF (hmac key (framed [t.head])) (t.cs.l.take i)).length = 32 from onF_len _ (hmac_len _ _) _) (show (hmac (onF (hmac key (framed [t.head])) (t.cs.l.take i)) (framed [cavB e26])).length = 32 from hmac_len _ _) (fun w H => ?_))
      replace H : Hp _ w _ ([_, _, _, _, _, .blk b21 ((hmac (onF (hmac key (framed [t.head])) (t.cs.l.take i)) (framed [cavB e26])).map V8) 31, _, _]) := H
      refine ⟨H.sub (.cons_cons _ (.cons_cons _ (.cons_cons _ (.cons_cons _ (.cons_cons _ (List.nil_sublist _)))))), ?_⟩
      replace HS := H.sub (.cons_cons _ (.cons_cons _ (.cons_cons _ (.cons_cons _ (.cons_cons _ (List.nil_sublist _))))))
      refine t_done (by kernel_rfl) ?_
      clear HS
      repeat refine c_seq ?_
      refine c_region ?_
      refine l_op (o_val (r_mv) ?_)
      refine l_op (o_val (r_bin (a := (i : Int)) (b := 1) rfl rfl (fun _ => b_add (by omega) (by omega))) ?_)
      refine l_op (o_val (r_as) ?_)
      first | refine l_end ?_ | refine l_nil ?_
      rw [onF_succ _ t.cs.l i e26 he27] at H
      refine round_end (i + 1) ?_ ?_ ?_
      · exact ⟨rfl, rfl, rfl, show VI ((i : Int) + 1) = VI ((i + 1 : Nat) : Int) from congrArg VI (by omega), trivial⟩
      · refine ⟨?_, ?_⟩
        · try dsimp only
          exact by omega
        · exact H.sub (.cons_cons _ (.cons_cons _ (.cons_cons _ (.cons_cons _ (.cons_cons _ (.cons_cons _ (List.nil_sublist _)))))))
      · show t.cs.len - (i + 1 : Nat) < t.cs.len - i; omega
     ·
      repeat refine c_seq ?_
      refine c_no (by exact congrArg Value.bool (decide_eq_false hc22)) ?_
      refine c_exit ?_
      repeat refine c_seq ?_
      refine c_region ?_
      refine l_op (o_val (r_ldAA (l := onF (hmac key (framed [t.head])) (t.cs.l.take i)) H (i := 5) rfl rfl rt31 (show (onF (hmac key (framed [t.head])) (t.cs.l.take i)).length = 32 from onF_len _ (hmac_len _ _) _)) ?_)
      refine l_op (o_stA (l' := onF (hmac key (framed [t.head])) (t.cs.l.take i)) H (i := 2) rfl rfl rfl cs31 (show (List.replicate 32 (0 : UInt8)).length = 32 from (List.length_replicate ..)) (show (onF (hmac key (framed [t.head])) (t.cs.l.take i)).length = 32 from onF_len _ (hmac_len _ _) _) (fun w H => ?_))
      replace H : Hp _ w _ ([_, _, .blk b3 ((onF (hmac key (framed [t.head])) (t.cs.l.take i)).map V8) 31, _, _, _]) := H
      first | refine l_end ?_ | refine l_nil ?_
      refine c_ret ?_
      try dsimp only [Exit.then, Exit.inBlock]
      refine e_retA (l := onF (hmac key (framed [t.head])) (t.cs.l.take i)) Try.results116 H (i := 2) rfl rfl rt31 (show (onF (hmac key (framed [t.head])) (t.cs.l.take i)).length = 32 from onF_len _ (hmac_len _ _) _) ?_
      refine ⟨_, rfl, ?_⟩
      have hi2 : i = t.cs.len := by omega
      rw [List.take_of_length_le (by have := hc.ln; omega)]
      exact ⟨rfl, H.sub (List.nil_sublist _)⟩
   ·
    refine (o_alloc H zc31 (fun b32 w H hb32 => ?_))
    replace H : Hp _ w _ ([_, _, _, _, .blk b32 ((List.replicate 32 (0 : UInt8)).map V8) 31]) := H
    refine ⟨H.sub (.cons_cons _ (.cons_cons _ (.cons_cons _ (List.nil_sublist _)))), ?_⟩
    replace HS := H.sub (.cons_cons _ (.cons_cons _ (.cons_cons _ (List.nil_sublist _))))
    refine t_step 3 rfl (by kernel_rfl) (o_bslV ([.slice (hd a4) n5 c6]) H sl22 zc29 rfl (by simp [Value.oneCell']) rfl (by decide) (fun b33 w H hb33 => ?_))
    replace H : Hp _ w _ ([_, _, _, _, _, .own (some b33) 1 1 ([.slice (hd a4) n5 c6]) 29 1]) := H
    refine ⟨H.sub (.cons_cons _ (.cons_cons _ (.cons_cons _ (List.nil_sublist _)))), ?_⟩
    replace HS := H.sub (.cons_cons _ (.cons_cons _ (.cons_cons _ (List.nil_sublist _))))
    refine t_step 4 rfl (by kernel_rfl) (o_callR Try.func53 rfl rfl rfl (of3_ret _ (⟨some ⟨b1, 0, none⟩, 32, 32, key⟩ : Sl) (H.slBlkA (i := 0) rfl 32 (show (key).length = 32 from hk) (by decide)) (hd (some b33)) 1 1 [⟨hd a4, n5, c6, t.head⟩] (H.own (i := 5) rfl) rfl (all1 (H.slOwn (i := 3) rfl)) (by (try dsimp only); omega) (by omega) (by simp [framed, be_len] <;> omega)) ?_)
    rintro _ w ⟨rfl, Hc⟩
    replace H : Hp _ w _ ([_, _, _, _, _, _]) := H.call Hc
    clear Hc
    refine ⟨H.sub (.cons_cons _ (.cons_cons _ (.cons_cons _ (List.nil_sublist _)))), ?_⟩
    replace HS := H.sub (.cons_cons _ (.cons_cons _ (.cons_cons _ (List.nil_sublist _))))
    refine t_step 6 rfl (by kernel_rfl) (o_stA (l' := hmac (key) (framed [t.head])) H (i := 4) rfl rfl rfl cs31 (show (List.replicate 32 (0 : UInt8)).length = 32 from (List.length_replicate ..)) (show (hmac (key) (framed [t.head])).length = 32 from hmac_len _ _) (fun w H => ?_))
    replace H : Hp _ w _ ([_, _, _, _, .blk b32 ((hmac (key) (framed [t.head])).map V8) 31, _]) := H
    refine ⟨H.sub (.cons_cons _ (.cons_cons _ (.cons_cons _ (List.nil_sublist _)))), ?_⟩
    replace HS := H.sub (.cons_cons _ (.cons_cons _ (.cons_cons _ (List.nil_sublist _))))
    refine t_done (by kernel_rfl) ?_
    clear HS
    repeat refine c_seq ?_
    refine c_region ?_
    refine l_op (o_val (r_as) ?_)
    first | refine l_end ?_ | refine l_nil ?_
    repeat refine c_seq ?_
    refine c_block ?_
    repeat refine c_seq ?_
    refine c_loop (fun (i : Nat) => [(3, .pointer (some ⟨b2, 0, none⟩)), (4, .pointer (some ⟨b3, 0, none⟩)), (5, .pointer (some ⟨b32, 0, none⟩)), (6, VI (i : Int))])
      (fun (i : Nat) w => (i ≤ t.cs.len) ∧ Hp w0 w [] ([.blk b1 ((key).map V8) 31, .blk b2 ([V64 t.serial, .string ⟨(t.tenant).toArray⟩, V8 t.rights, VI t.from_, VI t.until_, t.cs.v] ++ (t.tag).map V8) 76, .blk b3 ((List.replicate 32 (0 : UInt8)).map V8) 31, .own a4 n5 c6 ((t.head).map V8) 5 1, .blk b32 ((onF (hmac key (framed [t.head])) (t.cs.l.take i)).map V8) 31, .own (some b33) 1 1 ([.slice (hd a4) n5 c6]) 29 1]))
      (fun (i : Nat) => t.cs.len - i) 0 ⟨rfl, rfl, rfl, rfl, trivial⟩ ⟨Nat.zero_le _, H⟩ ?_
    clear H
    rintro i τ w ⟨hi, H⟩
    repeat refine c_seq ?_
    refine c_region ?_
    refine l_op (o_val (r_mv) ?_)
    refine l_op (o_val (r_fa rfl fo76_5) ?_)
    refine l_op (o_val (r_ld (v := t.cs.v) H (i := 1) rfl rfl ct74 rfl) ?_)
    refine l_op (o_val (r_lens el74 rfl) ?_)
    refine l_op (o_val (r_bin (a := (i : Int)) (b := (t.cs.len : Int)) rfl rfl (fun _ => b_lss)) ?_)
    first | refine l_end ?_ | refine l_nil ?_
    by_cases hc34 : (i : Int) < (t.cs.len : Int)
    ·
     repeat refine c_seq ?_
     refine c_yes (by exact congrArg Value.bool (decide_eq_true hc34)) ?_
     refine c_skip ?_
     repeat refine c_seq ?_
     refine c_block ?_
     repeat refine c_seq ?_
     refine wp_held (fun w => Hp w0 w [] [.blk b1 ((key).map V8) 31, .blk b2 ([V64 t.serial, .string ⟨(t.tenant).toArray⟩, V8 t.rights, VI t.from_, VI t.until_, t.cs.v] ++ (t.tag).map V8) 76, .blk b3 ((List.replicate 32 (0 : UInt8)).map V8) 31, .own a4 n5 c6 ((t.head).map V8) 5 1, .own (some b33) 1 1 ([.slice (hd a4) n5 c6]) 29 1]) mixed ?_
     replace H := H.drew
     have HS := H.sub (.cons_cons _ (.cons_cons _ (.cons_cons _ (.cons_cons _ (.cons _ (.cons_cons _ (List.nil_sublist _)))))))
     refine t_take 0 rfl (by kernel_rfl) (by kernel_rfl) (by kernel_rfl) (fun _ _ _ h => h) (fun w HS => r_slA (h := 32) (m := 32) (lv := none) (hv := none) (mv := none) rfl ar31 rfl rfl rfl (fun w => sbn w)) HS ?_
     refine t_take 1 rfl (by kernel_rfl) (by kernel_rfl) (by kernel_rfl) (fun _ _ _ h => h) (fun w HS => r_fa rfl fo76_5) HS ?_
     refine t_take 2 rfl (by kernel_rfl) (by kernel_rfl) (by kernel_rfl) (fun _ _ _ h => h) (fun w HS => r_ld (v := t.cs.v) HS (i := 1) rfl rfl ct74 rfl) HS ?_
     refine t_take 3 rfl (by kernel_rfl) (by kernel_rfl) (by kernel_rfl) (fun _ _ _ h => h) (fun w HS => r_mv) HS ?_
     have ah37 := ((hc.up HS)).addr (by decide) (by first | omega | (dsimp only; omega))
     obtain ⟨ab35, ao36, ah37⟩ := ah37
     refine t_take 4 rfl (by kernel_rfl) (by kernel_rfl) (by kernel_rfl) (fun _ _ _ h => h) (fun w HS => r_isN i rfl rfl el74 ah37 (by omega) (by (try simp only [Sl.cut]); omega)) HS ?_
     have he39 : ∃ c, t.cs.l[i]? = some c := ⟨_, List.getElem?_eq_getElem (by have := ((hc.up HS)).ln; (try dsimp only at this ⊢); omega)⟩
     obtain ⟨e38, he39⟩ := he39
     have hez40 := ((hc.up HS)).sz e38 (List.mem_of_getElem? he39)
     refine t_take 5 rfl (by kernel_rfl) (by kernel_rfl) (by kernel_rfl) (fun _ _ _ h => h) (fun w HS => r_ldRow (s := t.cs) (k := i) (hc.up HS) ah37 rfl rt78 (by decide) he39) HS ?_
     refine t_step 6 rfl (by kernel_rfl) (o_callR Try.func120 rfl rfl rfl (caveat14_ret _ e38 (hb.cs _ (List.mem_of_getElem? (by assumption)))) ?_)
     rintro _ w ⟨a41, c42, rfl, Hc⟩
     replace H : Hp _ w _ ([_, _, _, _, _, _, .own a41 9 c42 ((cavB e38).map V8) 5 1]) := H.call Hc
     clear Hc
     refine ⟨H.sub (.cons_cons _ (.cons_cons _ (.cons_cons _ (.cons_cons _ (.cons _ (.cons_cons _ (List.nil_sublist _))))))), ?_⟩
     replace HS := H.sub (.cons_cons _ (.cons_cons _ (.cons_cons _ (.cons_cons _ (.cons _ (.cons_cons _ (List.nil_sublist _)))))))
     refine t_step 7 rfl (by kernel_rfl) (o_bslV ([.slice (hd a41) 9 c42]) H sl22 zc29 rfl (by simp [Value.oneCell']) rfl (by decide) (fun b43 w H hb43 => ?_))
     replace H : Hp _ w _ ([_, _, _, _, _, _, _, .own (some b43) 1 1 ([.slice (hd a41) 9 c42]) 29 1]) := H
     refine ⟨H.sub (.cons_cons _ (.cons_cons _ (.cons_cons _ (.cons_cons _ (.cons _ (.cons_cons _ (List.nil_sublist _))))))), ?_⟩
     replace HS := H.sub (.cons_cons _ (.cons_cons _ (.cons_cons _ (.cons_cons _ (.cons _ (.cons_cons _ (List.nil_sublist _)))))))
     refine t_step 8 rfl (by kernel_rfl) (o_callR Try.func53 rfl rfl rfl (of3_ret _ (⟨some ⟨b32, 0, none⟩, 32, 32, onF (hmac key (framed [t.head])) (t.cs.l.take i)⟩ : Sl) (H.slBlkA (i := 4) rfl 32 (show (onF (hmac key (framed [t.head])) (t.cs.l.take i)).length = 32 from onF_len _ (hmac_len _ _) _) (by decide)) (hd (some b43)) 1 1 [⟨hd a41, 9, c42, cavB e38⟩] (H.own (i := 7) rfl) rfl (all1 (H.slOwn (i := 6) rfl)) (by (try dsimp only); omega) (by omega) (by simp [framed, be_len, cavB_len] <;> omega)) ?_)
     rintro _ w ⟨rfl, Hc⟩
     replace H : Hp _ w _ ([_, _, _, _, _, _, _, _]) := H.call Hc
     clear Hc
     refine ⟨H.sub (.cons_cons _ (.cons_cons _ (.cons_cons _ (.cons_cons _ (.cons _ (.cons_cons _ (List.nil_sublist _))))))), ?_⟩
     replace HS := H.sub (.cons_cons _ (.cons_cons _ (.cons_cons _ (.cons_cons _ (.cons _ (.cons_cons _ (List.nil_sublist _)))))))
     refine t_step 9 rfl (by kernel_rfl) (o_stA (l' := hmac (onF (hmac key (framed [t.head])) (t.cs.l.take i)) (framed [cavB e38])) H (i := 4) rfl rfl rfl cs31 (show (onF (hmac key (framed [t.head])) (t.cs.l.take i)).length = 32 from onF_len _ (hmac_len _ _) _) (show (hmac (onF (hmac key (framed [t.head])) (t.cs.l.take i)) (framed [cavB e38])).length = 32 from hmac_len _ _) (fun w H => ?_))
     replace H : Hp _ w _ ([_, _, _, _, .blk b32 ((hmac (onF (hmac key (framed [t.head])) (t.cs.l.take i)) (framed [cavB e38])).map V8) 31, _, _, _]) := H
     refine ⟨H.sub (.cons_cons _ (.cons_cons _ (.cons_cons _ (.cons_cons _ (.cons _ (.cons_cons _ (List.nil_sublist _))))))), ?_⟩
     replace HS := H.sub (.cons_cons _ (.cons_cons _ (.cons_cons _ (.cons_cons _ (.cons _ (.cons_cons _ (List.nil_sublist _)))))))
     refine t_done (by kernel_rfl) ?_
     clear HS
     repeat refine c_seq ?_
     refine c_region ?_
     refine l_op (o_val (r_mv) ?_)
     refine l_op (o_val (r_bin (a := (i : Int)) (b := 1) rfl rfl (fun _ => b_add (by omega) (by omega))) ?_)
     refine l_op (o_val (r_as) ?_)
     first | refine l_end ?_ | refine l_nil ?_
     rw [onF_succ _ t.cs.l i e38 he39] at H
     refine round_end (i + 1) ?_ ?_ ?_
     · exact ⟨rfl, rfl, rfl, show VI ((i : Int) + 1) = VI ((i + 1 : Nat) : Int) from congrArg VI (by omega), trivial⟩
     · refine ⟨?_, ?_⟩
       · try dsimp only
         exact by omega
       · exact H.sub (.cons_cons _ (.cons_cons _ (.cons_cons _ (.cons_cons _ (.cons_cons _ (.cons_cons _ (List.nil_sublist _)))))))
     · show t.cs.len - (i + 1 : Nat) < t.cs.len - i; omega
    ·
     repeat refine c_seq ?_
     refine c_no (by exact congrArg Value.bool (decide_eq_false hc34)) ?_
     refine c_exit ?_
     repeat refine c_seq ?_
     refine c_region ?_
     refine l_op (o_val (r_ldAA (l := onF (hmac key (framed [t.head])) (t.cs.l.take i)) H (i := 4) rfl rfl rt31 (show (onF (hmac key (framed [t.head])) (t.cs.l.take i)).length = 32 from onF_len _ (hmac_len _ _) _)) ?_)
     refine l_op (o_stA (l' := onF (hmac key (framed [t.head])) (t.cs.l.take i)) H (i := 2) rfl rfl rfl cs31 (show (List.replicate 32 (0 : UInt8)).length = 32 from (List.length_replicate ..)) (show (onF (hmac key (framed [t.head])) (t.cs.l.take i)).length = 32 from onF_len _ (hmac_len _ _) _) (fun w H => ?_))
     replace H : Hp _ w _ ([_, _, .blk b3 ((onF (hmac key (framed [t.head])) (t.cs.l.take i)).map V8) 31, _, _, _]) := H
     first | refine l_end ?_ | refine l_nil ?_
     refine c_ret ?_
     try dsimp only [Exit.then, Exit.inBlock]
     refine e_retA (l := onF (hmac key (framed [t.head])) (t.cs.l.take i)) Try.results116 H (i := 2) rfl rfl rt31 (show (onF (hmac key (framed [t.head])) (t.cs.l.take i)).length = 32 from onF_len _ (hmac_len _ _) _) ?_
     refine ⟨_, rfl, ?_⟩
     have hi2 : i = t.cs.len := by omega
     rw [List.take_of_length_le (by have := hc.ln; omega)]
     exact ⟨rfl, H.sub (List.nil_sublist _)⟩
  ·
   refine (o_alloc H zc31 (fun b44 w H hb44 => ?_))
   replace H : Hp _ w _ ([_, _, _, .blk b44 ((List.replicate 32 (0 : UInt8)).map V8) 31]) := H
   refine ⟨H.sub (.cons_cons _ (.cons_cons _ (.cons_cons _ (List.nil_sublist _)))), ?_⟩
   replace HS := H.sub (.cons_cons _ (.cons_cons _ (.cons_cons _ (List.nil_sublist _))))
   refine t_step 2 rfl (by kernel_rfl) (o_callR Try.func126 rfl rfl rfl (head14_ret _ t (hc.up H) (show (t.tag).length = 32 from htag) (by first | omega | (dsimp only; omega) | simp) hb) ?_)
   rintro _ w ⟨a45, n46, c47, rfl, hn48, hh49, Hc⟩
   replace H : Hp _ w _ ([_, _, _, _, .own a45 n46 c47 ((t.head).map V8) 5 1]) := H.call Hc
   clear Hc
   try dsimp only at hn48
   refine ⟨H.sub (.cons_cons _ (.cons_cons _ (.cons_cons _ (List.nil_sublist _)))), ?_⟩
   replace HS := H.sub (.cons_cons _ (.cons_cons _ (.cons_cons _ (List.nil_sublist _))))
   refine t_step 3 rfl (by kernel_rfl) (o_bslV ([.slice (hd a45) n46 c47]) H sl22 zc29 rfl (by simp [Value.oneCell']) rfl (by decide) (fun b50 w H hb50 => ?_))
   replace H : Hp _ w _ ([_, _, _, _, _, .own (some b50) 1 1 ([.slice (hd a45) n46 c47]) 29 1]) := H
   refine ⟨H.sub (.cons_cons _ (.cons_cons _ (.cons_cons _ (List.nil_sublist _)))), ?_⟩
   replace HS := H.sub (.cons_cons _ (.cons_cons _ (.cons_cons _ (List.nil_sublist _))))
   refine t_step 4 rfl (by kernel_rfl) (o_callR Try.func53 rfl rfl rfl (of3_ret _ (⟨some ⟨b1, 0, none⟩, 32, 32, key⟩ : Sl) (H.slBlkA (i := 0) rfl 32 (show (key).length = 32 from hk) (by decide)) (hd (some b50)) 1 1 [⟨hd a45, n46, c47, t.head⟩] (H.own (i := 5) rfl) rfl (all1 (H.slOwn (i := 4) rfl)) (by (try dsimp only); omega) (by omega) (by simp [framed, be_len] <;> omega)) ?_)
   rintro _ w ⟨rfl, Hc⟩
   replace H : Hp _ w _ ([_, _, _, _, _, _]) := H.call Hc
   clear Hc
   refine ⟨H.sub (.cons_cons _ (.cons_cons _ (.cons_cons _ (List.nil_sublist _)))), ?_⟩
   replace HS := H.sub (.cons_cons _ (.cons_cons _ (.cons_cons _ (List.nil_sublist _))))
   refine t_step 6 rfl (by kernel_rfl) (o_stA (l' := hmac (key) (framed [t.head])) H (i := 3) rfl rfl rfl cs31 (show (List.replicate 32 (0 : UInt8)).length = 32 from (List.length_replicate ..)) (show (hmac (key) (framed [t.head])).length = 32 from hmac_len _ _) (fun w H => ?_))
   replace H : Hp _ w _ ([_, _, _, .blk b44 ((hmac (key) (framed [t.head])).map V8) 31, _, _]) := H
   refine ⟨H.sub (.cons_cons _ (.cons_cons _ (.cons_cons _ (List.nil_sublist _)))), ?_⟩
   replace HS := H.sub (.cons_cons _ (.cons_cons _ (.cons_cons _ (List.nil_sublist _))))
   refine t_done (by kernel_rfl) ?_
   clear HS
   repeat refine c_seq ?_
   refine c_region ?_
   refine l_op (o_val (r_as) ?_)
   first | refine l_end ?_ | refine l_nil ?_
   repeat refine c_seq ?_
   refine c_block ?_
   repeat refine c_seq ?_
   refine c_loop (fun (i : Nat) => [(3, .pointer (some ⟨b2, 0, none⟩)), (4, .pointer (some ⟨b3, 0, none⟩)), (5, .pointer (some ⟨b44, 0, none⟩)), (6, VI (i : Int))])
     (fun (i : Nat) w => (i ≤ t.cs.len) ∧ Hp w0 w [] ([.blk b1 ((key).map V8) 31, .blk b2 ([V64 t.serial, .string ⟨(t.tenant).toArray⟩, V8 t.rights, VI t.from_, VI t.until_, t.cs.v] ++ (t.tag).map V8) 76, .blk b3 ((List.replicate 32 (0 : UInt8)).map V8) 31, .blk b44 ((onF (hmac key (framed [t.head])) (t.cs.l.take i)).map V8) 31, .own a45 n46 c47 ((t.head).map V8) 5 1, .own (some b50) 1 1 ([.slice (hd a45) n46 c47]) 29 1]))
     (fun (i : Nat) => t.cs.len - i) 0 ⟨rfl, rfl, rfl, rfl, trivial⟩ ⟨Nat.zero_le _, H⟩ ?_
   clear H
   rintro i τ w ⟨hi, H⟩
   repeat refine c_seq ?_
   refine c_region ?_
   refine l_op (o_val (r_mv) ?_)
   refine l_op (o_val (r_fa rfl fo76_5) ?_)
   refine l_op (o_val (r_ld (v := t.cs.v) H (i := 1) rfl rfl ct74 rfl) ?_)
   refine l_op (o_val (r_lens el74 rfl) ?_)
   refine l_op (o_val (r_bin (a := (i : Int)) (b := (t.cs.len : Int)) rfl rfl (fun _ => b_lss)) ?_)
   first | refine l_end ?_ | refine l_nil ?_
   by_cases hc51 : (i : Int) < (t.cs.len : Int)
   ·
    repeat refine c_seq ?_
    refine c_yes (by exact congrArg Value.bool (decide_eq_true hc51)) ?_
    refine c_skip ?_
    repeat refine c_seq ?_
    refine c_block ?_
    repeat refine c_seq ?_
    refine wp_held (fun w => Hp w0 w [] [.blk b1 ((key).map V8) 31, .blk b2 ([V64 t.serial, .string ⟨(t.tenant).toArray⟩, V8 t.rights, VI t.from_, VI t.until_, t.cs.v] ++ (t.tag).map V8) 76, .blk b3 ((List.replicate 32 (0 : UInt8)).map V8) 31, .own a45 n46 c47 ((t.head).map V8) 5 1, .own (some b50) 1 1 ([.slice (hd a45) n46 c47]) 29 1]) mixed ?_
    replace H := H.drew
    have HS := H.sub (.cons_cons _ (.cons_cons _ (.cons_cons _ (.cons _ (.cons_cons _ (.cons_cons _ (List.nil_sublist _)))))))
    refine t_take 0 rfl (by kernel_rfl) (by kernel_rfl) (by kernel_rfl) (fun _ _ _ h => h) (fun w HS => r_slA (h := 32) (m := 32) (lv := none) (hv := none) (mv := none) rfl ar31 rfl rfl rfl (fun w => sbn w)) HS ?_
    refine t_take 1 rfl (by kernel_rfl) (by kernel_rfl) (by kernel_rfl) (fun _ _ _ h => h) (fun w HS => r_fa rfl fo76_5) HS ?_
    refine t_take 2 rfl (by kernel_rfl) (by kernel_rfl) (by kernel_rfl) (fun _ _ _ h => h) (fun w HS => r_ld (v := t.cs.v) HS (i := 1) rfl rfl ct74 rfl) HS ?_
    refine t_take 3 rfl (by kernel_rfl) (by kernel_rfl) (by kernel_rfl) (fun _ _ _ h => h) (fun w HS => r_mv) HS ?_
    have ah54 := ((hc.up HS)).addr (by decide) (by first | omega | (dsimp only; omega))
    obtain ⟨ab52, ao53, ah54⟩ := ah54
    refine t_take 4 rfl (by kernel_rfl) (by kernel_rfl) (by kernel_rfl) (fun _ _ _ h => h) (fun w HS => r_isN i rfl rfl el74 ah54 (by omega) (by (try simp only [Sl.cut]); omega)) HS ?_
    have he56 : ∃ c, t.cs.l[i]? = some c := ⟨_, List.getElem?_eq_getElem (by have := ((hc.up HS)).ln; (try dsimp only at this ⊢); omega)⟩
    obtain ⟨e55, he56⟩ := he56
    have hez57 := ((hc.up HS)).sz e55 (List.mem_of_getElem? he56)
    refine t_take 5 rfl (by kernel_rfl) (by kernel_rfl) (by kernel_rfl) (fun _ _ _ h => h) (fun w HS => r_ldRow (s := t.cs) (k := i) (hc.up HS) ah54 rfl rt78 (by decide) he56) HS ?_
    refine t_step 6 rfl (by kernel_rfl) (o_callR Try.func120 rfl rfl rfl (caveat14_ret _ e55 (hb.cs _ (List.mem_of_getElem? (by assumption)))) ?_)
    rintro _ w ⟨a58, c59, rfl, Hc⟩
    replace H : Hp _ w _ ([_, _, _, _, _, _, .own a58 9 c59 ((cavB e55).map V8) 5 1]) := H.call Hc
    clear Hc
    refine ⟨H.sub (.cons_cons _ (.cons_cons _ (.cons_cons _ (.cons _ (.cons_cons _ (.cons_cons _ (List.nil_sublist _))))))), ?_⟩
    replace HS := H.sub (.cons_cons _ (.cons_cons _ (.cons_cons _ (.cons _ (.cons_cons _ (.cons_cons _ (List.nil_sublist _)))))))
    refine t_step 7 rfl (by kernel_rfl) (o_bslV ([.slice (hd a58) 9 c59]) H sl22 zc29 rfl (by simp [Value.oneCell']) rfl (by decide) (fun b60 w H hb60 => ?_))
    replace H : Hp _ w _ ([_, _, _, _, _, _, _, .own (some b60) 1 1 ([.slice (hd a58) 9 c59]) 29 1]) := H
    refine ⟨H.sub (.cons_cons _ (.cons_cons _ (.cons_cons _ (.cons _ (.cons_cons _ (.cons_cons _ (List.nil_sublist _))))))), ?_⟩
    replace HS := H.sub (.cons_cons _ (.cons_cons _ (.cons_cons _ (.cons _ (.cons_cons _ (.cons_cons _ (List.nil_sublist _)))))))
    refine t_step 8 rfl (by kernel_rfl) (o_callR Try.func53 rfl rfl rfl (of3_ret _ (⟨some ⟨b44, 0, none⟩, 32, 32, onF (hmac key (framed [t.head])) (t.cs.l.take i)⟩ : Sl) (H.slBlkA (i := 3) rfl 32 (show (onF (hmac key (framed [t.head])) (t.cs.l.take i)).length = 32 from onF_len _ (hmac_len _ _) _) (by decide)) (hd (some b60)) 1 1 [⟨hd a58, 9, c59, cavB e55⟩] (H.own (i := 7) rfl) rfl (all1 (H.slOwn (i := 6) rfl)) (by (try dsimp only); omega) (by omega) (by simp [framed, be_len, cavB_len] <;> omega)) ?_)
    rintro _ w ⟨rfl, Hc⟩
    replace H : Hp _ w _ ([_, _, _, _, _, _, _, _]) := H.call Hc
    clear Hc
    refine ⟨H.sub (.cons_cons _ (.cons_cons _ (.cons_cons _ (.cons _ (.cons_cons _ (.cons_cons _ (List.nil_sublist _))))))), ?_⟩
    replace HS := H.sub (.cons_cons _ (.cons_cons _ (.cons_cons _ (.cons _ (.cons_cons _ (.cons_cons _ (List.nil_sublist _)))))))
    refine t_step 9 rfl (by kernel_rfl) (o_stA (l' := hmac (onF (hmac key (framed [t.head])) (t.cs.l.take i)) (framed [cavB e55])) H (i := 3) rfl rfl rfl cs31 (show (onF (hmac key (framed [t.head])) (t.cs.l.take i)).length = 32 from onF_len _ (hmac_len _ _) _) (show (hmac (onF (hmac key (framed [t.head])) (t.cs.l.take i)) (framed [cavB e55])).length = 32 from hmac_len _ _) (fun w H => ?_))
    replace H : Hp _ w _ ([_, _, _, .blk b44 ((hmac (onF (hmac key (framed [t.head])) (t.cs.l.take i)) (framed [cavB e55])).map V8) 31, _, _, _, _]) := H
    refine ⟨H.sub (.cons_cons _ (.cons_cons _ (.cons_cons _ (.cons _ (.cons_cons _ (.cons_cons _ (List.nil_sublist _))))))), ?_⟩
    replace HS := H.sub (.cons_cons _ (.cons_cons _ (.cons_cons _ (.cons _ (.cons_cons _ (.cons_cons _ (List.nil_sublist _)))))))
    refine t_done (by kernel_rfl) ?_
    clear HS
    repeat refine c_seq ?_
    refine c_region ?_
    refine l_op (o_val (r_mv) ?_)
    refine l_op (o_val (r_bin (a := (i : Int)) (b := 1) rfl rfl (fun _ => b_add (by omega) (by omega))) ?_)
    refine l_op (o_val (r_as) ?_)
    first | refine l_end ?_ | refine l_nil ?_
    rw [onF_succ _ t.cs.l i e55 he56] at H
    refine round_end (i + 1) ?_ ?_ ?_
    · exact ⟨rfl, rfl, rfl, show VI ((i : Int) + 1) = VI ((i + 1 : Nat) : Int) from congrArg VI (by omega), trivial⟩
    · refine ⟨?_, ?_⟩
      · try dsimp only
        exact by omega
      · exact H.sub (.cons_cons _ (.cons_cons _ (.cons_cons _ (.cons_cons _ (.cons_cons _ (.cons_cons _ (List.nil_sublist _)))))))
    · show t.cs.len - (i + 1 : Nat) < t.cs.len - i; omega
   ·
    repeat refine c_seq ?_
    refine c_no (by exact congrArg Value.bool (decide_eq_false hc51)) ?_
    refine c_exit ?_
    repeat refine c_seq ?_
    refine c_region ?_
    refine l_op (o_val (r_ldAA (l := onF (hmac key (framed [t.head])) (t.cs.l.take i)) H (i := 3) rfl rfl rt31 (show (onF (hmac key (framed [t.head])) (t.cs.l.take i)).length = 32 from onF_len _ (hmac_len _ _) _)) ?_)
    refine l_op (o_stA (l' := onF (hmac key (framed [t.head])) (t.cs.l.take i)) H (i := 2) rfl rfl rfl cs31 (show (List.replicate 32 (0 : UInt8)).length = 32 from (List.length_replicate ..)) (show (onF (hmac key (framed [t.head])) (t.cs.l.take i)).length = 32 from onF_len _ (hmac_len _ _) _) (fun w H => ?_))
    replace H : Hp _ w _ ([_, _, .blk b3 ((onF (hmac key (framed [t.head])) (t.cs.l.take i)).map V8) 31, _, _, _]) := H
    first | refine l_end ?_ | refine l_nil ?_
    refine c_ret ?_
    try dsimp only [Exit.then, Exit.inBlock]
    refine e_retA (l := onF (hmac key (framed [t.head])) (t.cs.l.take i)) Try.results116 H (i := 2) rfl rfl rt31 (show (onF (hmac key (framed [t.head])) (t.cs.l.take i)).length = 32 from onF_len _ (hmac_len _ _) _) ?_
    refine ⟨_, rfl, ?_⟩
    have hi2 : i = t.cs.len := by omega
    rw [List.take_of_length_le (by have := hc.ln; omega)]
    exact ⟨rfl, H.sub (List.nil_sublist _)⟩
end Go.Proofs.Ytjmbbhnpfmblpaa
namespace Go.Proofs.Ytjmbbhnpfmblpaa
open Go
section
variable {P : Program} {Q : Exit → Act → World → Prop} {n : Nat} {σ : Nat → Value} {w w0 : World} {K : Act → World → Prop}
  {ty : TypeId} {pos : String} {aft : Array Edge} {g : Option (Nat × Bool)} {d : Nat} {t : TypeId} {x y : Operand} {S : List Nat} {L : List Ch}
/-- arrays of truths. -/
theorem r_ldBB {b i k : Nat} {l : List Bool} {T : TypeId} (H : Hp w0 w S L) (hi : L[i]? = some (.blk b (l.map Value.bool) T)) (hx : ev n σ x = .pointer (some ⟨b, 0 + k * 1, none⟩)) (ht : cellTy P t = true) (hk : k < l.length) :
    (execOp (ev n σ) ⟨some d, .load t x, ty, pos, aft, g⟩).run P w = .ok (.value (.bool (l.getD k false))) w :=
  r_ld H hi hx ht (by rw [Nat.mul_one, Nat.zero_add, List.getElem?_map, List.getElem?_eq_getElem hk, List.getD_eq_getElem?_getD, List.getElem?_eq_getElem hk]; rfl)
theorem r_ldBA {b i k : Nat} {l : List Bool} {T : TypeId} (H : Hp w0 w S L) (hi : L[i]? = some (.blk b (l.map Value.bool) T)) (hx : ev n σ x = .pointer (some ⟨b, 0, none⟩)) (ht : rowTy P t = some k) (hk : l.length = k) :
    (execOp (ev n σ) ⟨some d, .load t x, ty, pos, aft, g⟩).run P w = .ok (.value (.agg (l.map Value.bool).toArray)) w :=
  r_ldA H hi hx ht (by rw [List.length_map, hk])
theorem o_stBB {b k i : Nat} {l : List Bool} {T : TypeId} {u : Bool} (H : Hp w0 w S L) (hi : L[i]? = some (.blk b (l.map Value.bool) T)) (hx : ev n σ x = .pointer (some ⟨b, 0 + k * 1, none⟩))
    (hy : ev n σ y = .bool u) (hs : cellSz P t = some 1) (hk : k < l.length)
    (h : ∀ w', Hp w0 w' S (L.set i (.blk b ((l.set k u).map Value.bool) T)) → K (mk n σ) w') : Oper.wp P ⟨none, .store t x y, ty, pos, aft, g⟩ (mk n σ) w K Q := by
  refine o_st H hi hx hy hs rfl (by simpa using hk) fun w' H' => h w' ?_
  rw [← List.map_set, Nat.mul_one, Nat.zero_add] at H'
  exact H'
theorem o_stBA {b i k : Nat} {l l' : List Bool} {T : TypeId} (H : Hp w0 w S L) (hi : L[i]? = some (.blk b (l.map Value.bool) T)) (hx : ev n σ x = .pointer (some ⟨b, 0, none⟩)) (hy : ev n σ y = .agg (l'.map Value.bool).toArray)
    (hs : cellSz P t = some k) (h1 : l.length = k) (h2 : l'.length = k)
    (h : ∀ w', Hp w0 w' S (L.set i (.blk b (l'.map Value.bool) T)) → K (mk n σ) w') : Oper.wp P ⟨none, .store t x y, ty, pos, aft, g⟩ (mk n σ) w K Q :=
  o_stw H hi hx hy (by rw [hs, List.size_toArray, List.length_map, h2]) (by rw [List.all_toArray]; simp [Value.oneCell']) (by rw [List.size_toArray, List.length_map, h2, List.length_map, h1]) fun w' H' => h w' H'
end
end Go.Proofs.Ytjmbbhnpfmblpaa
namespace Go.Proofs.Ytjmbbhnpfmblpaa
open Go
set_option maxRecDepth 100000
/-- the first i bits of a byte. -/
def bitsF (r : UInt8) (i : Nat) : List Bool := (List.range 8).map fun j => decide (j < i ∧ r.toNat / 2 ^ j % 2 = 1)
theorem bitsF_len (r : UInt8) (i : Nat) : (bitsF r i).length = 8 := by simp [bitsF]
theorem bitsF_zero (r : UInt8) : bitsF r 0 = List.replicate 8 false := by
  apply List.ext_getElem
  · simp [bitsF]
  · intro j h1 h2; simp only [bitsF, List.getElem_map, List.getElem_range, List.getElem_replicate]; simp
theorem bitsF_succ (r : UInt8) (i : Nat) : (bitsF r i).set i (decide (((r.toNat / 2 ^ i : Nat) : Int) % 2 = 1)) = bitsF r (i + 1) := by
  apply List.ext_getElem
  · simp [bitsF]
  · intro j h1 h2
    simp only [bitsF, List.getElem_set, List.getElem_map, List.getElem_range]
    by_cases hji : i = j
    · subst hji
      rw [if_pos rfl, decide_eq_decide]
      omega
    · rw [if_neg hji, decide_eq_decide]
      constructor <;> intro h <;> exact ⟨by omega, h.2⟩
theorem bits13_ret (w0 : World) (r : UInt8) :
    Ret Try.prog 143 [V8 r] w0 fun v w' => v = .agg ((bitsF r 8).map Value.bool).toArray ∧ Hp w0 w' [] [] := by
  refine ret_mk Try.func143 rfl Try.ntmps143 (by simp) ?_
  have H := Hp.refl w0 []
  repeat refine c_seq ?_
  refine c_region ?_
  refine l_op (o_alloc H zc158 (fun b1 w H hb1 => ?_))
  replace H : Hp _ w _ ([.blk b1 ((List.replicate 8 false).map Value.bool) 158]) := H
  first | refine l_end ?_ | refine l_nil ?_
  repeat refine c_seq ?_
  refine c_region ?_
  refine l_op (o_alloc H zc158 (fun b2 w H hb2 => ?_))
  replace H : Hp _ w _ ([_, .blk b2 ((List.replicate 8 false).map Value.bool) 158]) := H
  first | refine l_end ?_ | refine l_nil ?_
  repeat refine c_seq ?_
  refine c_region ?_
  refine l_op (o_val (r_mv) ?_)
  refine l_op (o_val (r_conv Try.underlying73 Try.underlying3 rfl (w_i64_8 _)) ?_)
  refine l_op (o_val (r_as) ?_)
  first | refine l_end ?_ | refine l_nil ?_
  repeat refine c_seq ?_
  refine c_region ?_
  refine l_op (o_val (r_as) ?_)
  first | refine l_end ?_ | refine l_nil ?_
  repeat refine c_seq ?_
  refine c_block ?_
  repeat refine c_seq ?_
  refine c_loop2 (fun (i : Nat) (k : Nat) => [(2, .pointer (some ⟨b1, 0, none⟩)), (3, .pointer (some ⟨b2, 0, none⟩)), (4, VI (k : Int)), (5, VI (i : Int))])
    (fun (i : Nat) (k : Nat) w => (i ≤ 8 ∧ k < 256 ∧ k = r.toNat / 2 ^ i) ∧ Hp w0 w [] ([.blk b1 ((List.replicate 8 false).map Value.bool) 158, .blk b2 ((bitsF r i).map Value.bool) 158]))
    (fun (i : Nat) (k : Nat) => 8 - i) 0 r.toNat ⟨rfl, rfl, rfl, rfl, trivial⟩ ⟨⟨by omega, u8_lt r, by simp⟩, (by rw [bitsF_zero]; exact H)⟩ ?_
  clear H
  rintro i k τ w ⟨⟨hi, hk2, hk⟩, H⟩
  repeat refine c_seq ?_
  refine c_region ?_
  refine l_op (o_val (r_mv) ?_)
  refine l_op (o_val (r_bin (a := (i : Int)) (b := 8) rfl rfl (fun _ => b_lss)) ?_)
  first | refine l_end ?_ | refine l_nil ?_
  by_cases hc3 : (i : Int) < 8
  ·
   repeat refine c_seq ?_
   refine c_yes (by exact congrArg Value.bool (decide_eq_true hc3)) ?_
   refine c_skip ?_
   repeat refine c_seq ?_
   refine c_block ?_
   repeat refine c_seq ?_
   refine c_region ?_
   refine l_op (o_val (r_mv) ?_)
   refine l_op (o_val (r_mv) ?_)
   refine l_op (o_val (r_bin (a := (k : Int)) (b := 2) rfl rfl (fun _ => b_rem (by omega) (by omega))) ?_)
   refine l_op (o_val (r_bin (a := (k : Int) % 2) (b := 1) rfl rfl (fun _ => b_eql)) ?_)
   refine l_op (o_val (r_iaN i rfl rfl ar158 (by omega) (by omega)) ?_)
   refine l_op (o_stBB (u := decide ((k : Int) % 2 = 1)) (k := i) H (i := 1) rfl rfl rfl cs4 (by rw [(show (bitsF r i).length = 8 from bitsF_len _ _)]; omega) (fun w H => ?_))
   rw [show (bitsF r i).set i (decide ((k : Int) % 2 = 1)) = bitsF r (i + 1) from (by rw [hk]; exact bitsF_succ r i)] at H
   replace H : Hp _ w _ ([_, .blk b2 ((bitsF r (i + 1)).map Value.bool) 158]) := H
   first | refine l_end ?_ | refine l_nil ?_
   repeat refine c_seq ?_
   refine c_region ?_
   refine l_op (o_val (r_mv) ?_)
   refine l_op (o_val (r_bin (a := (k : Int)) (b := 2) rfl rfl (fun _ => b_quo (by omega) (by omega) (by omega))) ?_)
   refine l_op (o_val (r_as) ?_)
   first | refine l_end ?_ | refine l_nil ?_
   repeat refine c_seq ?_
   refine c_region ?_
   refine l_op (o_val (r_mv) ?_)
   refine l_op (o_val (r_bin (a := (i : Int)) (b := 1) rfl rfl (fun _ => b_add (by omega) (by omega))) ?_)
   refine l_op (o_val (r_as) ?_)
   first | refine l_end ?_ | refine l_nil ?_
   refine round_end (i + 1, k / 2) ?_ ?_ ?_
   · exact ⟨rfl, rfl, show VI ((k : Int) / 2) = VI ((k / 2 : Nat) : Int) from congrArg VI (by omega), show VI ((i : Int) + 1) = VI ((i + 1 : Nat) : Int) from congrArg VI (by omega), trivial⟩
   · refine ⟨?_, ?_⟩
     · try dsimp only
       exact ⟨by omega, by omega, by rw [hk, Nat.pow_succ, ← Nat.div_div_eq_div_mul]⟩
     · exact H
   · show 8 - (i + 1 : Nat) < 8 - i; omega
  ·
   repeat refine c_seq ?_
   refine c_no (by exact congrArg Value.bool (decide_eq_false hc3)) ?_
   refine c_exit ?_
   repeat refine c_seq ?_
   refine c_region ?_
   refine l_op (o_val (r_ldBA (l := bitsF r i) H (i := 1) rfl rfl rt158 (show (bitsF r i).length = 8 from bitsF_len _ _)) ?_)
   refine l_op (o_stBA (l' := bitsF r i) H (i := 0) rfl rfl rfl cs158 (show (List.replicate 8 false).length = 8 from (List.length_replicate ..)) (show (bitsF r i).length = 8 from bitsF_len _ _) (fun w H => ?_))
   replace H : Hp _ w _ ([.blk b1 ((bitsF r i).map Value.bool) 158, _]) := H
   first | refine l_end ?_ | refine l_nil ?_
   refine c_ret ?_
   try dsimp only [Exit.then, Exit.inBlock]
   refine e_retc Try.results143 H (i := 0) rfl rfl rt158 (by rw [List.length_map, (show (bitsF r i).length = 8 from bitsF_len _ _)]) ?_
   refine ⟨_, rfl, ?_⟩
   have hi2 : i = 8 := by omega
   subst hi2
   exact ⟨rfl, H.sub (List.nil_sublist _)⟩
def ofF (l : List Bool) : Nat → Nat
  | 0 => 0
  | i + 1 => ofF l i + if l.getD i false = true then 2 ^ i else 0
theorem ofF_lt (l : List Bool) : ∀ i, ofF l i < 2 ^ i := by
  intro i
  induction i with
  | zero => simp [ofF]
  | succ i ih => simp only [ofF, Nat.pow_succ]; split <;> omega
def andF (r s : UInt8) (i : Nat) : List Bool := (List.range 8).map fun j => decide (r.toNat / 2 ^ j % 2 = 1) && (decide (i ≤ j) || decide (s.toNat / 2 ^ j % 2 = 1))
theorem andF_len (r s : UInt8) (i : Nat) : (andF r s i).length = 8 := by simp [andF]
theorem andF_zero (r s : UInt8) : andF r s 0 = bitsF r 8 := by
  apply List.ext_getElem
  · simp [andF, bitsF]
  · intro j h1 h2
    have : j < 8 := by simpa [andF] using h1
    simp only [andF, bitsF, List.getElem_map, List.getElem_range]; simp [this]
theorem bitsF_get (s : UInt8) (i : Nat) (h : i < 8) : (bitsF s 8).getD i false = decide (s.toNat / 2 ^ i % 2 = 1) := by
  rw [List.getD_eq_getElem?_getD, List.getElem?_eq_getElem (by rw [bitsF_len]; exact h), Option.getD_some]
  simp only [bitsF, List.getElem_map, List.getElem_range]; simp [h]
theorem andF_get (r s : UInt8) (i j : Nat) (h : j < 8) : (andF r s i).getD j false = (decide (r.toNat / 2 ^ j % 2 = 1) && (decide (i ≤ j) || decide (s.toNat / 2 ^ j % 2 = 1))) := by
  rw [List.getD_eq_getElem?_getD, List.getElem?_eq_getElem (by rw [andF_len]; exact h), Option.getD_some]
  simp only [andF, List.getElem_map, List.getElem_range]
theorem andF_succ (r s : UInt8) (i : Nat) (u : Bool) (h : i < 8) (hu : u = (decide (r.toNat / 2 ^ i % 2 = 1) && decide (s.toNat / 2 ^ i % 2 = 1))) : (andF r s i).set i u = andF r s (i + 1) := by
  apply List.ext_getElem
  · simp [andF]
  · intro j h1 h2
    simp only [andF, List.getElem_set, List.getElem_map, List.getElem_range]
    by_cases hji : i = j
    · subst hji
      rw [if_pos rfl, hu, decide_eq_false (by omega : ¬ (i + 1 ≤ i)), Bool.false_or]
    · rw [if_neg hji, show decide (i ≤ j) = decide (i + 1 ≤ j) from decide_eq_decide.2 (by omega)]
theorem andF_t (r s : UInt8) (i : Nat) (h : i < 8) (ht : (andF r s i).getD i false = true) : (andF r s i).set i ((bitsF s 8).getD i false) = andF r s (i + 1) := by
  apply andF_succ _ _ _ _ h
  rw [andF_get _ _ _ _ h] at ht
  rw [bitsF_get _ _ h, (Bool.and_eq_true_iff.1 ht).1, Bool.true_and]
theorem andF_f (r s : UInt8) (i : Nat) (h : i < 8) (ht : (andF r s i).getD i false = false) : (andF r s i).set i false = andF r s (i + 1) := by
  apply andF_succ _ _ _ _ h
  rw [andF_get _ _ _ _ h, decide_eq_true (Nat.le_refl i), Bool.true_or, Bool.and_true] at ht
  rw [ht, Bool.false_and]
theorem ofF_and (r s : UInt8) : ∀ i, i ≤ 8 → ofF (andF r s 8) i = (r.toNat &&& s.toNat) % 2 ^ i := by
  intro i
  induction i with
  | zero => intro _; simp [ofF, Nat.mod_one]
  | succ i ih =>
    intro h
    rw [ofF, ih (by omega), Nat.mod_pow_succ, andF_get _ _ _ _ (by omega), decide_eq_false (by omega : ¬ (8 ≤ i)), Bool.false_or]
    congr 1
    have e : (r.toNat &&& s.toNat).testBit i = (r.toNat.testBit i && s.toNat.testBit i) := Nat.testBit_and ..
    simp only [Nat.testBit_eq_decide_div_mod_eq] at e
    rw [← e]
    simp only [decide_eq_true_eq]
    split
    · rename_i h1; rw [h1, Nat.mul_one]
    · rename_i h1; rw [show (r.toNat &&& s.toNat) / 2 ^ i % 2 = 0 by omega, Nat.mul_zero]
theorem of_meet (r s : UInt8) : UInt8.ofNat (ofF (andF r s 8) 8) = r &&& s := by
  have h2 : r.toNat &&& s.toNat ≤ r.toNat := Nat.and_le_left
  have := u8_lt r
  apply UInt8.toNat_inj.1
  rw [ofF_and r s 8 (by omega), UInt8.toNat_ofNat', UInt8.toNat_and]
  omega
theorem of13_ret (w0 : World) (l : List Bool) (hl : l.length = 8) :
    Ret Try.prog 144 [.agg ((l).map Value.bool).toArray] w0 fun v w' => v = V8 (UInt8.ofNat (ofF l 8)) ∧ Hp w0 w' [] [] := by
  refine ret_mk Try.func144 rfl Try.ntmps144 (by simp) ?_
  have H := Hp.refl w0 []
  repeat refine c_seq ?_
  refine c_region ?_
  refine l_op (o_box (v := .agg ((l).map Value.bool).toArray) H rfl (fun b1 w H hb1 => ?_))
  replace H : Hp _ w _ ([.blk b1 ((l).map Value.bool) 158]) := H
  refine l_op (o_val (r_asV (c8 0 (by decide))) ?_)
  first | refine l_end ?_ | refine l_nil ?_
  repeat refine c_seq ?_
  refine c_region ?_
  refine l_op (o_val (r_as) ?_)
  refine l_op (o_val (r_as) ?_)
  first | refine l_end ?_ | refine l_nil ?_
  repeat refine c_seq ?_
  refine c_region ?_
  refine l_op (o_val (r_as) ?_)
  first | refine l_end ?_ | refine l_nil ?_
  repeat refine c_seq ?_
  refine c_block ?_
  repeat refine c_seq ?_
  refine c_loop3 (fun (i : Nat) (k : Nat) (p : Nat) => [(1, .pointer (some ⟨b1, 0, none⟩)), (3, VI (k : Int)), (4, VI (p : Int)), (5, VI (i : Int))])
    (fun (i : Nat) (k : Nat) (p : Nat) w => (i ≤ 8 ∧ p = 2 ^ i ∧ k = ofF l i) ∧ Hp w0 w [] ([.blk b1 ((l).map Value.bool) 158]))
    (fun (i : Nat) (k : Nat) (p : Nat) => 8 - i) 0 0 1 ⟨rfl, rfl, rfl, rfl, trivial⟩ ⟨⟨by omega, rfl, rfl⟩, H⟩ ?_
  clear H
  rintro i k p τ w ⟨⟨hi, hp, hk⟩, H⟩
  have hkl := ofF_lt l i
  have hpl : 2 ^ i ≤ 2 ^ 8 := Nat.pow_le_pow_right (by omega) hi
  rw [← hk, ← hp] at hkl
  rw [← hp] at hpl
  repeat refine c_seq ?_
  refine c_region ?_
  refine l_op (o_val (r_mv) ?_)
  refine l_op (o_val (r_bin (a := (i : Int)) (b := 8) rfl rfl (fun _ => b_lss)) ?_)
  first | refine l_end ?_ | refine l_nil ?_
  by_cases hc2 : (i : Int) < 8
  ·
   repeat refine c_seq ?_
   refine c_yes (by exact congrArg Value.bool (decide_eq_true hc2)) ?_
   refine c_skip ?_
   repeat refine c_seq ?_
   refine c_block ?_
   repeat refine c_seq ?_
   refine c_region ?_
   refine l_op (o_val (r_mv) ?_)
   refine l_op (o_val (r_iaN i rfl rfl ar158 (by omega) (by omega)) ?_)
   refine l_op (o_val (r_ldBB (k := i) (l := l) H (i := 0) rfl rfl ct4 (by rw [(show (l).length = 8 from hl)]; omega)) ?_)
   first | refine l_end ?_ | refine l_nil ?_
   rcases Bool.eq_false_or_eq_true ((l).getD i false) with hc3 | hc3
   ·
    repeat refine c_seq ?_
    refine c_yes (by exact congrArg Value.bool hc3) ?_
    repeat refine c_seq ?_
    refine c_region ?_
    refine l_op (o_val (r_mv) ?_)
    refine l_op (o_val (r_mv) ?_)
    refine l_op (o_val (r_bin (a := (k : Int)) (b := (p : Int)) rfl rfl (fun _ => b_add (by omega) (by omega))) ?_)
    refine l_op (o_val (r_as) ?_)
    first | refine l_end ?_ | refine l_nil ?_
    repeat refine c_seq ?_
    refine c_region ?_
    refine l_op (o_val (r_mv) ?_)
    refine l_op (o_val (r_bin (a := (p : Int)) (b := 2) rfl rfl (fun _ => b_mul (by omega) (by omega))) ?_)
    refine l_op (o_val (r_as) ?_)
    first | refine l_end ?_ | refine l_nil ?_
    repeat refine c_seq ?_
    refine c_region ?_
    refine l_op (o_val (r_mv) ?_)
    refine l_op (o_val (r_bin (a := (i : Int)) (b := 1) rfl rfl (fun _ => b_add (by omega) (by omega))) ?_)
    refine l_op (o_val (r_as) ?_)
    first | refine l_end ?_ | refine l_nil ?_
    refine round_end (i + 1, k + p, p * 2) ?_ ?_ ?_
    · exact ⟨rfl, show VI ((k : Int) + (p : Int)) = VI ((k + p : Nat) : Int) from congrArg VI (by omega), show VI ((p : Int) * 2) = VI ((p * 2 : Nat) : Int) from congrArg VI (by omega), show VI ((i : Int) + 1) = VI ((i + 1 : Nat) : Int) from congrArg VI (by omega), trivial⟩
    · refine ⟨?_, ?_⟩
      · try dsimp only
        exact ⟨by omega, by rw [Nat.pow_succ, hp], by rw [ofF, ← hk]; rw [if_pos hc3]; omega⟩
      · exact H
    · show 8 - (i + 1 : Nat) < 8 - i; omega
   ·
    repeat refine c_seq ?_
    refine c_no (by exact congrArg Value.bool hc3) ?_
    refine c_skip ?_
    repeat refine c_seq ?_
    refine c_region ?_
    refine l_op (o_val (r_mv) ?_)
    refine l_op (o_val (r_bin (a := (p : Int)) (b := 2) rfl rfl (fun _ => b_mul (by omega) (by omega))) ?_)
    refine l_op (o_val (r_as) ?_)
    first | refine l_end ?_ | refine l_nil ?_
    repeat refine c_seq ?_
    refine c_region ?_
    refine l_op (o_val (r_mv) ?_)
    refine l_op (o_val (r_bin (a := (i : Int)) (b := 1) rfl rfl (fun _ => b_add (by omega) (by omega))) ?_)
    refine l_op (o_val (r_as) ?_)
    first | refine l_end ?_ | refine l_nil ?_
    refine round_end (i + 1, k, p * 2) ?_ ?_ ?_
    · exact ⟨rfl, show VI (k : Int) = VI ((k : Nat) : Int) from congrArg VI (by omega), show VI ((p : Int) * 2) = VI ((p * 2 : Nat) : Int) from congrArg VI (by omega), show VI ((i : Int) + 1) = VI ((i + 1 : Nat) : Int) from congrArg VI (by omega), trivial⟩
    · refine ⟨?_, ?_⟩
      · try dsimp only
        exact ⟨by omega, by rw [Nat.pow_succ, hp], by rw [ofF, ← hk]; rw [if_neg (by rw [hc3]; decide)]; rfl⟩
      · exact H
    · show 8 - (i + 1 : Nat) < 8 - i; omega
  ·
   repeat refine c_seq ?_
   refine c_no (by exact congrArg Value.bool (decide_eq_false hc2)) ?_
   refine c_exit ?_
   repeat refine c_seq ?_
   refine c_region ?_
   refine l_op (o_val (r_mv) ?_)
   refine l_op (o_val (r_conv (v := ((UInt8.ofNat k).toNat : Int)) Try.underlying3 Try.underlying73 rfl (w_u8_N k (by omega))) ?_)
   refine l_op (o_val (r_as) ?_)
   first | refine l_end ?_ | refine l_nil ?_
   refine c_ret ?_
   try dsimp only [Exit.then, Exit.inBlock]
   refine e_ret1 (v := V8 (UInt8.ofNat k)) Try.results144 rfl ?_
   refine ⟨_, rfl, ?_⟩
   have hi2 : i = 8 := by omega
   subst hi2
   rw [← hk]
   exact ⟨rfl, H.sub (List.nil_sublist _)⟩
theorem meet13_ret (w0 : World) (r s : UInt8) :
    Ret Try.prog 122 [V8 r, V8 s] w0 fun v w' => v = V8 (r &&& s) ∧ Hp w0 w' [] [] := by
  refine ret_mk Try.func122 rfl Try.ntmps122 (by simp) ?_
  have H := Hp.refl w0 []
  repeat refine c_seq ?_
  refine c_region ?_
  refine l_op (o_val (r_asV (c8 0 (by decide))) ?_)
  first | refine l_end ?_ | refine l_nil ?_
  repeat refine c_seq ?_
  refine c_region ?_
  refine l_op (o_val (r_mv) ?_)
  refine l_op (o_callR Try.func143 rfl rfl rfl (bits13_ret _ (r)) ?_)
  rintro _ w ⟨rfl, Hc⟩
  replace H : Hp _ w _ ([]) := H.call Hc
  clear Hc
  refine l_op (o_val (r_mv) ?_)
  refine l_op (o_callR Try.func143 rfl rfl rfl (bits13_ret _ (s)) ?_)
  rintro _ w ⟨rfl, Hc⟩
  replace H : Hp _ w _ ([]) := H.call Hc
  clear Hc
  refine l_op (o_alloc H zc158 (fun b1 w H hb1 => ?_))
  replace H : Hp _ w _ ([.blk b1 ((List.replicate 8 false).map Value.bool) 158]) := H
  refine l_op (o_alloc H zc158 (fun b2 w H hb2 => ?_))
  replace H : Hp _ w _ ([_, .blk b2 ((List.replicate 8 false).map Value.bool) 158]) := H
  refine l_op (o_stBA (l' := bitsF (r) 8) H (i := 0) rfl rfl rfl cs158 (show (List.replicate 8 false).length = 8 from (List.length_replicate ..)) (show (bitsF (r) 8).length = 8 from bitsF_len _ _) (fun w H => ?_))
  replace H : Hp _ w _ ([.blk b1 ((bitsF (r) 8).map Value.bool) 158, _]) := H
  refine l_op (o_stBA (l' := bitsF (s) 8) H (i := 1) rfl rfl rfl cs158 (show (List.replicate 8 false).length = 8 from (List.length_replicate ..)) (show (bitsF (s) 8).length = 8 from bitsF_len _ _) (fun w H => ?_))
  replace H : Hp _ w _ ([_, .blk b2 ((bitsF (s) 8).map Value.bool) 158]) := H
  first | refine l_end ?_ | refine l_nil ?_
  repeat refine c_seq ?_
  refine c_region ?_
  refine l_op (o_val (r_as) ?_)
  first | refine l_end ?_ | refine l_nil ?_
  repeat refine c_seq ?_
  refine c_block ?_
  repeat refine c_seq ?_
  refine c_loop (fun (i : Nat) => [(5, .pointer (some ⟨b1, 0, none⟩)), (6, .pointer (some ⟨b2, 0, none⟩)), (7, VI (i : Int))])
    (fun (i : Nat) w => (i ≤ 8) ∧ Hp w0 w [] ([.blk b1 ((andF r s i).map Value.bool) 158, .blk b2 ((bitsF (s) 8).map Value.bool) 158]))
    (fun (i : Nat) => 8 - i) 0 ⟨rfl, rfl, rfl, trivial⟩ ⟨by omega, (by rw [andF_zero]; exact H)⟩ ?_
  clear H
  rintro i τ w ⟨hi, H⟩
  repeat refine c_seq ?_
  refine c_region ?_
  refine l_op (o_val (r_mv) ?_)
  refine l_op (o_val (r_bin (a := (i : Int)) (b := 8) rfl rfl (fun _ => b_lss)) ?_)
  first | refine l_end ?_ | refine l_nil ?_
  by_cases hc3 : (i : Int) < 8
  ·
   repeat refine c_seq ?_
   refine c_yes (by exact congrArg Value.bool (decide_eq_true hc3)) ?_
   refine c_skip ?_
   repeat refine c_seq ?_
   refine c_block ?_
   repeat refine c_seq ?_
   refine c_region ?_
   refine l_op (o_val (r_mv) ?_)
   refine l_op (o_val (r_mv) ?_)
   refine l_op (o_val (r_iaN i rfl rfl ar158 (by omega) (by omega)) ?_)
   refine l_op (o_val (r_ldBB (k := i) (l := andF r s i) H (i := 0) rfl rfl ct4 (by rw [(show (andF r s i).length = 8 from andF_len _ _ _)]; omega)) ?_)
   refine l_op (o_val (r_mv) ?_)
   rcases Bool.eq_false_or_eq_true ((andF r s i).getD i false) with hc4 | hc4
   ·
    refine l_yes rfl rfl (by exact congrArg Value.bool hc4) (o_val (r_mv) ?_)
    refine l_yes rfl rfl (by exact congrArg Value.bool hc4) (o_val (r_iaN i rfl rfl ar158 (by omega) (by omega)) ?_)
    refine l_yes rfl rfl (by exact congrArg Value.bool hc4) (o_val (r_ldBB (k := i) (l := bitsF (s) 8) H (i := 1) rfl rfl ct4 (by rw [(show (bitsF (s) 8).length = 8 from bitsF_len _ _)]; omega)) ?_)
    refine l_op (o_val (r_pick (b := true) (congrArg Value.bool hc4)) ?_)
    refine l_op (o_val (r_iaN i rfl rfl ar158 (by omega) (by omega)) ?_)
    refine l_op (o_stBB (u := (bitsF (s) 8).getD i false) (k := i) H (i := 0) rfl rfl rfl cs4 (by rw [(show (andF r s i).length = 8 from andF_len _ _ _)]; omega) (fun w H => ?_))
    rw [show (andF r s i).set i ((bitsF (s) 8).getD i false) = andF r s (i + 1) from andF_t r s i (by omega) hc4] at H
    replace H : Hp _ w _ ([.blk b1 ((andF r s (i + 1)).map Value.bool) 158, _]) := H
    first | refine l_end ?_ | refine l_nil ?_
    repeat refine c_seq ?_
    refine c_region ?_
    refine l_op (o_val (r_mv) ?_)
    refine l_op (o_val (r_bin (a := (i : Int)) (b := 1) rfl rfl (fun _ => b_add (by omega) (by omega))) ?_)
    refine l_op (o_val (r_as) ?_)
    first | refine l_end ?_ | refine l_nil ?_
    refine round_end (i + 1) ?_ ?_ ?_
    · exact ⟨rfl, rfl, show VI ((i : Int) + 1) = VI ((i + 1 : Nat) : Int) from congrArg VI (by omega), trivial⟩
    · refine ⟨?_, ?_⟩
      · try dsimp only
        exact by omega
      · exact H
    · show 8 - (i + 1 : Nat) < 8 - i; omega
   ·
    refine l_no rfl rfl (by exact congrArg Value.bool hc4) rfl ?_
    refine l_no rfl rfl (by exact congrArg Value.bool hc4) rfl ?_
    refine l_no rfl rfl (by exact congrArg Value.bool hc4) rfl ?_
    refine l_op (o_val (r_pick (b := false) (congrArg Value.bool hc4)) ?_)
    refine l_op (o_val (r_iaN i rfl rfl ar158 (by omega) (by omega)) ?_)
    refine l_op (o_stBB (u := false) (k := i) H (i := 0) rfl rfl rfl cs4 (by rw [(show (andF r s i).length = 8 from andF_len _ _ _)]; omega) (fun w H => ?_))
    rw [show (andF r s i).set i (false) = andF r s (i + 1) from andF_f r s i (by omega) hc4] at H
    replace H : Hp _ w _ ([.blk b1 ((andF r s (i + 1)).map Value.bool) 158, _]) := H
    first | refine l_end ?_ | refine l_nil ?_
    repeat refine c_seq ?_
    refine c_region ?_
    refine l_op (o_val (r_mv) ?_)
    refine l_op (o_val (r_bin (a := (i : Int)) (b := 1) rfl rfl (fun _ => b_add (by omega) (by omega))) ?_)
    refine l_op (o_val (r_as) ?_)
    first | refine l_end ?_ | refine l_nil ?_
    refine round_end (i + 1) ?_ ?_ ?_
    · exact ⟨rfl, rfl, show VI ((i : Int) + 1) = VI ((i + 1 : Nat) : Int) from congrArg VI (by omega), trivial⟩
    · refine ⟨?_, ?_⟩
      · try dsimp only
        exact by omega
      · exact H
    · show 8 - (i + 1 : Nat) < 8 - i; omega
  ·
   repeat refine c_seq ?_
   refine c_no (by exact congrArg Value.bool (decide_eq_false hc3)) ?_
   refine c_exit ?_
   repeat refine c_seq ?_
   refine c_region ?_
   refine l_op (o_val (r_ldBA (l := andF r s i) H (i := 0) rfl rfl rt158 (show (andF r s i).length = 8 from andF_len _ _ _)) ?_)
   refine l_op (o_callR Try.func144 rfl rfl rfl (of13_ret _ (andF r s i) (show (andF r s i).length = 8 from andF_len _ _ _)) ?_)
   rintro _ w ⟨rfl, Hc⟩
   replace H : Hp _ w _ ([_, _]) := H.call Hc
   clear Hc
   refine l_op (o_val (r_as) ?_)
   first | refine l_end ?_ | refine l_nil ?_
   refine c_ret ?_
   try dsimp only [Exit.then, Exit.inBlock]
   refine e_ret1 (v := V8 (UInt8.ofNat (ofF (andF r s i) 8))) Try.results122 rfl ?_
   refine ⟨_, rfl, ?_⟩
   have hi2 : i = 8 := by omega
   subst hi2
   rw [of_meet]
   exact ⟨rfl, H.sub (List.nil_sublist _)⟩
end Go.Proofs.Ytjmbbhnpfmblpaa
namespace Go.Proofs.Ytjmbbhnpfmblpaa
open Go
set_option maxRecDepth 100000
theorem effect14_ret (w0 : World) (t : Tok) (hc : t.cs.ok cavE 2 w0) (_htag : t.tag.length = 32) :
    Ret Try.prog 73 [.agg ([V64 t.serial, .string ⟨(t.tenant).toArray⟩, V8 t.rights, VI t.from_, VI t.until_, t.cs.v] ++ (t.tag).map V8).toArray] w0 fun v w' => v = .tuple #[V8 (effF t.rights t.until_ t.cs.l).1, VI (effF t.rights t.until_ t.cs.l).2] ∧ Hp w0 w' [] [] := by
  refine ret_mk Try.func73 rfl Try.ntmps73 (by simp) ?_
  have H := Hp.refl w0 []
  have hxl := hc.le
  have hxm := hc.mx
  have hmL : maxLen = 9223372036854775807 := rfl
  repeat refine c_seq ?_
  refine c_region ?_
  refine l_op (o_box (v := .agg ([V64 t.serial, .string ⟨(t.tenant).toArray⟩, V8 t.rights, VI t.from_, VI t.until_, t.cs.v] ++ (t.tag).map V8).toArray) H rfl (fun b1 w H hb1 => ?_))
  replace H : Hp _ w _ ([.blk b1 ([V64 t.serial, .string ⟨(t.tenant).toArray⟩, V8 t.rights, VI t.from_, VI t.until_, t.cs.v] ++ (t.tag).map V8) 76]) := H
  refine l_op (o_val (r_asV (c8 0 (by decide))) ?_)
  refine l_op (o_val (r_as) ?_)
  first | refine l_end ?_ | refine l_nil ?_
  repeat refine c_seq ?_
  refine c_still mixed (by kernel_rfl) ?_
  replace H := H.drew
  refine s_op (r_fa rfl fo76_2) ?_
  refine s_op (r_ld (v := V8 t.rights) H (i := 0) rfl rfl ct73 rfl) ?_
  refine s_op (r_fa rfl fo76_4) ?_
  refine s_op (r_ld (v := VI t.until_) H (i := 0) rfl rfl ct2 rfl) ?_
  refine s_op (r_as) ?_
  refine s_op (r_as) ?_
  refine s_nil ?_
  repeat refine c_seq ?_
  refine c_region ?_
  refine l_op (o_val (r_as) ?_)
  first | refine l_end ?_ | refine l_nil ?_
  repeat refine c_seq ?_
  refine c_block ?_
  repeat refine c_seq ?_
  refine c_loop (fun (i : Nat) => [(1, .pointer (some ⟨b1, 0, none⟩)), (4, V8 ((effF t.rights t.until_ (t.cs.l.take i)).1)), (5, VI ((effF t.rights t.until_ (t.cs.l.take i)).2)), (6, VI (i : Int))])
    (fun (i : Nat) w => (i ≤ t.cs.len) ∧ Hp w0 w [] ([.blk b1 ([V64 t.serial, .string ⟨(t.tenant).toArray⟩, V8 t.rights, VI t.from_, VI t.until_, t.cs.v] ++ (t.tag).map V8) 76]))
    (fun (i : Nat) => t.cs.len - i) 0 ⟨rfl, rfl, rfl, rfl, trivial⟩ ⟨Nat.zero_le _, H⟩ ?_
  clear H
  rintro i τ w ⟨hi, H⟩
  repeat refine c_seq ?_
  refine c_region ?_
  refine l_op (o_val (r_mv) ?_)
  refine l_op (o_val (r_fa rfl fo76_5) ?_)
  refine l_op (o_val (r_ld (v := t.cs.v) H (i := 0) rfl rfl ct74 rfl) ?_)
  refine l_op (o_val (r_lens el74 rfl) ?_)
  refine l_op (o_val (r_bin (a := (i : Int)) (b := (t.cs.len : Int)) rfl rfl (fun _ => b_lss)) ?_)
  first | refine l_end ?_ | refine l_nil ?_
  by_cases hc2 : (i : Int) < (t.cs.len : Int)
  ·
   repeat refine c_seq ?_
   refine c_yes (by exact congrArg Value.bool (decide_eq_true hc2)) ?_
   refine c_skip ?_
   repeat refine c_seq ?_
   refine c_block ?_
   repeat refine c_seq ?_
   refine c_region ?_
   refine l_op (o_val (r_mv) ?_)
   refine l_op (o_val (r_fa rfl fo76_5) ?_)
   refine l_op (o_val (r_ld (v := t.cs.v) H (i := 0) rfl rfl ct74 rfl) ?_)
   refine l_op (o_val (r_mv) ?_)
   have ah5 := ((hc.up H)).addr (by decide) (by first | omega | (dsimp only; omega))
   obtain ⟨ab3, ao4, ah5⟩ := ah5
   refine l_op (o_val (r_isN i rfl rfl el74 ah5 (by omega) (by (try simp only [Sl.cut]); omega)) ?_)
   refine l_op (o_val (r_fa rfl fo78_0) ?_)
   have he7 : ∃ c, t.cs.l[i]? = some c := ⟨_, List.getElem?_eq_getElem (by have := ((hc.up H)).ln; (try dsimp only at this ⊢); omega)⟩
   obtain ⟨e6, he7⟩ := he7
   have hez8 := ((hc.up H)).sz e6 (List.mem_of_getElem? he7)
   refine l_op (o_val (r_ldFld (v := V8 e6.1) (s := t.cs) (k := i) (off := 0) (hc.up H) ah5 rfl ct73 he7 (by decide) rfl) ?_)
   refine l_op (o_callR Try.func122 rfl rfl rfl (meet13_ret _ ((effF t.rights t.until_ (t.cs.l.take i)).1) (e6.1)) ?_)
   rintro _ w ⟨rfl, Hc⟩
   replace H : Hp _ w _ ([_]) := H.call Hc
   clear Hc
   refine l_op (o_val (r_as) ?_)
   first | refine l_end ?_ | refine l_nil ?_
   repeat refine c_seq ?_
   refine c_region ?_
   refine l_op (o_val (r_mv) ?_)
   refine l_op (o_val (r_fa rfl fo76_5) ?_)
   refine l_op (o_val (r_ld (v := t.cs.v) H (i := 0) rfl rfl ct74 rfl) ?_)
   refine l_op (o_val (r_mv) ?_)
   refine l_op (o_val (r_isN i rfl rfl el74 ah5 (by omega) (by (try simp only [Sl.cut]); omega)) ?_)
   refine l_op (o_val (r_fa rfl fo78_1) ?_)
   refine l_op (o_val (r_ldFld (v := VI e6.2) (s := t.cs) (k := i) (off := 1) (hc.up H) ah5 rfl ct2 he7 (by decide) rfl) ?_)
   refine l_op (o_val (r_min rfl rfl) ?_)
   refine l_op (o_val (r_as) ?_)
   first | refine l_end ?_ | refine l_nil ?_
   repeat refine c_seq ?_
   refine c_region ?_
   refine l_op (o_val (r_mv) ?_)
   refine l_op (o_val (r_bin (a := (i : Int)) (b := 1) rfl rfl (fun _ => b_add (by omega) (by omega))) ?_)
   refine l_op (o_val (r_as) ?_)
   first | refine l_end ?_ | refine l_nil ?_
   have es := effF_succ t.rights t.until_ t.cs.l i e6 he7
   refine round_end (i + 1) ?_ ?_ ?_
   · exact ⟨rfl, show V8 (((effF t.rights t.until_ (t.cs.l.take i)).1) &&& e6.1) = V8 ((effF t.rights t.until_ (t.cs.l.take (i + 1 : Nat))).1) from congrArg V8 (by rw [es]), show VI (if e6.2 < (effF t.rights t.until_ (t.cs.l.take i)).2 then e6.2 else (effF t.rights t.until_ (t.cs.l.take i)).2) = VI ((effF t.rights t.until_ (t.cs.l.take (i + 1 : Nat))).2) from congrArg VI (by rw [es]), show VI ((i : Int) + 1) = VI ((i + 1 : Nat) : Int) from congrArg VI (by omega), trivial⟩
   · refine ⟨?_, ?_⟩
     · try dsimp only
       exact by omega
     · exact H
   · show t.cs.len - (i + 1 : Nat) < t.cs.len - i; omega
  ·
   repeat refine c_seq ?_
   refine c_no (by exact congrArg Value.bool (decide_eq_false hc2)) ?_
   refine c_exit ?_
   repeat refine c_seq ?_
   refine c_region ?_
   refine l_op (o_val (r_mv) ?_)
   refine l_op (o_val (r_mv) ?_)
   refine l_op (o_val (r_as) ?_)
   refine l_op (o_val (r_as) ?_)
   first | refine l_end ?_ | refine l_nil ?_
   refine c_ret ?_
   try dsimp only [Exit.then, Exit.inBlock]
   refine e_retN (vs := [V8 ((effF t.rights t.until_ (t.cs.l.take i)).1), VI ((effF t.rights t.until_ (t.cs.l.take i)).2)]) _ Try.results73 rfl (resT (v := V8 ((effF t.rights t.until_ (t.cs.l.take i)).1)) rfl (resT (v := VI ((effF t.rights t.until_ (t.cs.l.take i)).2)) rfl (resZ))) ?_
   refine ⟨_, rfl, ?_⟩
   rw [List.take_of_length_le (by have := hc.ln; omega)]
   exact ⟨rfl, H.sub (List.nil_sublist _)⟩
theorem check14r_ret (w0 : World) (key : List UInt8) (hk : key.length = 32) (t : Tok) (hc : t.cs.ok cavE 2 w0) (htag : t.tag.length = 32) (hn : t.tenant.length ≤ 65536) (hb : t.bd) (now : Int) :
    Ret Try.prog 78 [.agg ((key).map V8).toArray, .agg ([V64 t.serial, .string ⟨(t.tenant).toArray⟩, V8 t.rights, VI t.from_, VI t.until_, t.cs.v] ++ (t.tag).map V8).toArray, VI now] w0 fun v w' => v = VI (checkT key t now) ∧ Hp w0 w' [] [] := by
  refine ret_mk Try.func78 rfl Try.ntmps78 (by simp) ?_
  have H := Hp.refl w0 []
  repeat refine c_seq ?_
  refine c_region ?_
  refine l_op (o_box (v := .agg ((key).map V8).toArray) H rfl (fun b1 w H hb1 => ?_))
  replace H : Hp _ w _ ([.blk b1 ((key).map V8) 31]) := H
  refine l_op (o_box (v := .agg ([V64 t.serial, .string ⟨(t.tenant).toArray⟩, V8 t.rights, VI t.from_, VI t.until_, t.cs.v] ++ (t.tag).map V8).toArray) H rfl (fun b2 w H hb2 => ?_))
  replace H : Hp _ w _ ([_, .blk b2 ([V64 t.serial, .string ⟨(t.tenant).toArray⟩, V8 t.rights, VI t.from_, VI t.until_, t.cs.v] ++ (t.tag).map V8) 76]) := H
  refine l_op (o_val (r_as) ?_)
  first | refine l_end ?_ | refine l_nil ?_
  repeat refine c_seq ?_
  refine c_region ?_
  refine l_op (o_val (r_ldA (C := [V64 t.serial, .string ⟨(t.tenant).toArray⟩, V8 t.rights, VI t.from_, VI t.until_, t.cs.v] ++ (t.tag).map V8) H (i := 1) rfl rfl rt76 (by rw [List.length_append, List.length_map, (show (t.tag).length = 32 from htag)]; rfl)) ?_)
  refine l_op (o_callR Try.func76 rfl rfl rfl (may14_ret _ t (hc.up H) (show (t.tag).length = 32 from htag) (by first | omega | (dsimp only; omega) | simp)) ?_)
  rintro _ w ⟨rfl, Hc⟩
  replace H : Hp _ w _ ([_, _]) := H.call Hc
  clear Hc
  refine l_op (o_val (r_not rfl) ?_)
  first | refine l_end ?_ | refine l_nil ?_
  rcases Bool.eq_false_or_eq_true (mayT t) with hc3 | hc3
  ·
   repeat refine c_seq ?_
   refine c_no (by exact congrArg Value.bool (congrArg not hc3)) ?_
   refine c_skip ?_
   repeat refine c_seq ?_
   refine wp_held (fun w => Hp w0 w [] [.blk b1 ((key).map V8) 31, .blk b2 ([V64 t.serial, .string ⟨(t.tenant).toArray⟩, V8 t.rights, VI t.from_, VI t.until_, t.cs.v] ++ (t.tag).map V8) 76]) mixed ?_
   replace H := H.drew
   have HS := H
   refine t_take 0 rfl (by kernel_rfl) (by kernel_rfl) (by kernel_rfl) (fun _ _ _ h => h) (fun w HS => r_ldAA (l := key) HS (i := 0) rfl rfl rt31 (show (key).length = 32 from hk)) HS ?_
   refine t_take 1 rfl (by kernel_rfl) (by kernel_rfl) (by kernel_rfl) (fun _ _ _ h => h) (fun w HS => r_ldA (C := [V64 t.serial, .string ⟨(t.tenant).toArray⟩, V8 t.rights, VI t.from_, VI t.until_, t.cs.v] ++ (t.tag).map V8) HS (i := 1) rfl rfl rt76 (by rw [List.length_append, List.length_map, (show (t.tag).length = 32 from htag)]; rfl)) HS ?_
   refine t_take 3 rfl (by kernel_rfl) (by kernel_rfl) (by kernel_rfl) (fun _ _ _ h => h) (fun w HS => r_fa rfl fo76_6) HS ?_
   refine t_take 4 rfl (by kernel_rfl) (by kernel_rfl) (by kernel_rfl) (fun _ _ _ h => h) (fun w HS => r_ldT (pre := [V64 t.serial, .string ⟨(t.tenant).toArray⟩, V8 t.rights, VI t.from_, VI t.until_, t.cs.v]) (l := t.tag) HS (i := 1) rfl rfl rt31 rfl (show (t.tag).length = 32 from htag)) HS ?_
   refine t_step 2 rfl (by kernel_rfl) (o_callR Try.func116 rfl rfl rfl (tag14_ret _ (key) (show (key).length = 32 from hk) t (hc.up H) (show (t.tag).length = 32 from htag) (by first | omega | (dsimp only; omega) | simp) hb) ?_)
   rintro _ w ⟨rfl, Hc⟩
   replace H : Hp _ w _ ([_, _]) := H.call Hc
   clear Hc
   refine ⟨H, ?_⟩
   replace HS := H
   refine t_take 5 rfl (by kernel_rfl) (by kernel_rfl) (by kernel_rfl) (fun _ _ _ h => h) (fun w HS => r_nea (a := onF (hmac (key) (framed [t.head])) t.cs.l) (b := t.tag) Try.underlying31 Try.underlying5 cs5 rfl rfl (show (onF (hmac (key) (framed [t.head])) t.cs.l).length = 32 from onF_len _ (hmac_len _ _) _) (show (t.tag).length = 32 from htag)) HS ?_
   refine t_done (by kernel_rfl) ?_
   clear HS
   by_cases hc4 : onF (hmac (key) (framed [t.head])) t.cs.l = t.tag
   ·
    repeat refine c_seq ?_
    refine c_no (by exact congrArg Value.bool (congrArg not (decide_eq_true hc4))) ?_
    refine c_skip ?_
    repeat refine c_seq ?_
    refine c_region ?_
    refine l_op (o_val (r_ldA (C := [V64 t.serial, .string ⟨(t.tenant).toArray⟩, V8 t.rights, VI t.from_, VI t.until_, t.cs.v] ++ (t.tag).map V8) H (i := 1) rfl rfl rt76 (by rw [List.length_append, List.length_map, (show (t.tag).length = 32 from htag)]; rfl)) ?_)
    refine l_op (o_callR Try.func73 rfl rfl rfl (effect14_ret _ t (hc.up H) (show (t.tag).length = 32 from htag)) ?_)
    rintro _ w ⟨rfl, Hc⟩
    replace H : Hp _ w _ ([_, _]) := H.call Hc
    clear Hc
    refine l_op (o_val (r_mv) ?_)
    refine l_op (o_val (r_ext rfl rfl) ?_)
    refine l_op (o_val (r_ext rfl rfl) ?_)
    refine l_op (o_val (r_as) ?_)
    refine l_op (o_val (r_as) ?_)
    first | refine l_end ?_ | refine l_nil ?_
    repeat refine c_seq ?_
    refine c_region ?_
    refine l_op (o_val (r_mv) ?_)
    refine l_op (o_val (r_fa rfl fo76_3) ?_)
    refine l_op (o_val (r_ld (v := VI t.from_) H (i := 1) rfl rfl ct2 rfl) ?_)
    refine l_op (o_val (r_bin (a := now) (b := t.from_) rfl rfl (fun _ => b_lss)) ?_)
    refine l_op (o_val (r_mv) ?_)
    by_cases hc5 : now < t.from_
    ·
     refine l_no rfl rfl (by exact congrArg Value.bool (decide_eq_true hc5)) rfl ?_
     refine l_no rfl rfl (by exact congrArg Value.bool (decide_eq_true hc5)) rfl ?_
     refine l_no rfl rfl (by exact congrArg Value.bool (decide_eq_true hc5)) rfl ?_
     refine l_op (o_val (r_pick (b := true) (congrArg Value.bool (decide_eq_true hc5))) ?_)
     first | refine l_end ?_ | refine l_nil ?_
     repeat refine c_seq ?_
     refine c_yes rfl ?_
     repeat refine c_seq ?_
     refine c_region ?_
     refine l_op (o_val (r_as) ?_)
     first | refine l_end ?_ | refine l_nil ?_
     refine c_ret ?_
     try dsimp only [Exit.then, Exit.inBlock]
     refine e_ret1 (v := VI 14) Try.results78 rfl ?_
     refine ⟨_, rfl, ?_⟩
     refine ⟨?_, H.sub (List.nil_sublist _)⟩
     rw [checkT, if_neg (by rw [hc3]; decide), if_neg (not_not_intro hc4), if_pos (by omega)]
    ·
     refine l_yes rfl rfl (by exact congrArg Value.bool (decide_eq_false hc5)) (o_val (r_mv) ?_)
     refine l_yes rfl rfl (by exact congrArg Value.bool (decide_eq_false hc5)) (o_val (r_mv) ?_)
     refine l_yes rfl rfl (by exact congrArg Value.bool (decide_eq_false hc5)) (o_val (r_bin (a := now) (b := (effF (t.rights) (t.until_) t.cs.l).2) rfl rfl (fun _ => b_geq)) ?_)
     refine l_op (o_val (r_pick (b := false) (congrArg Value.bool (decide_eq_false hc5))) ?_)
     first | refine l_end ?_ | refine l_nil ?_
     by_cases hc6 : (effF (t.rights) (t.until_) t.cs.l).2 ≤ now
     ·
      repeat refine c_seq ?_
      refine c_yes (by exact congrArg Value.bool (decide_eq_true hc6)) ?_
      repeat refine c_seq ?_
      refine c_region ?_
      refine l_op (o_val (r_as) ?_)
      first | refine l_end ?_ | refine l_nil ?_
      refine c_ret ?_
      try dsimp only [Exit.then, Exit.inBlock]
      refine e_ret1 (v := VI 14) Try.results78 rfl ?_
      refine ⟨_, rfl, ?_⟩
      refine ⟨?_, H.sub (List.nil_sublist _)⟩
      rw [checkT, if_neg (by rw [hc3]; decide), if_neg (not_not_intro hc4), if_pos (by omega)]
     ·
      repeat refine c_seq ?_
      refine c_no (by exact congrArg Value.bool (decide_eq_false hc6)) ?_
      refine c_skip ?_
      repeat refine c_seq ?_
      refine c_region ?_
      refine l_op (o_val (r_as) ?_)
      first | refine l_end ?_ | refine l_nil ?_
      refine c_ret ?_
      try dsimp only [Exit.then, Exit.inBlock]
      refine e_ret1 (v := VI 0) Try.results78 rfl ?_
      refine ⟨_, rfl, ?_⟩
      refine ⟨?_, H.sub (List.nil_sublist _)⟩
      rw [checkT, if_neg (by rw [hc3]; decide), if_neg (not_not_intro hc4), if_neg (by omega)]
   ·
    repeat refine c_seq ?_
    refine c_yes (by exact congrArg Value.bool (congrArg not (decide_eq_false hc4))) ?_
    repeat refine c_seq ?_
    refine c_region ?_
    refine l_op (o_val (r_as) ?_)
    first | refine l_end ?_ | refine l_nil ?_
    refine c_ret ?_
    try dsimp only [Exit.then, Exit.inBlock]
    refine e_ret1 (v := VI 13) Try.results78 rfl ?_
    refine ⟨_, rfl, ?_⟩
    refine ⟨?_, H.sub (List.nil_sublist _)⟩
    rw [checkT, if_neg (by rw [hc3]; decide), if_pos hc4]
  ·
   repeat refine c_seq ?_
   refine c_yes (by exact congrArg Value.bool (congrArg not hc3)) ?_
   repeat refine c_seq ?_
   refine c_region ?_
   refine l_op (o_val (r_as) ?_)
   first | refine l_end ?_ | refine l_nil ?_
   refine c_ret ?_
   try dsimp only [Exit.then, Exit.inBlock]
   refine e_ret1 (v := VI 1) Try.results78 rfl ?_
   refine ⟨_, rfl, ?_⟩
   refine ⟨?_, H.sub (List.nil_sublist _)⟩
   rw [checkT, if_pos hc3]
end Go.Proofs.Ytjmbbhnpfmblpaa
namespace Go.Proofs.Ytjmbbhnpfmblpaa
open Go
section
variable {P : Program} {Q : Exit → Act → World → Prop} {n : Nat} {σ : Nat → Value} {w w0 : World} {K : Act → World → Prop}
  {ty : TypeId} {pos : String} {aft : Array Edge} {g : Option (Nat × Bool)} {d : Nat} {t yt : TypeId} {x y : Operand} {S : List Nat} {L : List Ch}
theorem flat_get {α : Type} {enc : α → List Value} {sz : Nat} {c : α} {l : List α} {i : Nat} (h : ∀ c ∈ l, (enc c).length = sz) (hz : 0 < sz) (hk : l[i / sz]? = some c) : (l.flatMap enc)[i]? = (enc c)[i % sz]? := by
  have e := flat_at h hk
  rw [← e, List.getElem?_take_of_lt (Nat.mod_lt _ hz), List.getElem?_drop, Nat.div_add_mod']
theorem flat_take {α : Type} {enc : α → List Value} {sz : Nat} {l : List α} (h : ∀ c ∈ l, (enc c).length = sz) (k : Nat) : (l.flatMap enc).take (k * sz) = (l.take k).flatMap enc := by
  by_cases hk : k ≤ l.length
  · have e : l.flatMap enc = (l.take k).flatMap enc ++ (l.drop k).flatMap enc := by rw [← List.flatMap_append, List.take_append_drop]
    have hl : ((l.take k).flatMap enc).length = k * sz := by
      rw [flat_len (fun c hc => h c (List.mem_of_mem_take hc)), List.length_take, Nat.min_eq_left hk]
    rw [e, List.take_left' hl]
  · rw [List.take_of_length_le (l := l) (by omega), List.take_of_length_le]
    rw [flat_len h]; exact Nat.mul_le_mul_right _ (by omega)
theorem flat_drop {α : Type} {enc : α → List Value} {sz : Nat} {l : List α} (h : ∀ c ∈ l, (enc c).length = sz) (k : Nat) : (l.flatMap enc).drop (k * sz) = (l.drop k).flatMap enc := by
  by_cases hk : k ≤ l.length
  · have e : l.flatMap enc = (l.take k).flatMap enc ++ (l.drop k).flatMap enc := by rw [← List.flatMap_append, List.take_append_drop]
    have hl : ((l.take k).flatMap enc).length = k * sz := by
      rw [flat_len (fun c hc => h c (List.mem_of_mem_take hc)), List.length_take, Nat.min_eq_left hk]
    rw [e, List.drop_left' hl]
  · rw [List.drop_of_length_le (l := l) (by omega), List.drop_of_length_le]
    · rfl
    · rw [flat_len h]; exact Nat.mul_le_mul_right _ (by omega)
theorem flat_set {α : Type} {enc : α → List Value} {sz : Nat} {l : List α} (h : ∀ c ∈ l, (enc c).length = sz) (k : Nat) (c : α) (hk : k < l.length) : (l.set k c).flatMap enc = (l.flatMap enc).take (k * sz) ++ enc c ++ (l.flatMap enc).drop (k * sz + sz) := by
  rw [flat_take h, show k * sz + sz = (k + 1) * sz by rw [Nat.succ_mul], flat_drop h, List.set_eq_take_append_cons_drop, if_pos hk]
  simp
/-- 'make' of structs. -/
theorem o_makeG {α : Type} {enc : α → List Value} {e : TypeId} {sz bytes : Nat} {kx ky : IntKind} {li ci : Int} (z0 : α) (l c : Nat) (H : Hp w0 w S L) (hT : SlTy P t e sz bytes) (hz : zeroCells P e = some (enc z0)) (hs : (enc z0).length = sz) (h0 : 0 < sz)
    (hx : ev n σ x = .int kx li) (hy : ev n σ y = .int ky ci) (hl : li = (l : Int)) (hc : ci = (c : Int)) (hlc : l ≤ c) (hb : bytes * c ≤ 281474976710656) (h63 : c ≤ maxLen)
    (h : ∀ b w', Hp w0 w' S (L ++ [.blk b ((List.replicate c z0).flatMap enc) e]) → w0.heap.size ≤ b → K (mk n (up σ d (.slice (some ⟨b, 0, none⟩) l c))) w') :
    Oper.wp P ⟨some d, .makeSlice t x y, ty, pos, aft, g⟩ (mk n σ) w K Q := by
  obtain ⟨i, zv, hi, hz0, hsi, hby, hzs⟩ := hT.row
  subst hl hc
  have hzc : zv.cells.toList = enc z0 := by simpa [zeroCells, hi, hz0] using hz
  have h63' : (c : Int) ≤ 9223372036854775807 := Int.ofNat_le.2 h63
  have hr := run_make (P := P) (w := w) t e i zv hT.und hi hz0 kx ky (l : Int) (c : Int) (by omega) (by omega) (by rw [hby]; exact Int.ofNat_le.2 hb) h63'
  have hal : ∀ x ∈ List.replicate c z0, (enc x).length = sz := fun x hx => by rw [(List.mem_replicate.1 hx).2]; exact hs
  have e1 : madeCells zv.cells ((c : Int).toNat * i.size) = ((List.replicate c z0).flatMap enc).toArray := by
    rw [hsi, Int.toNat_natCast]
    apply Array.ext'
    apply List.ext_getElem?
    intro j
    by_cases hj : j < c * sz
    · have hq : j / sz < c := Nat.div_lt_of_lt_mul (by rw [Nat.mul_comm]; exact hj)
      have hm : j % sz < sz := Nat.mod_lt _ h0
      rw [flat_get hal h0 (c := z0) (by rw [List.getElem?_replicate, if_pos hq]), ← hzc]
      have hm' : j % zv.cells.size < zv.cells.size := by rw [hzs]; exact hm
      simp only [madeCells, Array.toList_map, Array.toList_range, List.getElem?_map, Array.getElem?_toList, ← hzs]
      rw [Array.getElem?_eq_getElem hm', List.getElem?_range (by rw [hzs]; exact hj), Option.map_some, getElem!_pos zv.cells (j % zv.cells.size) hm']
    · rw [List.getElem?_eq_none (by simp [madeCells]; omega), List.getElem?_eq_none (by rw [flat_len hal]; simp; omega)]
  rw [e1] at hr
  refine o_val (by simp only [execOp, hx, hy, Sem.run_bind, hr, Result.andThen_ok, Int.toNat_natCast]; rfl) (h w.heap.size _ (H.alloc _ e) H.size)
/-- 'append' within the room of a known block. -/
theorem o_appGB {α : Type} {enc : α → List Value} {i b len len' cap sz bytes : Nat} {l rest l' : List α} {e e' T : TypeId} {tx : TypeId} {s : Gl α} (H : Hp w0 w S L) (hi : L[i]? = some (.blk b ((l ++ rest).flatMap enc) T)) (hsz : ∀ c ∈ l ++ rest, (enc c).length = sz)
    (hll : l.length = len) (hcap : len + rest.length = cap) (hroom : s.l.length ≤ rest.length) (el : l ++ s.l ++ rest.drop s.l.length = l') (en : len + s.len = len') (hT : SlTy P t e sz bytes) (hu : P.underlying tx = some (.slice e')) (hx : ev n σ x = .slice (some ⟨b, 0, none⟩) len cap) (hy : ev n σ y = s.v) (hs : s.ok enc sz w) (hz : 0 < sz)
    (h1 : ∀ c ∈ s.l, (enc c).all (·.oneCell') = true) (h : ∀ w', Hp w0 w' S (L.set i (.blk b (l'.flatMap enc) T)) → K (mk n (up σ d (.slice (some ⟨b, 0, none⟩) len' cap))) w') :
    Oper.wp P ⟨some d, .call ⟨.builtin .append, #[x, y], #[t, tx]⟩, ty, pos, aft, g⟩ (mk n σ) w K Q := by
  subst en
  obtain ⟨inf, zv, hinf, hzv, hsize, hby, hzs⟩ := hT.row
  have hw := H.blk hi
  have h1' : ∀ u ∈ s.l.flatMap enc, u.oneCell' = true := by
    intro u hu
    obtain ⟨c, hc, huc⟩ := List.mem_flatMap.1 hu
    exact List.all_eq_true.1 (h1 c hc) u huc
  have hnl : (s.l.flatMap enc).length = s.len * sz := by rw [flat_len hs.sz, hs.ln]
  have hsrc : Src P sz tx s.v s.len (s.l.flatMap enc) w := RdS.src hu hs.rd hnl hz h1'
  have hsl := hs.ln
  have hxl : ((l ++ rest).flatMap enc).length = cap * sz := by rw [flat_len hsz, List.length_append, hll, hcap]
  have hfit : len * sz + (s.l.flatMap enc).length ≤ ((l ++ rest).flatMap enc).length := by
    rw [hxl, hnl, ← Nat.add_mul]; exact Nat.mul_le_mul_right _ (by omega)
  have hargs : (#[x, y] : Array Operand).map (ev n σ) = #[.slice (some ⟨b, 0, none⟩) len cap, s.v] := by simp [hx, hy]
  have hrow := run_append_room_src (P := P) w t tx ty e inf hT.und hinf b 0 len cap s.v s.len _ (by rw [hsize]; exact hsrc) (by omega)
    (fun j hj => by
      have : 0 + len * inf.size + j < ((l ++ rest).flatMap enc).length := by rw [hsize]; omega
      simp only [World.cell?, hw]
      rw [List.getElem?_toArray, List.getElem?_eq_getElem this]; simp)
    (fun j hj => by simp [World.frozen?, hw])
  have hset : w.setCells b (0 + len * inf.size) (s.l.flatMap enc) = w.setRow b (l'.flatMap enc).toArray := by
    have h1 := run_storeCells_at (P := P) b (0 + len * inf.size) T (s.l.flatMap enc) 0 ((l ++ rest).flatMap enc).toArray w hw (by simp only [List.size_toArray]; rw [hsize]; omega) hsrc.one
    have h2 := run_storeCells_cells (P := P) b (0 + len * inf.size) (s.l.flatMap enc) 0 w
      (fun j hj => by
        have : 0 + len * inf.size + 0 + j < ((l ++ rest).flatMap enc).length := by rw [hsize]; omega
        simp only [World.cell?, hw]
        rw [List.getElem?_toArray, List.getElem?_eq_getElem this]; simp)
      (fun j hj => by simp [World.frozen?, hw]) hsrc.one
    rw [h1] at h2
    simp only [Result.ok.injEq, true_and, Nat.add_zero, Nat.zero_add] at h2
    rw [Nat.zero_add, ← h2, hsize]
    congr 2
    rw [hnl, ← Nat.add_mul, flat_take hsz, flat_drop hsz, ← el, ← hll, List.take_left', hll]
    · rw [← hll, List.drop_append, List.drop_of_length_le (by omega), show l.length + s.len - l.length = s.l.length by omega]
      simp
    · rfl
  rw [hset] at hrow
  refine o_val (run_builtin (s := Builtin.append_ #[t, tx] ty #[.slice (some ⟨b, 0, none⟩) len cap, s.v]) (vs := #[.slice (some ⟨b, 0, none⟩) len cap, s.v]) hargs (fun _ => rfl) hrow) (h _ ?_)
  exact H.row hi rfl rfl hw fun w' hw' => hw'
/-- a struct stored into a slice of one's own. -/
theorem o_stG {α : Type} {enc : α → List Value} {b o k i : Nat} {a : Option Nat} {len cap sz : Nat} {l : List α} {T : TypeId} {c : α} (H : Hp w0 w S L) (hi : L[i]? = some (.own a len cap (l.flatMap enc) T sz)) (hsz : ∀ c ∈ l, (enc c).length = sz)
    (hx : ev n σ x = .pointer (some ⟨b, o + k * sz, none⟩)) (ha : hd a = some ⟨b, o, none⟩) (hy : ev n σ y = .agg (enc c).toArray) (hs : cellSz P t = some sz) (hc : (enc c).length = sz) (h1 : (enc c).all (·.oneCell') = true) (hk : k < l.length)
    (h : ∀ w', Hp w0 w' S (L.set i (.own a len cap ((l.set k c).flatMap enc) T sz)) → K (mk n σ) w') : Oper.wp P ⟨none, .store t x y, ty, pos, aft, g⟩ (mk n σ) w K Q := by
  cases a with
  | none => cases ha
  | some b' =>
    simp only [hd, Option.map_some, Option.some.injEq, Addr.mk.injEq, and_true] at ha
    obtain ⟨rfl, rfl⟩ := ha
    obtain ⟨q1, q2, q3, rest, hw, q5⟩ := H.has _ (List.mem_of_getElem? hi)
    have hlen : (l.flatMap enc).length = l.length * sz := flat_len hsz
    have hks : k * sz + sz ≤ (l.flatMap enc).length := by
      rw [hlen, ← Nat.succ_mul]; exact Nat.mul_le_mul_right _ hk
    have hr := run_storeAt_row (P := P) (t := t) (v := .agg (enc c).toArray) hw (o := 0 + k * sz) (by simp only [Value.cells]; rw [List.size_toArray, hc]; exact hs) (by simp only [Value.cells]; rw [List.size_toArray, hc, List.length_append]; omega) (by simpa [Value.cells] using h1)
    have e : (l.flatMap enc ++ rest).take (0 + k * sz) ++ (Value.agg (enc c).toArray).cells.toList ++ (l.flatMap enc ++ rest).drop (0 + k * sz + (Value.agg (enc c).toArray).cells.size) = (l.set k c).flatMap enc ++ rest := by
      simp only [Value.cells, List.size_toArray, hc, Nat.zero_add]
      rw [flat_set hsz k c hk, List.take_append_of_le_length (by omega), List.drop_append_of_le_length (by omega)]
      simp
    rw [e] at hr
    simp only [Nat.zero_add] at hr hx
    refine o_skip (w' := w.setRow b' ((l.set k c).flatMap enc ++ rest).toArray) (by simp [execOp, hx, hy, hr]) (h _ ?_)
    have hl2 : ((l.set k c).flatMap enc).length = (l.flatMap enc).length := by
      rw [flat_set hsz k c hk, List.length_append, List.length_append, List.length_take, List.length_drop, hc, Nat.min_eq_left (by omega)]; omega
    exact H.row hi rfl rfl hw fun w' hw' => ⟨by rw [hl2]; exact q1, q2, q3, rest, hw', by rw [List.length_append, hl2, ← List.length_append]; exact q5⟩
/-- a known block as a slice of structs. -/
theorem glBlk {α : Type} {enc : α → List Value} {b len cap sz : Nat} {C : List Value} {l : List α} {T : TypeId} (rest : List α) (h : (Ch.blk b C T).ok w) (hC : C = (l ++ rest).flatMap enc) (hs : ∀ c ∈ l, (enc c).length = sz) (hl : l.length = len) (hle : len ≤ cap) (hm : cap ≤ maxLen) : (⟨some ⟨b, 0, none⟩, len, cap, l⟩ : Gl α).ok enc sz w := by
  refine ⟨?_, hl, hle, hm, hs⟩
  have h := Ch.rd_all h
  rw [hC, List.flatMap_append] at h
  have := h.take (l.flatMap enc).length
  rwa [List.take_left' rfl] at this
theorem snoc_get {α : Type} {l : List α} {z c : α} {k : Nat} (hk : l.length = k) (h : (l ++ [z])[k]? = some c) : c = z := by
  subst hk
  rw [List.getElem?_append_right (Nat.le_refl _), Nat.sub_self] at h
  exact (Option.some.inj h).symm
theorem part_cell {e : TypeId} (he : cellTy P e = true) {xs : Array Value} {off : Nat} {v : Value} (hx : xs[off]? = some v) : (part e xs off).run P w = .ok v w := by simp [part, run_isAgg_cell he, hx]
theorem eqI_int {e : TypeId} {k : IntKind} (he : P.underlying e = some (.int k)) (dd : Nat) (a b : Int) : (Op.equalIn (dd + 1) e (.int k a) (.int k b)).run P w = .ok (decide (a = b)) w := by
  simp only [Op.equalIn, Sem.run_bind, run_underlying he, Result.andThen_ok]
  simp
  rw [Bool.eq_iff_iff]; simp
theorem eqF_nil (dd : Nat) (xs ys : Array Value) : (Op.eqFields dd xs ys []).run P w = .ok true w := by simp [Op.eqFields]
theorem eqF_cons {f : Field} {fs : List Field} {dd : Nat} {xs ys : Array Value} {a c : Value} {b r : Bool} (hn : f.name ≠ "_") (ha : (part f.type xs f.offset).run P w = .ok a w) (hc : (part f.type ys f.offset).run P w = .ok c w)
    (he : (Op.equalIn dd f.type a c).run P w = .ok b w) (h2 : (Op.eqFields dd xs ys fs).run P w = .ok r w) : (Op.eqFields dd xs ys (f :: fs)).run P w = .ok (b && r) w := by
  simp only [Op.eqFields, if_pos hn, Sem.run_bind, ha, hc, he, Result.andThen_ok]
  cases b <;> simp [h2]
theorem eqS_of {fs : Array Field} {xs ys : Array Value} {b : Bool} (ht : P.underlying t = some (.struct fs)) (hp : P.stoodInHeld t = false) (h : (Op.eqFields 9999 xs ys fs.toList).run P w = .ok b w) : (Op.equal t (.agg xs) (.agg ys)).run P w = .ok b w := by
  have hf : P.fieldsOf t = fs := by simp [Program.fieldsOf, ht]
  unfold Op.equal Op.maxDepth
  rw [run_equalIn_struct w 9999 t xs ys (by rw [hf]; exact ht) hp, hf]; exact h
theorem r_neS {xs ys : Array Value} {b : Bool} (hg : P.eqGuardType P.depth t = false) (hx : ev n σ x = .agg xs) (hy : ev n σ y = .agg ys) (h : (Op.equal t (.agg xs) (.agg ys)).run P w = .ok b w) :
    (execOp (ev n σ) ⟨some d, .binOp .neq t x y yt, ty, pos, aft, g⟩).run P w = .ok (.value (.bool (!b))) w := by
  have e2 : binOp .neq t (.agg xs) (.agg ys) = (do pure (.bool (!(← Op.equal t (.agg xs) (.agg ys))))) := rfl
  have e3 : (eqGuard .neq t x y (.agg xs) (.agg ys)).run P w = .ok () w := by simp [eqGuard, hg]
  simp only [execOp, hx, hy, Sem.run_bind, e3, Result.andThen_ok, e2, h]
  simp
end
end Go.Proofs.Ytjmbbhnpfmblpaa
