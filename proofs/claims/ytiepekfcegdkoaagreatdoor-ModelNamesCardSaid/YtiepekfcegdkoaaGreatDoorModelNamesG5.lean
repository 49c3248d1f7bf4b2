/- Lemmas for the statement ModelNames, part 5: rules of operations, walks through functions, plain laws. -/
import Derived.Test.YtiepekfcegdkoaaGreatDoorModelNamesG4
namespace Go.Proofs.YtiepekfcegdkoaaGreatDoor
open Go
set_option maxRecDepth 100000
theorem rMay_iff (r : UInt8) : rMay r = true ↔ r.toNat ≤ 15 := by
  have e : ∀ n, n < 256 → (rMay (UInt8.ofNat n) = true ↔ n ≤ 15) := by decide
  have := e r.toNat (u8_lt r)
  rwa [UInt8.ofNat_toNat] at this
/-- numbers of a token are such as int64 has. -/
structure Tok.bd (t : Tok) : Prop where
  f : -9223372036854775808 ≤ t.from_ ∧ t.from_ ≤ 9223372036854775807
  u : -9223372036854775808 ≤ t.until_ ∧ t.until_ ≤ 9223372036854775807
  cs : ∀ c ∈ t.cs.l, -9223372036854775808 ≤ c.2 ∧ c.2 ≤ 9223372036854775807
theorem nmay4_ret (w0 : World) (l : List UInt8) (hl : l.length ≤ 1099511627776) :
    Ret Tryz.prog 27 [.string ⟨(l).toArray⟩] w0 fun v w' => v = .bool (nameMay l) ∧ Hp w0 w' [] [] := by
  refine ret_mk Tryz.func27 rfl Tryz.ntmps27 (by simp) ?_
  have H := Hp.refl w0 []
  repeat refine c_seq ?_
  refine c_region ?_; refine l_op (o_val r_as ?_); first | refine l_end ?_ | refine l_nil ?_
  repeat refine c_seq ?_
  refine c_region ?_; refine l_op (o_val r_mv ?_); refine l_op (o_val (r_lenstr (s := ⟨(l).toArray⟩) Tryz.underlying9 rfl) ?_); refine l_op (o_val (r_bin (a := ((l).length : Int)) (b := 1) rfl rfl (fun _ => b_lss)) ?_); refine l_op (o_val r_mv ?_)
  by_cases hc1 : ((l).length : Int) < 1
  ·
   refine l_no rfl rfl (by exact congrArg Value.bool (decide_eq_true hc1)) rfl ?_; refine l_no rfl rfl (by exact congrArg Value.bool (decide_eq_true hc1)) rfl ?_; refine l_no rfl rfl (by exact congrArg Value.bool (decide_eq_true hc1)) rfl ?_; refine l_op (o_val (r_pick (b := true) (congrArg Value.bool (decide_eq_true hc1))) ?_); refine l_op (o_val r_mv ?_); refine l_no rfl rfl rfl rfl ?_; refine l_no rfl rfl rfl rfl ?_; refine l_no rfl rfl rfl rfl ?_; refine l_op (o_val (r_pick rfl) ?_); refine l_op (o_val r_mv ?_); refine l_no rfl rfl rfl rfl ?_; refine l_no rfl rfl rfl rfl ?_; refine l_no rfl rfl rfl rfl ?_; refine l_op (o_val (r_pick rfl) ?_); first | refine l_end ?_ | refine l_nil ?_
   repeat refine c_seq ?_
   refine c_yes rfl ?_; repeat refine c_seq ?_
   refine c_region ?_; refine l_op (o_val r_as ?_); first | refine l_end ?_ | refine l_nil ?_
   refine c_ret ?_; try dsimp only [Exit.then, Exit.inBlock]
   refine e_ret1 (v := .bool false) Tryz.results27 rfl ?_
   refine ⟨_, rfl, ?_⟩
   refine ⟨?_, H⟩
   have e : nameMay l = false := Bool.eq_false_iff.2 fun h => by
     have h2 := (nameMay_iff l).1 h
     exact absurd h2 (by omega)
   rw [e]
  ·
   refine l_yes rfl rfl (by exact congrArg Value.bool (decide_eq_false hc1)) (o_val r_mv ?_); refine l_yes rfl rfl (by exact congrArg Value.bool (decide_eq_false hc1)) (o_val (r_lenstr (s := ⟨(l).toArray⟩) Tryz.underlying9 rfl) ?_); refine l_yes rfl rfl (by exact congrArg Value.bool (decide_eq_false hc1)) (o_val (r_bin (a := ((l).length : Int)) (b := 16) rfl rfl (fun _ => b_gtr)) ?_); refine l_op (o_val (r_pick (b := false) (congrArg Value.bool (decide_eq_false hc1))) ?_); refine l_op (o_val r_mv ?_)
   by_cases hc2 : 16 < ((l).length : Int)
   ·
    refine l_no rfl rfl (by exact congrArg Value.bool (decide_eq_true hc2)) rfl ?_; refine l_no rfl rfl (by exact congrArg Value.bool (decide_eq_true hc2)) rfl ?_; refine l_no rfl rfl (by exact congrArg Value.bool (decide_eq_true hc2)) rfl ?_; refine l_op (o_val (r_pick (b := true) (congrArg Value.bool (decide_eq_true hc2))) ?_); refine l_op (o_val r_mv ?_); refine l_no rfl rfl rfl rfl ?_; refine l_no rfl rfl rfl rfl ?_; refine l_no rfl rfl rfl rfl ?_; refine l_op (o_val (r_pick rfl) ?_); first | refine l_end ?_ | refine l_nil ?_
    repeat refine c_seq ?_
    refine c_yes rfl ?_; repeat refine c_seq ?_
    refine c_region ?_; refine l_op (o_val r_as ?_); first | refine l_end ?_ | refine l_nil ?_
    refine c_ret ?_; try dsimp only [Exit.then, Exit.inBlock]
    refine e_ret1 (v := .bool false) Tryz.results27 rfl ?_
    refine ⟨_, rfl, ?_⟩
    refine ⟨?_, H⟩
    have e : nameMay l = false := Bool.eq_false_iff.2 fun h => by
      have h2 := (nameMay_iff l).1 h
      exact absurd h2 (by omega)
    rw [e]
   ·
    refine l_yes rfl rfl (by exact congrArg Value.bool (decide_eq_false hc2)) (o_val r_mv ?_); refine l_yes rfl rfl (by exact congrArg Value.bool (decide_eq_false hc2)) (o_val (r_idxS (l := l) 0 Tryz.underlying9 rfl rfl (by omega) (by omega)) ?_); refine l_yes rfl rfl (by exact congrArg Value.bool (decide_eq_false hc2)) (o_val (r_bin (a := (((l).getD 0 0).toNat : Int)) (b := 97) rfl rfl (fun _ => b_lss)) ?_); refine l_op (o_val (r_pick (b := false) (congrArg Value.bool (decide_eq_false hc2))) ?_); refine l_op (o_val r_mv ?_)
    by_cases hc3 : (((l).getD 0 0).toNat : Int) < 97
    ·
     refine l_no rfl rfl (by exact congrArg Value.bool (decide_eq_true hc3)) rfl ?_; refine l_no rfl rfl (by exact congrArg Value.bool (decide_eq_true hc3)) rfl ?_; refine l_no rfl rfl (by exact congrArg Value.bool (decide_eq_true hc3)) rfl ?_; refine l_op (o_val (r_pick (b := true) (congrArg Value.bool (decide_eq_true hc3))) ?_); first | refine l_end ?_ | refine l_nil ?_
     repeat refine c_seq ?_
     refine c_yes rfl ?_; repeat refine c_seq ?_
     refine c_region ?_; refine l_op (o_val r_as ?_); first | refine l_end ?_ | refine l_nil ?_
     refine c_ret ?_; try dsimp only [Exit.then, Exit.inBlock]
     refine e_ret1 (v := .bool false) Tryz.results27 rfl ?_
     refine ⟨_, rfl, ?_⟩
     refine ⟨?_, H⟩
     have e : nameMay l = false := Bool.eq_false_iff.2 fun h => by
       have h2 := (nameMay_iff l).1 h
       exact absurd h2 (by omega)
     rw [e]
    ·
     refine l_yes rfl rfl (by exact congrArg Value.bool (decide_eq_false hc3)) (o_val r_mv ?_); refine l_yes rfl rfl (by exact congrArg Value.bool (decide_eq_false hc3)) (o_val (r_idxS (l := l) 0 Tryz.underlying9 rfl rfl (by omega) (by omega)) ?_); refine l_yes rfl rfl (by exact congrArg Value.bool (decide_eq_false hc3)) (o_val (r_bin (a := (((l).getD 0 0).toNat : Int)) (b := 122) rfl rfl (fun _ => b_gtr)) ?_); refine l_op (o_val (r_pick (b := false) (congrArg Value.bool (decide_eq_false hc3))) ?_); first | refine l_end ?_ | refine l_nil ?_
     by_cases hc4 : 122 < (((l).getD 0 0).toNat : Int)
     ·
      repeat refine c_seq ?_
      refine c_yes (by exact congrArg Value.bool (decide_eq_true hc4)) ?_; repeat refine c_seq ?_
      refine c_region ?_; refine l_op (o_val r_as ?_); first | refine l_end ?_ | refine l_nil ?_
      refine c_ret ?_; try dsimp only [Exit.then, Exit.inBlock]
      refine e_ret1 (v := .bool false) Tryz.results27 rfl ?_
      refine ⟨_, rfl, ?_⟩
      refine ⟨?_, H⟩
      have e : nameMay l = false := Bool.eq_false_iff.2 fun h => by
        have h2 := (nameMay_iff l).1 h
        exact absurd h2 (by omega)
      rw [e]
     ·
      repeat refine c_seq ?_
      refine c_no (by exact congrArg Value.bool (decide_eq_false hc4)) ?_; refine c_skip ?_; repeat refine c_seq ?_
      refine c_region ?_; refine l_op (o_val r_as ?_); first | refine l_end ?_ | refine l_nil ?_
      repeat refine c_seq ?_
      refine c_block ?_; repeat refine c_seq ?_
      refine c_loop (fun (i : Nat) => [(0, .string ⟨(l).toArray⟩), (3, VI (i : Int))])
        (fun (i : Nat) w => (i ≤ l.length ∧ ∀ j, j < i → nm1 (l.getD j 0) = true) ∧ Hp w0 w [] ([]))
        (fun (i : Nat) => l.length - i) 0 ⟨rfl, rfl, trivial⟩ ⟨⟨Nat.zero_le _, fun j hj => absurd hj (by omega)⟩, H⟩ ?_
      clear H
      rintro i τ w ⟨⟨hi, hall⟩, H⟩
      repeat refine c_seq ?_
      refine c_region ?_; refine l_op (o_val r_mv ?_); refine l_op (o_val r_mv ?_); refine l_op (o_val (r_lenstr (s := ⟨(l).toArray⟩) Tryz.underlying9 rfl) ?_); refine l_op (o_val (r_bin (a := (i : Int)) (b := ((l).length : Int)) rfl rfl (fun _ => b_lss)) ?_); first | refine l_end ?_ | refine l_nil ?_
      by_cases hc5 : (i : Int) < ((l).length : Int)
      ·
       repeat refine c_seq ?_
       refine c_yes (by exact congrArg Value.bool (decide_eq_true hc5)) ?_; refine c_skip ?_; repeat refine c_seq ?_
       refine c_block ?_; repeat refine c_seq ?_
       refine c_region ?_; refine l_op (o_val r_mv ?_); refine l_op (o_val r_mv ?_); refine l_op (o_val (r_idxS (l := l) i Tryz.underlying9 rfl rfl (by omega) (by omega)) ?_); refine l_op (o_val r_as ?_); first | refine l_end ?_ | refine l_nil ?_
       repeat refine c_seq ?_
       refine c_region ?_; refine l_op (o_val r_mv ?_); refine l_op (o_val (r_bin (a := (((l).getD i 0).toNat : Int)) (b := 97) rfl rfl (fun _ => b_geq)) ?_); refine l_op (o_val r_mv ?_)
       by_cases hc6 : 97 ≤ (((l).getD i 0).toNat : Int)
       ·
        refine l_yes rfl rfl (by exact congrArg Value.bool (decide_eq_true hc6)) (o_val r_mv ?_); refine l_yes rfl rfl (by exact congrArg Value.bool (decide_eq_true hc6)) (o_val (r_bin (a := (((l).getD i 0).toNat : Int)) (b := 122) rfl rfl (fun _ => b_leq)) ?_); refine l_op (o_val (r_pick (b := true) (congrArg Value.bool (decide_eq_true hc6))) ?_); refine l_op (o_val r_mv ?_)
        by_cases hc7 : (((l).getD i 0).toNat : Int) ≤ 122
        ·
         refine l_no rfl rfl (by exact congrArg Value.bool (decide_eq_true hc7)) rfl ?_; refine l_no rfl rfl (by exact congrArg Value.bool (decide_eq_true hc7)) rfl ?_; refine l_no rfl rfl (by exact congrArg Value.bool (decide_eq_true hc7)) rfl ?_; refine l_non rfl rfl rfl ?_; refine l_non rfl rfl rfl ?_; refine l_no rfl rfl (by exact congrArg Value.bool (decide_eq_true hc7)) rfl ?_; refine l_op (o_val (r_pick (b := true) (congrArg Value.bool (decide_eq_true hc7))) ?_); refine l_op (o_val r_mv ?_); refine l_no rfl rfl rfl rfl ?_; refine l_no rfl rfl rfl rfl ?_; refine l_op (o_val (r_pick rfl) ?_); refine l_op (o_val (r_not rfl) ?_); first | refine l_end ?_ | refine l_nil ?_
         repeat refine c_seq ?_
         refine c_no rfl ?_; refine c_skip ?_; repeat refine c_seq ?_
         refine c_region ?_; refine l_op (o_val r_mv ?_); refine l_op (o_val (r_bin (a := (i : Int)) (b := 1) rfl rfl (fun _ => b_add (by omega) (by omega))) ?_); refine l_op (o_val r_as ?_); first | refine l_end ?_ | refine l_nil ?_
         refine round_end (i + 1) ?_ ?_ ?_
         · exact ⟨rfl, show VI ((i : Int) + 1) = VI ((i + 1 : Nat) : Int) from congrArg VI (by omega), trivial⟩
         · refine ⟨?_, ?_⟩
           · try dsimp only
             exact ⟨by omega, fun j hj => by
               by_cases hji : j < i
               · exact hall j hji
               · have e : j = i := by omega
                 rw [e]; exact (nm1_iff _).2 (by omega)⟩
           · exact H
         · show l.length - (i + 1 : Nat) < l.length - i; omega
        ·
         refine l_yes rfl rfl (by exact congrArg Value.bool (decide_eq_false hc7)) (o_val r_mv ?_); refine l_yes rfl rfl (by exact congrArg Value.bool (decide_eq_false hc7)) (o_val (r_bin (a := (((l).getD i 0).toNat : Int)) (b := 48) rfl rfl (fun _ => b_geq)) ?_); refine l_yes rfl rfl (by exact congrArg Value.bool (decide_eq_false hc7)) (o_val r_mv ?_)
         by_cases hc8 : 48 ≤ (((l).getD i 0).toNat : Int)
         ·
          refine l_yes rfl rfl (by exact congrArg Value.bool (decide_eq_true hc8)) (o_val r_mv ?_); refine l_yes rfl rfl (by exact congrArg Value.bool (decide_eq_true hc8)) (o_val (r_bin (a := (((l).getD i 0).toNat : Int)) (b := 57) rfl rfl (fun _ => b_leq)) ?_); refine l_yes rfl rfl (by exact congrArg Value.bool (decide_eq_false hc7)) (o_val (r_pick (b := true) (congrArg Value.bool (decide_eq_true hc8))) ?_); refine l_op (o_val (r_pick (b := false) (congrArg Value.bool (decide_eq_false hc7))) ?_); refine l_op (o_val r_mv ?_)
          by_cases hc9 : (((l).getD i 0).toNat : Int) ≤ 57
          ·
           refine l_no rfl rfl (by exact congrArg Value.bool (decide_eq_true hc9)) rfl ?_; refine l_no rfl rfl (by exact congrArg Value.bool (decide_eq_true hc9)) rfl ?_; refine l_op (o_val (r_pick (b := true) (congrArg Value.bool (decide_eq_true hc9))) ?_); refine l_op (o_val (r_not rfl) ?_); first | refine l_end ?_ | refine l_nil ?_
           repeat refine c_seq ?_
           refine c_no rfl ?_; refine c_skip ?_; repeat refine c_seq ?_
           refine c_region ?_; refine l_op (o_val r_mv ?_); refine l_op (o_val (r_bin (a := (i : Int)) (b := 1) rfl rfl (fun _ => b_add (by omega) (by omega))) ?_); refine l_op (o_val r_as ?_); first | refine l_end ?_ | refine l_nil ?_
           refine round_end (i + 1) ?_ ?_ ?_
           · exact ⟨rfl, show VI ((i : Int) + 1) = VI ((i + 1 : Nat) : Int) from congrArg VI (by omega), trivial⟩
           · refine ⟨?_, ?_⟩
             · try dsimp only
               exact ⟨by omega, fun j hj => by
                 by_cases hji : j < i
                 · exact hall j hji
                 · have e : j = i := by omega
                   rw [e]; exact (nm1_iff _).2 (by omega)⟩
             · exact H
           · show l.length - (i + 1 : Nat) < l.length - i; omega
          ·
           refine l_yes rfl rfl (by exact congrArg Value.bool (decide_eq_false hc9)) (o_val r_mv ?_); refine l_yes rfl rfl (by exact congrArg Value.bool (decide_eq_false hc9)) (o_val (r_bin (a := (((l).getD i 0).toNat : Int)) (b := 45) rfl rfl (fun _ => b_eql)) ?_); refine l_op (o_val (r_pick (b := false) (congrArg Value.bool (decide_eq_false hc9))) ?_); refine l_op (o_val (r_not rfl) ?_); first | refine l_end ?_ | refine l_nil ?_
           by_cases hc10 : (((l).getD i 0).toNat : Int) = 45
           ·
            repeat refine c_seq ?_
            refine c_no (by exact congrArg Value.bool (congrArg not (decide_eq_true hc10))) ?_; refine c_skip ?_; repeat refine c_seq ?_
            refine c_region ?_; refine l_op (o_val r_mv ?_); refine l_op (o_val (r_bin (a := (i : Int)) (b := 1) rfl rfl (fun _ => b_add (by omega) (by omega))) ?_); refine l_op (o_val r_as ?_); first | refine l_end ?_ | refine l_nil ?_
            refine round_end (i + 1) ?_ ?_ ?_
            · exact ⟨rfl, show VI ((i : Int) + 1) = VI ((i + 1 : Nat) : Int) from congrArg VI (by omega), trivial⟩
            · refine ⟨?_, ?_⟩
              · try dsimp only
                exact ⟨by omega, fun j hj => by
                  by_cases hji : j < i
                  · exact hall j hji
                  · have e : j = i := by omega
                    rw [e]; exact (nm1_iff _).2 (by omega)⟩
              · exact H
            · show l.length - (i + 1 : Nat) < l.length - i; omega
           ·
            repeat refine c_seq ?_
            refine c_yes (by exact congrArg Value.bool (congrArg not (decide_eq_false hc10))) ?_; repeat refine c_seq ?_
            refine c_region ?_; refine l_op (o_val r_as ?_); first | refine l_end ?_ | refine l_nil ?_
            refine c_ret ?_; try dsimp only [Exit.then, Exit.inBlock]
            refine e_ret1 (v := .bool false) Tryz.results27 rfl ?_
            refine ⟨_, rfl, ?_⟩
            refine ⟨?_, H⟩
            have e : nameMay l = false := Bool.eq_false_iff.2 fun h => by
              have h2 := (nameMay_iff l).1 h
              have h3 := (nm1_iff _).1 (h2.2.2.2.2 i (by omega))
              exact absurd h2 (by omega)
            rw [e]
         ·
          refine l_no rfl rfl (by exact congrArg Value.bool (decide_eq_false hc8)) rfl ?_; refine l_no rfl rfl (by exact congrArg Value.bool (decide_eq_false hc8)) rfl ?_; refine l_yes rfl rfl (by exact congrArg Value.bool (decide_eq_false hc7)) (o_val (r_pick (b := false) (congrArg Value.bool (decide_eq_false hc8))) ?_); refine l_op (o_val (r_pick (b := false) (congrArg Value.bool (decide_eq_false hc7))) ?_); refine l_op (o_val r_mv ?_); refine l_yes rfl rfl rfl (o_val r_mv ?_); refine l_yes rfl rfl rfl (o_val (r_bin (a := (((l).getD i 0).toNat : Int)) (b := 45) rfl rfl (fun _ => b_eql)) ?_); refine l_op (o_val (r_pick rfl) ?_); refine l_op (o_val (r_not rfl) ?_); first | refine l_end ?_ | refine l_nil ?_
          by_cases hc11 : (((l).getD i 0).toNat : Int) = 45
          ·
           repeat refine c_seq ?_
           refine c_no (by exact congrArg Value.bool (congrArg not (decide_eq_true hc11))) ?_; refine c_skip ?_; repeat refine c_seq ?_
           refine c_region ?_; refine l_op (o_val r_mv ?_); refine l_op (o_val (r_bin (a := (i : Int)) (b := 1) rfl rfl (fun _ => b_add (by omega) (by omega))) ?_); refine l_op (o_val r_as ?_); first | refine l_end ?_ | refine l_nil ?_
           refine round_end (i + 1) ?_ ?_ ?_
           · exact ⟨rfl, show VI ((i : Int) + 1) = VI ((i + 1 : Nat) : Int) from congrArg VI (by omega), trivial⟩
           · refine ⟨?_, ?_⟩
             · try dsimp only
               exact ⟨by omega, fun j hj => by
                 by_cases hji : j < i
                 · exact hall j hji
                 · have e : j = i := by omega
                   rw [e]; exact (nm1_iff _).2 (by omega)⟩
             · exact H
           · show l.length - (i + 1 : Nat) < l.length - i; omega
          ·
           repeat refine c_seq ?_
           refine c_yes (by exact congrArg Value.bool (congrArg not (decide_eq_false hc11))) ?_; repeat refine c_seq ?_
           refine c_region ?_; refine l_op (o_val r_as ?_); first | refine l_end ?_ | refine l_nil ?_
           refine c_ret ?_; try dsimp only [Exit.then, Exit.inBlock]
           refine e_ret1 (v := .bool false) Tryz.results27 rfl ?_
           refine ⟨_, rfl, ?_⟩
           refine ⟨?_, H⟩
           have e : nameMay l = false := Bool.eq_false_iff.2 fun h => by
             have h2 := (nameMay_iff l).1 h
             have h3 := (nm1_iff _).1 (h2.2.2.2.2 i (by omega))
             exact absurd h2 (by omega)
           rw [e]
       ·
        refine l_no rfl rfl (by exact congrArg Value.bool (decide_eq_false hc6)) rfl ?_; refine l_no rfl rfl (by exact congrArg Value.bool (decide_eq_false hc6)) rfl ?_; refine l_op (o_val (r_pick (b := false) (congrArg Value.bool (decide_eq_false hc6))) ?_); refine l_op (o_val r_mv ?_); refine l_yes rfl rfl rfl (o_val r_mv ?_); refine l_yes rfl rfl rfl (o_val (r_bin (a := (((l).getD i 0).toNat : Int)) (b := 48) rfl rfl (fun _ => b_geq)) ?_); refine l_yes rfl rfl rfl (o_val r_mv ?_)
        by_cases hc12 : 48 ≤ (((l).getD i 0).toNat : Int)
        ·
         refine l_yes rfl rfl (by exact congrArg Value.bool (decide_eq_true hc12)) (o_val r_mv ?_); refine l_yes rfl rfl (by exact congrArg Value.bool (decide_eq_true hc12)) (o_val (r_bin (a := (((l).getD i 0).toNat : Int)) (b := 57) rfl rfl (fun _ => b_leq)) ?_); refine l_yes rfl rfl rfl (o_val (r_pick (b := true) (congrArg Value.bool (decide_eq_true hc12))) ?_); refine l_op (o_val (r_pick rfl) ?_); refine l_op (o_val r_mv ?_)
         by_cases hc13 : (((l).getD i 0).toNat : Int) ≤ 57
         ·
          refine l_no rfl rfl (by exact congrArg Value.bool (decide_eq_true hc13)) rfl ?_; refine l_no rfl rfl (by exact congrArg Value.bool (decide_eq_true hc13)) rfl ?_; refine l_op (o_val (r_pick (b := true) (congrArg Value.bool (decide_eq_true hc13))) ?_); refine l_op (o_val (r_not rfl) ?_); first | refine l_end ?_ | refine l_nil ?_
          repeat refine c_seq ?_
          refine c_no rfl ?_; refine c_skip ?_; repeat refine c_seq ?_
          refine c_region ?_; refine l_op (o_val r_mv ?_); refine l_op (o_val (r_bin (a := (i : Int)) (b := 1) rfl rfl (fun _ => b_add (by omega) (by omega))) ?_); refine l_op (o_val r_as ?_); first | refine l_end ?_ | refine l_nil ?_
          refine round_end (i + 1) ?_ ?_ ?_
          · exact ⟨rfl, show VI ((i : Int) + 1) = VI ((i + 1 : Nat) : Int) from congrArg VI (by omega), trivial⟩
          · refine ⟨?_, ?_⟩
            · try dsimp only
              exact ⟨by omega, fun j hj => by
                by_cases hji : j < i
                · exact hall j hji
                · have e : j = i := by omega
                  rw [e]; exact (nm1_iff _).2 (by omega)⟩
            · exact H
          · show l.length - (i + 1 : Nat) < l.length - i; omega
         ·
          refine l_yes rfl rfl (by exact congrArg Value.bool (decide_eq_false hc13)) (o_val r_mv ?_); refine l_yes rfl rfl (by exact congrArg Value.bool (decide_eq_false hc13)) (o_val (r_bin (a := (((l).getD i 0).toNat : Int)) (b := 45) rfl rfl (fun _ => b_eql)) ?_); refine l_op (o_val (r_pick (b := false) (congrArg Value.bool (decide_eq_false hc13))) ?_); refine l_op (o_val (r_not rfl) ?_); first | refine l_end ?_ | refine l_nil ?_
          by_cases hc14 : (((l).getD i 0).toNat : Int) = 45
          ·
           repeat refine c_seq ?_
           refine c_no (by exact congrArg Value.bool (congrArg not (decide_eq_true hc14))) ?_; refine c_skip ?_; repeat refine c_seq ?_
           refine c_region ?_; refine l_op (o_val r_mv ?_); refine l_op (o_val (r_bin (a := (i : Int)) (b := 1) rfl rfl (fun _ => b_add (by omega) (by omega))) ?_); refine l_op (o_val r_as ?_); first | refine l_end ?_ | refine l_nil ?_
           refine round_end (i + 1) ?_ ?_ ?_
           · exact ⟨rfl, show VI ((i : Int) + 1) = VI ((i + 1 : Nat) : Int) from congrArg VI (by omega), trivial⟩
           · refine ⟨?_, ?_⟩
             · try dsimp only
               exact ⟨by omega, fun j hj => by
                 by_cases hji : j < i
                 · exact hall j hji
                 · have e : j = i := by omega
                   rw [e]; exact (nm1_iff _).2 (by omega)⟩
             · exact H
           · show l.length - (i + 1 : Nat) < l.length - i; omega
          ·
           repeat refine c_seq ?_
           refine c_yes (by exact congrArg Value.bool (congrArg not (decide_eq_false hc14))) ?_; repeat refine c_seq ?_
           refine c_region ?_; refine l_op (o_val r_as ?_); first | refine l_end ?_ | refine l_nil ?_
           refine c_ret ?_; try dsimp only [Exit.then, Exit.inBlock]
           refine e_ret1 (v := .bool false) Tryz.results27 rfl ?_
           refine ⟨_, rfl, ?_⟩
           refine ⟨?_, H⟩
           have e : nameMay l = false := Bool.eq_false_iff.2 fun h => by
             have h2 := (nameMay_iff l).1 h
             have h3 := (nm1_iff _).1 (h2.2.2.2.2 i (by omega))
             exact absurd h2 (by omega)
           rw [e]
        ·
         refine l_no rfl rfl (by exact congrArg Value.bool (decide_eq_false hc12)) rfl ?_; refine l_no rfl rfl (by exact congrArg Value.bool (decide_eq_false hc12)) rfl ?_; refine l_yes rfl rfl rfl (o_val (r_pick (b := false) (congrArg Value.bool (decide_eq_false hc12))) ?_); refine l_op (o_val (r_pick rfl) ?_); refine l_op (o_val r_mv ?_); refine l_yes rfl rfl rfl (o_val r_mv ?_); refine l_yes rfl rfl rfl (o_val (r_bin (a := (((l).getD i 0).toNat : Int)) (b := 45) rfl rfl (fun _ => b_eql)) ?_); refine l_op (o_val (r_pick rfl) ?_); refine l_op (o_val (r_not rfl) ?_); first | refine l_end ?_ | refine l_nil ?_
         by_cases hc15 : (((l).getD i 0).toNat : Int) = 45
         ·
          repeat refine c_seq ?_
          refine c_no (by exact congrArg Value.bool (congrArg not (decide_eq_true hc15))) ?_; refine c_skip ?_; repeat refine c_seq ?_
          refine c_region ?_; refine l_op (o_val r_mv ?_); refine l_op (o_val (r_bin (a := (i : Int)) (b := 1) rfl rfl (fun _ => b_add (by omega) (by omega))) ?_); refine l_op (o_val r_as ?_); first | refine l_end ?_ | refine l_nil ?_
          refine round_end (i + 1) ?_ ?_ ?_
          · exact ⟨rfl, show VI ((i : Int) + 1) = VI ((i + 1 : Nat) : Int) from congrArg VI (by omega), trivial⟩
          · refine ⟨?_, ?_⟩
            · try dsimp only
              exact ⟨by omega, fun j hj => by
                by_cases hji : j < i
                · exact hall j hji
                · have e : j = i := by omega
                  rw [e]; exact (nm1_iff _).2 (by omega)⟩
            · exact H
          · show l.length - (i + 1 : Nat) < l.length - i; omega
         ·
          repeat refine c_seq ?_
          refine c_yes (by exact congrArg Value.bool (congrArg not (decide_eq_false hc15))) ?_; repeat refine c_seq ?_
          refine c_region ?_; refine l_op (o_val r_as ?_); first | refine l_end ?_ | refine l_nil ?_
          refine c_ret ?_; try dsimp only [Exit.then, Exit.inBlock]
          refine e_ret1 (v := .bool false) Tryz.results27 rfl ?_
          refine ⟨_, rfl, ?_⟩
          refine ⟨?_, H⟩
          have e : nameMay l = false := Bool.eq_false_iff.2 fun h => by
            have h2 := (nameMay_iff l).1 h
            have h3 := (nm1_iff _).1 (h2.2.2.2.2 i (by omega))
            exact absurd h2 (by omega)
          rw [e]
      ·
       repeat refine c_seq ?_
       refine c_no (by exact congrArg Value.bool (decide_eq_false hc5)) ?_; refine c_exit ?_; repeat refine c_seq ?_
       refine c_region ?_; refine l_op (o_val r_as ?_); first | refine l_end ?_ | refine l_nil ?_
       refine c_ret ?_; try dsimp only [Exit.then, Exit.inBlock]
       refine e_ret1 (v := .bool true) Tryz.results27 rfl ?_
       refine ⟨_, rfl, ?_⟩
       refine ⟨?_, H⟩
       rw [(nameMay_iff l).2 ⟨by omega, by omega, by omega, by omega, fun j hj => hall j (by omega)⟩]
theorem may14_ret (w0 : World) (t : Tok) (hc : t.cs.ok cavE 2 w0) (_htag : t.tag.length = 32) (hn : t.tenant.length ≤ 65536) :
    Ret Tryz.prog 13 [.agg ([V64 t.serial, .string ⟨(t.tenant).toArray⟩, V8 t.rights, VI t.from_, VI t.until_, t.cs.v] ++ (t.tag).map V8).toArray] w0 fun v w' => v = .bool (mayT t) ∧ Hp w0 w' [] [] := by
  refine ret_mk Tryz.func13 rfl Tryz.ntmps13 (by simp) ?_
  have H := Hp.refl w0 []
  have hxl := hc.le
  have hxm := hc.mx
  have hmL : maxLen = 9223372036854775807 := rfl
  repeat refine c_seq ?_
  refine c_region ?_; refine l_op (o_box (v := .agg ([V64 t.serial, .string ⟨(t.tenant).toArray⟩, V8 t.rights, VI t.from_, VI t.until_, t.cs.v] ++ (t.tag).map V8).toArray) H rfl (fun b1 w H hb1 => ?_)); replace H : Hp _ w _ ([.blk b1 ([V64 t.serial, .string ⟨(t.tenant).toArray⟩, V8 t.rights, VI t.from_, VI t.until_, t.cs.v] ++ (t.tag).map V8) 46]) := H
  refine l_op (o_val r_as ?_); first | refine l_end ?_ | refine l_nil ?_
  repeat refine c_seq ?_
  refine c_region ?_; refine l_op (o_val (r_fa rfl fo46_1) ?_); refine l_op (o_val (r_ld (v := .string ⟨(t.tenant).toArray⟩) H (i := 0) rfl rfl ct9 rfl) ?_); refine l_op (o_val (r_strne (a := t.tenant) (b := ([] : List UInt8)) rfl rfl) ?_); refine l_op (o_val r_mv ?_)
  by_cases hc2 : t.tenant = ([] : List UInt8)
  ·
   refine l_no rfl rfl (by exact congrArg Value.bool (congrArg not (decide_eq_true hc2))) rfl ?_; refine l_no rfl rfl (by exact congrArg Value.bool (congrArg not (decide_eq_true hc2))) rfl ?_; refine l_no rfl rfl (by exact congrArg Value.bool (congrArg not (decide_eq_true hc2))) rfl ?_; refine l_no rfl rfl (by exact congrArg Value.bool (congrArg not (decide_eq_true hc2))) rfl ?_; refine l_op (o_val (r_pick (b := false) (congrArg Value.bool (congrArg not (decide_eq_true hc2)))) ?_); refine l_op (o_val r_mv ?_); refine l_yes rfl rfl rfl (o_val (r_fa rfl fo46_2) ?_); refine l_yes rfl rfl rfl (o_val (r_ld (v := V8 t.rights) H (i := 0) rfl rfl ct43 rfl) ?_); refine l_yes rfl rfl rfl (o_val (r_bin (a := (t.rights.toNat : Int)) (b := 15) rfl rfl (fun _ => b_gtr)) ?_); refine l_op (o_val (r_pick rfl) ?_); refine l_op (o_val r_mv ?_)
   by_cases hc3 : 15 < (t.rights.toNat : Int)
   ·
    refine l_no rfl rfl (by exact congrArg Value.bool (decide_eq_true hc3)) rfl ?_; refine l_no rfl rfl (by exact congrArg Value.bool (decide_eq_true hc3)) rfl ?_; refine l_no rfl rfl (by exact congrArg Value.bool (decide_eq_true hc3)) rfl ?_; refine l_no rfl rfl (by exact congrArg Value.bool (decide_eq_true hc3)) rfl ?_; refine l_op (o_val (r_pick (b := true) (congrArg Value.bool (decide_eq_true hc3))) ?_); first | refine l_end ?_ | refine l_nil ?_
    repeat refine c_seq ?_
    refine c_yes rfl ?_; repeat refine c_seq ?_
    refine c_region ?_; refine l_op (o_val r_as ?_); first | refine l_end ?_ | refine l_nil ?_
    refine c_ret ?_; try dsimp only [Exit.then, Exit.inBlock]
    refine e_ret1 (v := .bool false) Tryz.results13 rfl ?_
    refine ⟨_, rfl, ?_⟩
    refine ⟨?_, H.sub (List.nil_sublist _)⟩
    have e : mayT t = false := Bool.eq_false_iff.2 fun h => by
      have h2 := (mayT_iff t).1 h
      have h3 := (rMay_iff _).1 h2.2.1
      omega
    rw [e]
   ·
    refine l_yes rfl rfl (by exact congrArg Value.bool (decide_eq_false hc3)) (o_val (r_fa rfl fo46_5) ?_); refine l_yes rfl rfl (by exact congrArg Value.bool (decide_eq_false hc3)) (o_val (r_ld (v := t.cs.v) H (i := 0) rfl rfl ct44 rfl) ?_); refine l_yes rfl rfl (by exact congrArg Value.bool (decide_eq_false hc3)) (o_val (r_lens el44 rfl) ?_); refine l_yes rfl rfl (by exact congrArg Value.bool (decide_eq_false hc3)) (o_val (r_bin (a := (t.cs.len : Int)) (b := 8) rfl rfl (fun _ => b_gtr)) ?_); refine l_op (o_val (r_pick (b := false) (congrArg Value.bool (decide_eq_false hc3))) ?_); first | refine l_end ?_ | refine l_nil ?_
    by_cases hc4 : 8 < (t.cs.len : Int)
    ·
     repeat refine c_seq ?_
     refine c_yes (by exact congrArg Value.bool (decide_eq_true hc4)) ?_; repeat refine c_seq ?_
     refine c_region ?_; refine l_op (o_val r_as ?_); first | refine l_end ?_ | refine l_nil ?_
     refine c_ret ?_; try dsimp only [Exit.then, Exit.inBlock]
     refine e_ret1 (v := .bool false) Tryz.results13 rfl ?_
     refine ⟨_, rfl, ?_⟩
     refine ⟨?_, H.sub (List.nil_sublist _)⟩
     have e : mayT t = false := Bool.eq_false_iff.2 fun h => by
       have h2 := (mayT_iff t).1 h
       have h3 := (rMay_iff _).1 h2.2.1
       omega
     rw [e]
    ·
     repeat refine c_seq ?_
     refine c_no (by exact congrArg Value.bool (decide_eq_false hc4)) ?_; refine c_skip ?_; repeat refine c_seq ?_
     refine c_region ?_; refine l_op (o_val r_as ?_); first | refine l_end ?_ | refine l_nil ?_
     repeat refine c_seq ?_
     refine c_block ?_; repeat refine c_seq ?_
     refine c_loop (fun (i : Nat) => [(1, .pointer (some ⟨b1, 0, none⟩)), (3, VI (i : Int))])
       (fun (i : Nat) w => (i ≤ t.cs.len ∧ ∀ (j : Nat) (c : Cav), j < i → t.cs.l[j]? = some c → rMay c.1 = true) ∧ Hp w0 w [] ([.blk b1 ([V64 t.serial, .string ⟨(t.tenant).toArray⟩, V8 t.rights, VI t.from_, VI t.until_, t.cs.v] ++ (t.tag).map V8) 46]))
       (fun (i : Nat) => t.cs.len - i) 0 ⟨rfl, rfl, trivial⟩ ⟨⟨Nat.zero_le _, fun j c hj => absurd hj (by omega)⟩, H⟩ ?_
     clear H
     rintro i τ w ⟨⟨hi, hall⟩, H⟩
     repeat refine c_seq ?_
     refine c_region ?_; refine l_op (o_val r_mv ?_); refine l_op (o_val (r_fa rfl fo46_5) ?_); refine l_op (o_val (r_ld (v := t.cs.v) H (i := 0) rfl rfl ct44 rfl) ?_); refine l_op (o_val (r_lens el44 rfl) ?_); refine l_op (o_val (r_bin (a := (i : Int)) (b := (t.cs.len : Int)) rfl rfl (fun _ => b_lss)) ?_); first | refine l_end ?_ | refine l_nil ?_
     by_cases hc5 : (i : Int) < (t.cs.len : Int)
     ·
      repeat refine c_seq ?_
      refine c_yes (by exact congrArg Value.bool (decide_eq_true hc5)) ?_; refine c_skip ?_; repeat refine c_seq ?_
      refine c_block ?_; repeat refine c_seq ?_
      refine c_region ?_; refine l_op (o_val (r_fa rfl fo46_5) ?_); refine l_op (o_val (r_ld (v := t.cs.v) H (i := 0) rfl rfl ct44 rfl) ?_); refine l_op (o_val r_mv ?_); have ah8 := ((hc.up H)).addr (by decide) (by first | omega | (dsimp only; omega))
      obtain ⟨ab6, ao7, ah8⟩ := ah8
      refine l_op (o_val (r_isN i rfl rfl el44 ah8 (by omega) (by (try simp only [Sl.cut]); omega)) ?_); refine l_op (o_val (r_fa rfl fo63_0) ?_); have he10 : ∃ c, t.cs.l[i]? = some c := ⟨_, List.getElem?_eq_getElem (by have := ((hc.up H)).ln; (try dsimp only at this ⊢); omega)⟩
      obtain ⟨e9, he10⟩ := he10
      have hez11 := ((hc.up H)).sz e9 (List.mem_of_getElem? he10)
      refine l_op (o_val (r_ldFld (v := V8 e9.1) (s := t.cs) (k := i) (off := 0) (hc.up H) ah8 rfl ct43 he10 (by decide) rfl) ?_); refine l_op (o_val (r_bin (a := (e9.1.toNat : Int)) (b := 15) rfl rfl (fun _ => b_gtr)) ?_); first | refine l_end ?_ | refine l_nil ?_
      by_cases hc12 : 15 < (e9.1.toNat : Int)
      ·
       repeat refine c_seq ?_
       refine c_yes (by exact congrArg Value.bool (decide_eq_true hc12)) ?_; repeat refine c_seq ?_
       refine c_region ?_; refine l_op (o_val r_as ?_); first | refine l_end ?_ | refine l_nil ?_
       refine c_ret ?_; try dsimp only [Exit.then, Exit.inBlock]
       refine e_ret1 (v := .bool false) Tryz.results13 rfl ?_
       refine ⟨_, rfl, ?_⟩
       refine ⟨?_, H.sub (List.nil_sublist _)⟩
       have e : mayT t = false := Bool.eq_false_iff.2 fun h => by
         have h2 := (mayT_iff t).1 h
         have h3 := (rMay_iff _).1 (h2.2.2.2 i e9 he10)
         omega
       rw [e]
      ·
       repeat refine c_seq ?_
       refine c_no (by exact congrArg Value.bool (decide_eq_false hc12)) ?_; refine c_skip ?_; repeat refine c_seq ?_
       refine c_region ?_; refine l_op (o_val r_mv ?_); refine l_op (o_val (r_bin (a := (i : Int)) (b := 1) rfl rfl (fun _ => b_add (by omega) (by omega))) ?_); refine l_op (o_val r_as ?_); first | refine l_end ?_ | refine l_nil ?_
       refine round_end (i + 1) ?_ ?_ ?_
       · exact ⟨rfl, show VI ((i : Int) + 1) = VI ((i + 1 : Nat) : Int) from congrArg VI (by omega), trivial⟩
       · refine ⟨?_, ?_⟩
         · try dsimp only
           exact ⟨by omega, fun j c hj hjc => by
             by_cases hji : j < i
             · exact hall j c hji hjc
             · have e : j = i := by omega
               rw [e, he10] at hjc
               cases hjc
               exact (rMay_iff _).2 (by omega)⟩
         · exact H
       · show t.cs.len - (i + 1 : Nat) < t.cs.len - i; omega
     ·
      repeat refine c_seq ?_
      refine c_no (by exact congrArg Value.bool (decide_eq_false hc5)) ?_; refine c_exit ?_; repeat refine c_seq ?_
      refine c_region ?_; refine l_op (o_val r_as ?_); first | refine l_end ?_ | refine l_nil ?_
      refine c_ret ?_; try dsimp only [Exit.then, Exit.inBlock]
      refine e_ret1 (v := .bool true) Tryz.results13 rfl ?_
      refine ⟨_, rfl, ?_⟩
      refine ⟨?_, H.sub (List.nil_sublist _)⟩
      rw [(mayT_iff t).2 ⟨.inl (of_decide_eq_true (decide_eq_true hc2)), (rMay_iff _).2 (by omega), by omega, fun j c hj => hall j c (by have := hc.ln; have := (List.getElem?_eq_some_iff.1 hj).1; omega) hj⟩]
  ·
   refine l_yes rfl rfl (by exact congrArg Value.bool (congrArg not (decide_eq_false hc2))) (o_val (r_fa rfl fo46_1) ?_); refine l_yes rfl rfl (by exact congrArg Value.bool (congrArg not (decide_eq_false hc2))) (o_val (r_ld (v := .string ⟨(t.tenant).toArray⟩) H (i := 0) rfl rfl ct9 rfl) ?_); refine l_yes rfl rfl (by exact congrArg Value.bool (congrArg not (decide_eq_false hc2))) (o_callR Tryz.func27 rfl rfl rfl (nmay4_ret _ (t.tenant) (by omega)) ?_); rintro _ w ⟨rfl, Hc⟩
   replace H : Hp _ w _ ([_]) := H.call Hc
   clear Hc
   refine l_yes rfl rfl (by exact congrArg Value.bool (congrArg not (decide_eq_false hc2))) (o_val (r_not rfl) ?_); refine l_op (o_val (r_pick (b := true) (congrArg Value.bool (congrArg not (decide_eq_false hc2)))) ?_); refine l_op (o_val r_mv ?_)
   rcases Bool.eq_false_or_eq_true (nameMay (t.tenant)) with hc13 | hc13
   ·
    refine l_yes rfl rfl (by exact congrArg Value.bool (congrArg not hc13)) (o_val (r_fa rfl fo46_2) ?_); refine l_yes rfl rfl (by exact congrArg Value.bool (congrArg not hc13)) (o_val (r_ld (v := V8 t.rights) H (i := 0) rfl rfl ct43 rfl) ?_); refine l_yes rfl rfl (by exact congrArg Value.bool (congrArg not hc13)) (o_val (r_bin (a := (t.rights.toNat : Int)) (b := 15) rfl rfl (fun _ => b_gtr)) ?_); refine l_op (o_val (r_pick (b := false) (congrArg Value.bool (congrArg not hc13))) ?_); refine l_op (o_val r_mv ?_)
    by_cases hc14 : 15 < (t.rights.toNat : Int)
    ·
     refine l_no rfl rfl (by exact congrArg Value.bool (decide_eq_true hc14)) rfl ?_; refine l_no rfl rfl (by exact congrArg Value.bool (decide_eq_true hc14)) rfl ?_; refine l_no rfl rfl (by exact congrArg Value.bool (decide_eq_true hc14)) rfl ?_; refine l_no rfl rfl (by exact congrArg Value.bool (decide_eq_true hc14)) rfl ?_; refine l_op (o_val (r_pick (b := true) (congrArg Value.bool (decide_eq_true hc14))) ?_); first | refine l_end ?_ | refine l_nil ?_
     repeat refine c_seq ?_
     refine c_yes rfl ?_; repeat refine c_seq ?_
     refine c_region ?_; refine l_op (o_val r_as ?_); first | refine l_end ?_ | refine l_nil ?_
     refine c_ret ?_; try dsimp only [Exit.then, Exit.inBlock]
     refine e_ret1 (v := .bool false) Tryz.results13 rfl ?_
     refine ⟨_, rfl, ?_⟩
     refine ⟨?_, H.sub (List.nil_sublist _)⟩
     have e : mayT t = false := Bool.eq_false_iff.2 fun h => by
       have h2 := (mayT_iff t).1 h
       have h3 := (rMay_iff _).1 h2.2.1
       omega
     rw [e]
    ·
     refine l_yes rfl rfl (by exact congrArg Value.bool (decide_eq_false hc14)) (o_val (r_fa rfl fo46_5) ?_); refine l_yes rfl rfl (by exact congrArg Value.bool (decide_eq_false hc14)) (o_val (r_ld (v := t.cs.v) H (i := 0) rfl rfl ct44 rfl) ?_); refine l_yes rfl rfl (by exact congrArg Value.bool (decide_eq_false hc14)) (o_val (r_lens el44 rfl) ?_); refine l_yes rfl rfl (by exact congrArg Value.bool (decide_eq_false hc14)) (o_val (r_bin (a := (t.cs.len : Int)) (b := 8) rfl rfl (fun _ => b_gtr)) ?_); refine l_op (o_val (r_pick (b := false) (congrArg Value.bool (decide_eq_false hc14))) ?_); first | refine l_end ?_ | refine l_nil ?_
     by_cases hc15 : 8 < (t.cs.len : Int)
     ·
      repeat refine c_seq ?_
      refine c_yes (by exact congrArg Value.bool (decide_eq_true hc15)) ?_; repeat refine c_seq ?_
      refine c_region ?_; refine l_op (o_val r_as ?_); first | refine l_end ?_ | refine l_nil ?_
      refine c_ret ?_; try dsimp only [Exit.then, Exit.inBlock]
      refine e_ret1 (v := .bool false) Tryz.results13 rfl ?_
      refine ⟨_, rfl, ?_⟩
      refine ⟨?_, H.sub (List.nil_sublist _)⟩
      have e : mayT t = false := Bool.eq_false_iff.2 fun h => by
        have h2 := (mayT_iff t).1 h
        have h3 := (rMay_iff _).1 h2.2.1
        omega
      rw [e]
     ·
      repeat refine c_seq ?_
      refine c_no (by exact congrArg Value.bool (decide_eq_false hc15)) ?_; refine c_skip ?_; repeat refine c_seq ?_
      refine c_region ?_; refine l_op (o_val r_as ?_); first | refine l_end ?_ | refine l_nil ?_
      repeat refine c_seq ?_
      refine c_block ?_; repeat refine c_seq ?_
      refine c_loop (fun (i : Nat) => [(1, .pointer (some ⟨b1, 0, none⟩)), (3, VI (i : Int))])
        (fun (i : Nat) w => (i ≤ t.cs.len ∧ ∀ (j : Nat) (c : Cav), j < i → t.cs.l[j]? = some c → rMay c.1 = true) ∧ Hp w0 w [] ([.blk b1 ([V64 t.serial, .string ⟨(t.tenant).toArray⟩, V8 t.rights, VI t.from_, VI t.until_, t.cs.v] ++ (t.tag).map V8) 46]))
        (fun (i : Nat) => t.cs.len - i) 0 ⟨rfl, rfl, trivial⟩ ⟨⟨Nat.zero_le _, fun j c hj => absurd hj (by omega)⟩, H⟩ ?_
      clear H
      rintro i τ w ⟨⟨hi, hall⟩, H⟩
      repeat refine c_seq ?_
      refine c_region ?_; refine l_op (o_val r_mv ?_); refine l_op (o_val (r_fa rfl fo46_5) ?_); refine l_op (o_val (r_ld (v := t.cs.v) H (i := 0) rfl rfl ct44 rfl) ?_); refine l_op (o_val (r_lens el44 rfl) ?_); refine l_op (o_val (r_bin (a := (i : Int)) (b := (t.cs.len : Int)) rfl rfl (fun _ => b_lss)) ?_); first | refine l_end ?_ | refine l_nil ?_
      by_cases hc16 : (i : Int) < (t.cs.len : Int)
      ·
       repeat refine c_seq ?_
       refine c_yes (by exact congrArg Value.bool (decide_eq_true hc16)) ?_; refine c_skip ?_; repeat refine c_seq ?_
       refine c_block ?_; repeat refine c_seq ?_
       refine c_region ?_; refine l_op (o_val (r_fa rfl fo46_5) ?_); refine l_op (o_val (r_ld (v := t.cs.v) H (i := 0) rfl rfl ct44 rfl) ?_); refine l_op (o_val r_mv ?_); have ah19 := ((hc.up H)).addr (by decide) (by first | omega | (dsimp only; omega))
       obtain ⟨ab17, ao18, ah19⟩ := ah19
       refine l_op (o_val (r_isN i rfl rfl el44 ah19 (by omega) (by (try simp only [Sl.cut]); omega)) ?_); refine l_op (o_val (r_fa rfl fo63_0) ?_); have he21 : ∃ c, t.cs.l[i]? = some c := ⟨_, List.getElem?_eq_getElem (by have := ((hc.up H)).ln; (try dsimp only at this ⊢); omega)⟩
       obtain ⟨e20, he21⟩ := he21
       have hez22 := ((hc.up H)).sz e20 (List.mem_of_getElem? he21)
       refine l_op (o_val (r_ldFld (v := V8 e20.1) (s := t.cs) (k := i) (off := 0) (hc.up H) ah19 rfl ct43 he21 (by decide) rfl) ?_); refine l_op (o_val (r_bin (a := (e20.1.toNat : Int)) (b := 15) rfl rfl (fun _ => b_gtr)) ?_); first | refine l_end ?_ | refine l_nil ?_
       by_cases hc23 : 15 < (e20.1.toNat : Int)
       ·
        repeat refine c_seq ?_
        refine c_yes (by exact congrArg Value.bool (decide_eq_true hc23)) ?_; repeat refine c_seq ?_
        refine c_region ?_; refine l_op (o_val r_as ?_); first | refine l_end ?_ | refine l_nil ?_
        refine c_ret ?_; try dsimp only [Exit.then, Exit.inBlock]
        refine e_ret1 (v := .bool false) Tryz.results13 rfl ?_
        refine ⟨_, rfl, ?_⟩
        refine ⟨?_, H.sub (List.nil_sublist _)⟩
        have e : mayT t = false := Bool.eq_false_iff.2 fun h => by
          have h2 := (mayT_iff t).1 h
          have h3 := (rMay_iff _).1 (h2.2.2.2 i e20 he21)
          omega
        rw [e]
       ·
        repeat refine c_seq ?_
        refine c_no (by exact congrArg Value.bool (decide_eq_false hc23)) ?_; refine c_skip ?_; repeat refine c_seq ?_
        refine c_region ?_; refine l_op (o_val r_mv ?_); refine l_op (o_val (r_bin (a := (i : Int)) (b := 1) rfl rfl (fun _ => b_add (by omega) (by omega))) ?_); refine l_op (o_val r_as ?_); first | refine l_end ?_ | refine l_nil ?_
        refine round_end (i + 1) ?_ ?_ ?_
        · exact ⟨rfl, show VI ((i : Int) + 1) = VI ((i + 1 : Nat) : Int) from congrArg VI (by omega), trivial⟩
        · refine ⟨?_, ?_⟩
          · try dsimp only
            exact ⟨by omega, fun j c hj hjc => by
              by_cases hji : j < i
              · exact hall j c hji hjc
              · have e : j = i := by omega
                rw [e, he21] at hjc
                cases hjc
                exact (rMay_iff _).2 (by omega)⟩
          · exact H
        · show t.cs.len - (i + 1 : Nat) < t.cs.len - i; omega
      ·
       repeat refine c_seq ?_
       refine c_no (by exact congrArg Value.bool (decide_eq_false hc16)) ?_; refine c_exit ?_; repeat refine c_seq ?_
       refine c_region ?_; refine l_op (o_val r_as ?_); first | refine l_end ?_ | refine l_nil ?_
       refine c_ret ?_; try dsimp only [Exit.then, Exit.inBlock]
       refine e_ret1 (v := .bool true) Tryz.results13 rfl ?_
       refine ⟨_, rfl, ?_⟩
       refine ⟨?_, H.sub (List.nil_sublist _)⟩
       rw [(mayT_iff t).2 ⟨.inr hc13, (rMay_iff _).2 (by omega), by omega, fun j c hj => hall j c (by have := hc.ln; have := (List.getElem?_eq_some_iff.1 hj).1; omega) hj⟩]
   ·
    refine l_no rfl rfl (by exact congrArg Value.bool (congrArg not hc13)) rfl ?_; refine l_no rfl rfl (by exact congrArg Value.bool (congrArg not hc13)) rfl ?_; refine l_no rfl rfl (by exact congrArg Value.bool (congrArg not hc13)) rfl ?_; refine l_op (o_val (r_pick (b := true) (congrArg Value.bool (congrArg not hc13))) ?_); refine l_op (o_val r_mv ?_); refine l_no rfl rfl rfl rfl ?_; refine l_no rfl rfl rfl rfl ?_; refine l_no rfl rfl rfl rfl ?_; refine l_no rfl rfl rfl rfl ?_; refine l_op (o_val (r_pick rfl) ?_); first | refine l_end ?_ | refine l_nil ?_
    repeat refine c_seq ?_
    refine c_yes rfl ?_; repeat refine c_seq ?_
    refine c_region ?_; refine l_op (o_val r_as ?_); first | refine l_end ?_ | refine l_nil ?_
    refine c_ret ?_; try dsimp only [Exit.then, Exit.inBlock]
    refine e_ret1 (v := .bool false) Tryz.results13 rfl ?_
    refine ⟨_, rfl, ?_⟩
    refine ⟨?_, H.sub (List.nil_sublist _)⟩
    have e : mayT t = false := Bool.eq_false_iff.2 fun h => by
      have h2 := (mayT_iff t).1 h
      rcases h2.1 with h3 | h3
      · exact absurd h3 (of_decide_eq_false (decide_eq_false hc2))
      · rw [hc13] at h3; cases h3
    rw [e]
theorem caveat14_ret (w0 : World) (c : Cav) (h1 : -9223372036854775808 ≤ c.2 ∧ c.2 ≤ 9223372036854775807) :
    Ret Tryz.prog 15 [.agg ([V8 c.1, VI c.2]).toArray] w0 fun v w' => ∃ a k, v = .slice (hd a) 9 k ∧ Hp w0 w' [] [.own a 9 k ((cavB c).map V8) 5 1] := by
  refine ret_mk Tryz.func15 rfl Tryz.ntmps15 (by simp) ?_
  have H := Hp.refl w0 []
  repeat refine c_seq ?_
  refine c_region ?_; refine l_op (o_box (v := .agg ([V8 c.1, VI c.2]).toArray) H rfl (fun b1 w H hb1 => ?_)); replace H : Hp _ w _ ([.blk b1 ([V8 c.1, VI c.2]) 63]) := H
  refine l_op (o_val r_as ?_); first | refine l_end ?_ | refine l_nil ?_
  repeat refine c_seq ?_
  refine wp_held (fun w => Hp w0 w [] [.blk b1 ([V8 c.1, VI c.2]) 63]) mixed ?_; replace H := H.drew
  have HS := H
  refine t_take 0 rfl (by kernel_rfl) (by kernel_rfl) (by kernel_rfl) (fun _ _ _ h => h) (fun w HS => r_fa rfl fo63_0) HS ?_; refine t_take 1 rfl (by kernel_rfl) (by kernel_rfl) (by kernel_rfl) (fun _ _ _ h => h) (fun w HS => r_ld (v := V8 c.1) HS (i := 0) rfl rfl ct43 rfl) HS ?_; refine t_take 3 rfl (by kernel_rfl) (by kernel_rfl) (by kernel_rfl) (fun _ _ _ h => h) (fun w HS => r_fa rfl fo63_1) HS ?_; refine t_take 4 rfl (by kernel_rfl) (by kernel_rfl) (by kernel_rfl) (fun _ _ _ h => h) (fun w HS => r_ld (v := VI c.2) HS (i := 0) rfl rfl ct2 rfl) HS ?_; refine t_all [2, 5] (by kernel_rfl) (by simp) (all_cons (w_op 2 rfl ?_) (all_cons (w_op 5 rfl ?_) (all_nil)))
  ·
   refine (o_bslB ([c.1]) H sl24 zc5 rfl rfl (by decide) (fun b2 w H hb2 => ?_))
   replace H : Hp _ w _ ([_, .own (some b2) 1 1 (([c.1]).map V8) 5 1]) := H
   refine ⟨H.sub (.cons_cons _ (List.nil_sublist _)), ?_⟩
   replace HS := H.sub (.cons_cons _ (List.nil_sublist _))
   refine t_step 5 rfl (by kernel_rfl) (o_callR Tryz.func29 rfl rfl rfl (zig1_ret _ (c.2) (by omega) (by omega)) ?_); rintro _ w ⟨rfl, Hc⟩
   replace H : Hp _ w _ ([_, _]) := H.call Hc
   clear Hc
   refine ⟨H.sub (.cons_cons _ (List.nil_sublist _)), ?_⟩
   replace HS := H.sub (.cons_cons _ (List.nil_sublist _))
   refine t_step 6 rfl (by kernel_rfl) (o_callR Tryz.func25 rfl rfl rfl (eight_ret _ (zigU (c.2))) ?_); rintro _ w ⟨a3, c4, rfl, Hc⟩
   replace H : Hp _ w _ ([_, _, .own a3 8 c4 ((be (zigU (c.2)).toNat 8).map V8) 5 1]) := H.call Hc
   clear Hc
   refine ⟨H.sub (.cons_cons _ (List.nil_sublist _)), ?_⟩
   replace HS := H.sub (.cons_cons _ (List.nil_sublist _))
   refine t_step 7 rfl (by kernel_rfl) (o_appB (s := ⟨hd a3, 8, c4, be (zigU (c.2)).toNat 8⟩) (l' := [c.1] ++ (be (zigU (c.2)).toNat 8)) (len' := 9) rfl rfl H (i := 1) rfl sl24 Tryz.underlying24 rfl rfl (H.slOwn (i := 2) rfl) (by omega) (fun a5 c6 w H => ?_)); replace H : Hp _ w _ ([_, .own a5 9 c6 (([c.1] ++ (be (zigU (c.2)).toNat 8)).map V8) 5 1, _]) := H
   refine ⟨H.sub (.cons_cons _ (List.nil_sublist _)), ?_⟩
   replace HS := H.sub (.cons_cons _ (List.nil_sublist _))
   refine t_take 8 rfl (by kernel_rfl) (by kernel_rfl) (by kernel_rfl) (fun _ _ _ h => h) (fun w HS => r_as) HS ?_; refine t_done (by kernel_rfl) ?_
   clear HS
   refine c_ret ?_; try dsimp only [Exit.then, Exit.inBlock]
   refine e_ret1 (v := .slice (hd a5) 9 c6) Tryz.results15 rfl ?_
   refine ⟨_, rfl, ?_⟩
   exact ⟨_, _, rfl, H.sub (.cons _ (.cons_cons _ (List.nil_sublist _)))⟩
  ·
   refine (o_callR Tryz.func29 rfl rfl rfl (zig1_ret _ (c.2) (by omega) (by omega)) ?_)
   rintro _ w ⟨rfl, Hc⟩
   replace H : Hp _ w _ ([_]) := H.call Hc
   clear Hc
   refine ⟨H, ?_⟩
   replace HS := H
   refine t_all [2, 6] (by kernel_rfl) (by simp) (all_cons (w_op 2 rfl ?_) (all_cons (w_op 6 rfl ?_) (all_nil)))
   ·
    refine (o_bslB ([c.1]) H sl24 zc5 rfl rfl (by decide) (fun b7 w H hb7 => ?_))
    replace H : Hp _ w _ ([_, .own (some b7) 1 1 (([c.1]).map V8) 5 1]) := H
    refine ⟨H.sub (.cons_cons _ (List.nil_sublist _)), ?_⟩
    replace HS := H.sub (.cons_cons _ (List.nil_sublist _))
    refine t_step 6 rfl (by kernel_rfl) (o_callR Tryz.func25 rfl rfl rfl (eight_ret _ (zigU (c.2))) ?_); rintro _ w ⟨a8, c9, rfl, Hc⟩
    replace H : Hp _ w _ ([_, _, .own a8 8 c9 ((be (zigU (c.2)).toNat 8).map V8) 5 1]) := H.call Hc
    clear Hc
    refine ⟨H.sub (.cons_cons _ (List.nil_sublist _)), ?_⟩
    replace HS := H.sub (.cons_cons _ (List.nil_sublist _))
    refine t_step 7 rfl (by kernel_rfl) (o_appB (s := ⟨hd a8, 8, c9, be (zigU (c.2)).toNat 8⟩) (l' := [c.1] ++ (be (zigU (c.2)).toNat 8)) (len' := 9) rfl rfl H (i := 1) rfl sl24 Tryz.underlying24 rfl rfl (H.slOwn (i := 2) rfl) (by omega) (fun a10 c11 w H => ?_)); replace H : Hp _ w _ ([_, .own a10 9 c11 (([c.1] ++ (be (zigU (c.2)).toNat 8)).map V8) 5 1, _]) := H
    refine ⟨H.sub (.cons_cons _ (List.nil_sublist _)), ?_⟩
    replace HS := H.sub (.cons_cons _ (List.nil_sublist _))
    refine t_take 8 rfl (by kernel_rfl) (by kernel_rfl) (by kernel_rfl) (fun _ _ _ h => h) (fun w HS => r_as) HS ?_; refine t_done (by kernel_rfl) ?_
    clear HS
    refine c_ret ?_; try dsimp only [Exit.then, Exit.inBlock]
    refine e_ret1 (v := .slice (hd a10) 9 c11) Tryz.results15 rfl ?_
    refine ⟨_, rfl, ?_⟩
    exact ⟨_, _, rfl, H.sub (.cons _ (.cons_cons _ (List.nil_sublist _)))⟩
   ·
    refine (o_callR Tryz.func25 rfl rfl rfl (eight_ret _ (zigU (c.2))) ?_)
    rintro _ w ⟨a12, c13, rfl, Hc⟩
    replace H : Hp _ w _ ([_, .own a12 8 c13 ((be (zigU (c.2)).toNat 8).map V8) 5 1]) := H.call Hc
    clear Hc
    refine ⟨H.sub (.cons_cons _ (List.nil_sublist _)), ?_⟩
    replace HS := H.sub (.cons_cons _ (List.nil_sublist _))
    refine t_step 2 rfl (by kernel_rfl) (o_bslB ([c.1]) H sl24 zc5 rfl rfl (by decide) (fun b14 w H hb14 => ?_)); replace H : Hp _ w _ ([_, _, .own (some b14) 1 1 (([c.1]).map V8) 5 1]) := H
    refine ⟨H.sub (.cons_cons _ (List.nil_sublist _)), ?_⟩
    replace HS := H.sub (.cons_cons _ (List.nil_sublist _))
    refine t_step 7 rfl (by kernel_rfl) (o_appB (s := ⟨hd a12, 8, c13, be (zigU (c.2)).toNat 8⟩) (l' := [c.1] ++ (be (zigU (c.2)).toNat 8)) (len' := 9) rfl rfl H (i := 2) rfl sl24 Tryz.underlying24 rfl rfl (H.slOwn (i := 1) rfl) (by omega) (fun a15 c16 w H => ?_)); replace H : Hp _ w _ ([_, _, .own a15 9 c16 (([c.1] ++ (be (zigU (c.2)).toNat 8)).map V8) 5 1]) := H
    refine ⟨H.sub (.cons_cons _ (List.nil_sublist _)), ?_⟩
    replace HS := H.sub (.cons_cons _ (List.nil_sublist _))
    refine t_take 8 rfl (by kernel_rfl) (by kernel_rfl) (by kernel_rfl) (fun _ _ _ h => h) (fun w HS => r_as) HS ?_; refine t_done (by kernel_rfl) ?_
    clear HS
    refine c_ret ?_; try dsimp only [Exit.then, Exit.inBlock]
    refine e_ret1 (v := .slice (hd a15) 9 c16) Tryz.results15 rfl ?_
    refine ⟨_, rfl, ?_⟩
    exact ⟨_, _, rfl, H.sub (.cons _ (.cons _ (.cons_cons _ (List.nil_sublist _))))⟩
theorem head14_ret (w0 : World) (t : Tok) (_hc : t.cs.ok cavE 2 w0) (_htag : t.tag.length = 32) (hn : t.tenant.length ≤ 65536) (hb : t.bd) :
    Ret Tryz.prog 14 [.agg ([V64 t.serial, .string ⟨(t.tenant).toArray⟩, V8 t.rights, VI t.from_, VI t.until_, t.cs.v] ++ (t.tag).map V8).toArray] w0 fun v w' => ∃ a n c, v = .slice (hd a) n c ∧ n ≤ t.tenant.length + 64 ∧ t.head.length = n ∧ Hp w0 w' [] [.own a n c (t.head.map V8) 5 1] := by
  refine ret_mk Tryz.func14 rfl Tryz.ntmps14 (by simp) ?_
  have H := Hp.refl w0 []
  have hbf := hb.f
  have hbu := hb.u
  repeat refine c_seq ?_
  refine c_region ?_; refine l_op (o_box (v := .agg ([V64 t.serial, .string ⟨(t.tenant).toArray⟩, V8 t.rights, VI t.from_, VI t.until_, t.cs.v] ++ (t.tag).map V8).toArray) H rfl (fun b1 w H hb1 => ?_)); replace H : Hp _ w _ ([.blk b1 ([V64 t.serial, .string ⟨(t.tenant).toArray⟩, V8 t.rights, VI t.from_, VI t.until_, t.cs.v] ++ (t.tag).map V8) 46]) := H
  refine l_op (o_val r_as ?_); first | refine l_end ?_ | refine l_nil ?_
  repeat refine c_seq ?_
  refine c_region ?_; refine l_op (o_val (r_fa rfl fo46_0) ?_); refine l_op (o_val (r_ld (v := V64 t.serial) H (i := 0) rfl rfl ct33 rfl) ?_); refine l_op (o_callR Tryz.func25 rfl rfl rfl (eight_ret _ (t.serial)) ?_); rintro _ w ⟨a2, c3, rfl, Hc⟩
  replace H : Hp _ w _ ([_, .own a2 8 c3 ((be (t.serial).toNat 8).map V8) 5 1]) := H.call Hc
  clear Hc
  refine l_op (o_val r_as ?_); first | refine l_end ?_ | refine l_nil ?_
  repeat refine c_seq ?_
  refine c_region ?_; refine l_op (o_val r_mv ?_); refine l_op (o_val (r_fa rfl fo46_1) ?_); refine l_op (o_val (r_ld (v := .string ⟨(t.tenant).toArray⟩) H (i := 0) rfl rfl ct9 rfl) ?_); refine l_op (o_s2B (l := t.tenant) H Tryz.underlying9 Tryz.underlying24 Tryz.underlying5 rfl (by omega) (fun b4 c5 ob6 w H hb4 hr7 => ?_)); replace H : Hp _ w _ ([_, _, .obj b4 ob6]) := H
  refine l_op (o_callR Tryz.func28 rfl rfl rfl (text1_ret _ ⟨hd a2, 8, c3, be (t.serial).toNat 8⟩ (⟨some ⟨b4, 0, none⟩, (t.tenant).length, c5, t.tenant⟩ : Sl) (H.slOwn (i := 1) rfl) (hr7 _ (H.has (.obj b4 ob6) (by simp))) (by (try simp only []); omega) (by (try simp only []); omega)) ?_); rintro _ w ⟨a8, n9, c10, rfl, hn11, Hc⟩
  replace H : Hp _ w _ ([_, _, _, .own a8 n9 c10 ((be (t.serial).toNat 8 ++ cnt ((t.tenant).length) ++ t.tenant).map V8) 5 1]) := H.call Hc
  clear Hc
  try dsimp only at hn11
  refine l_op (o_val r_mv ?_); refine l_op (o_val (r_ext rfl rfl) ?_); refine l_op (o_val (r_ext rfl rfl) ?_); refine l_op (o_val r_as ?_); first | refine l_end ?_ | refine l_nil ?_
  repeat refine c_seq ?_
  refine c_region ?_; refine l_op (o_val r_mv ?_); refine l_op (o_val (r_fa rfl fo46_2) ?_); refine l_op (o_val (r_ld (v := V8 t.rights) H (i := 0) rfl rfl ct43 rfl) ?_); refine l_op (o_bslB ([t.rights]) H sl24 zc5 rfl rfl (by decide) (fun b12 w H hb12 => ?_)); replace H : Hp _ w _ ([_, _, _, _, .own (some b12) 1 1 (([t.rights]).map V8) 5 1]) := H
  refine l_op (o_appB (s := ⟨hd (some b12), 1, 1, [t.rights]⟩) (l' := be (t.serial).toNat 8 ++ cnt ((t.tenant).length) ++ t.tenant ++ ([t.rights])) (len' := n9 + 1) rfl rfl H (i := 3) rfl sl24 Tryz.underlying24 rfl rfl (H.slOwn (i := 4) rfl) (by omega) (fun a13 c14 w H => ?_)); replace H : Hp _ w _ ([_, _, _, .own a13 (n9 + 1) c14 ((be (t.serial).toNat 8 ++ cnt ((t.tenant).length) ++ t.tenant ++ ([t.rights])).map V8) 5 1, _]) := H
  refine l_op (o_val r_as ?_); first | refine l_end ?_ | refine l_nil ?_
  repeat refine c_seq ?_
  refine c_region ?_; refine l_op (o_val r_mv ?_); refine l_op (o_val (r_fa rfl fo46_3) ?_); refine l_op (o_val (r_ld (v := VI t.from_) H (i := 0) rfl rfl ct2 rfl) ?_); refine l_op (o_callR Tryz.func29 rfl rfl rfl (zig1_ret _ (t.from_) (by omega) (by omega)) ?_); rintro _ w ⟨rfl, Hc⟩
  replace H : Hp _ w _ ([_, _, _, _, _]) := H.call Hc
  clear Hc
  refine l_op (o_callR Tryz.func25 rfl rfl rfl (eight_ret _ (zigU (t.from_))) ?_); rintro _ w ⟨a15, c16, rfl, Hc⟩
  replace H : Hp _ w _ ([_, _, _, _, _, .own a15 8 c16 ((be (zigU (t.from_)).toNat 8).map V8) 5 1]) := H.call Hc
  clear Hc
  refine l_op (o_appB (s := ⟨hd a15, 8, c16, be (zigU (t.from_)).toNat 8⟩) (l' := be (t.serial).toNat 8 ++ cnt ((t.tenant).length) ++ t.tenant ++ ([t.rights]) ++ (be (zigU (t.from_)).toNat 8)) (len' := n9 + 1 + 8) rfl rfl H (i := 3) rfl sl24 Tryz.underlying24 rfl rfl (H.slOwn (i := 5) rfl) (by omega) (fun a17 c18 w H => ?_)); replace H : Hp _ w _ ([_, _, _, .own a17 (n9 + 1 + 8) c18 ((be (t.serial).toNat 8 ++ cnt ((t.tenant).length) ++ t.tenant ++ ([t.rights]) ++ (be (zigU (t.from_)).toNat 8)).map V8) 5 1, _, _]) := H
  refine l_op (o_val r_as ?_); first | refine l_end ?_ | refine l_nil ?_
  repeat refine c_seq ?_
  refine c_region ?_; refine l_op (o_val r_mv ?_); refine l_op (o_val (r_fa rfl fo46_4) ?_); refine l_op (o_val (r_ld (v := VI t.until_) H (i := 0) rfl rfl ct2 rfl) ?_); refine l_op (o_callR Tryz.func29 rfl rfl rfl (zig1_ret _ (t.until_) (by omega) (by omega)) ?_); rintro _ w ⟨rfl, Hc⟩
  replace H : Hp _ w _ ([_, _, _, _, _, _]) := H.call Hc
  clear Hc
  refine l_op (o_callR Tryz.func25 rfl rfl rfl (eight_ret _ (zigU (t.until_))) ?_); rintro _ w ⟨a19, c20, rfl, Hc⟩
  replace H : Hp _ w _ ([_, _, _, _, _, _, .own a19 8 c20 ((be (zigU (t.until_)).toNat 8).map V8) 5 1]) := H.call Hc
  clear Hc
  refine l_op (o_appB (s := ⟨hd a19, 8, c20, be (zigU (t.until_)).toNat 8⟩) (l' := be (t.serial).toNat 8 ++ cnt ((t.tenant).length) ++ t.tenant ++ ([t.rights]) ++ (be (zigU (t.from_)).toNat 8) ++ (be (zigU (t.until_)).toNat 8)) (len' := n9 + 1 + 8 + 8) rfl rfl H (i := 3) rfl sl24 Tryz.underlying24 rfl rfl (H.slOwn (i := 6) rfl) (by omega) (fun a21 c22 w H => ?_)); replace H : Hp _ w _ ([_, _, _, .own a21 (n9 + 1 + 8 + 8) c22 ((be (t.serial).toNat 8 ++ cnt ((t.tenant).length) ++ t.tenant ++ ([t.rights]) ++ (be (zigU (t.from_)).toNat 8) ++ (be (zigU (t.until_)).toNat 8)).map V8) 5 1, _, _, _]) := H
  refine l_op (o_val r_as ?_); first | refine l_end ?_ | refine l_nil ?_
  refine c_ret ?_; try dsimp only [Exit.then, Exit.inBlock]
  refine e_ret1 (v := .slice (hd a21) (n9 + 1 + 8 + 8) c22) Tryz.results14 rfl ?_
  refine ⟨_, rfl, ?_⟩
  have e : be (t.serial).toNat 8 ++ cnt ((t.tenant).length) ++ t.tenant ++ ([t.rights]) ++ (be (zigU (t.from_)).toNat 8) ++ (be (zigU (t.until_)).toNat 8) = t.head := by simp [Tok.head, headB, timeB]
  rw [e] at H
  have hh := (H.ownLen (i := 3) rfl).1
  exact ⟨_, _, _, rfl, by omega, by simpa using hh, H.sub (.cons _ (.cons _ (.cons _ (.cons_cons _ (List.nil_sublist _)))))⟩
end Go.Proofs.YtiepekfcegdkoaaGreatDoor
namespace Go.Proofs.YtiepekfcegdkoaaGreatDoor
open Go
set_option maxRecDepth 100000
theorem bytes14_ok (w0 : World) (t : Tok) (hc : t.cs.ok cavE 2 w0) (htag : t.tag.length = 32) (hn : t.tenant.length ≤ 65536) (hb : t.bd) (hm : mayT t = true) :
    Ret Tryz.prog 8 [.agg ([V64 t.serial, .string ⟨(t.tenant).toArray⟩, V8 t.rights, VI t.from_, VI t.until_, t.cs.v] ++ (t.tag).map V8).toArray] w0 fun v w' => ∃ a n k, v = .tuple #[.slice (hd a) n k, VI 0] ∧ n ≤ t.tenant.length + 200 ∧ Hp w0 w' [] [.own a n k (t.bytes.map V8) 5 1] := by
  refine ret_mk Tryz.func8 rfl Tryz.ntmps8 (by simp) ?_
  have H := Hp.refl w0 []
  have hcl := hc.ln
  have hxl := hc.le
  have hxm := hc.mx
  have hmL : maxLen = 9223372036854775807 := rfl
  have h8 := ((mayT_iff t).1 hm).2.2.1
  repeat refine c_seq ?_
  refine c_region ?_; refine l_op (o_box (v := .agg ([V64 t.serial, .string ⟨(t.tenant).toArray⟩, V8 t.rights, VI t.from_, VI t.until_, t.cs.v] ++ (t.tag).map V8).toArray) H rfl (fun b1 w H hb1 => ?_)); replace H : Hp _ w _ ([.blk b1 ([V64 t.serial, .string ⟨(t.tenant).toArray⟩, V8 t.rights, VI t.from_, VI t.until_, t.cs.v] ++ (t.tag).map V8) 46]) := H
  refine l_op (o_val r_as ?_); refine l_op (o_val r_as ?_); first | refine l_end ?_ | refine l_nil ?_
  repeat refine c_seq ?_
  refine c_region ?_; refine l_op (o_val (r_ldA (C := [V64 t.serial, .string ⟨(t.tenant).toArray⟩, V8 t.rights, VI t.from_, VI t.until_, t.cs.v] ++ (t.tag).map V8) H (i := 0) rfl rfl rt46 (by rw [List.length_append, List.length_map, (show (t.tag).length = 32 from htag)]; rfl)) ?_); refine l_op (o_callR Tryz.func13 rfl rfl rfl (may14_ret _ t (hc.up H) (show (t.tag).length = 32 from htag) (by first | omega | (dsimp only; omega) | simp)) ?_); rintro _ w ⟨rfl, Hc⟩
  replace H : Hp _ w _ ([_]) := H.call Hc
  clear Hc
  have hk2 : (mayT t) = true := hm
  refine l_op (o_val (r_not rfl) ?_); first | refine l_end ?_ | refine l_nil ?_
  repeat refine c_seq ?_
  refine c_no (by exact congrArg Value.bool (congrArg not hk2)) ?_; refine c_skip ?_; repeat refine c_seq ?_
  refine wp_held (fun w => Hp w0 w [] [.blk b1 ([V64 t.serial, .string ⟨(t.tenant).toArray⟩, V8 t.rights, VI t.from_, VI t.until_, t.cs.v] ++ (t.tag).map V8) 46]) mixed ?_; replace H := H.drew
  have HS := H
  refine t_take 1 rfl (by kernel_rfl) (by kernel_rfl) (by kernel_rfl) (fun _ _ _ h => h) (fun w HS => r_ldA (C := [V64 t.serial, .string ⟨(t.tenant).toArray⟩, V8 t.rights, VI t.from_, VI t.until_, t.cs.v] ++ (t.tag).map V8) HS (i := 0) rfl rfl rt46 (by rw [List.length_append, List.length_map, (show (t.tag).length = 32 from htag)]; rfl)) HS ?_; refine t_take 4 rfl (by kernel_rfl) (by kernel_rfl) (by kernel_rfl) (fun _ _ _ h => h) (fun w HS => r_fa rfl fo46_5) HS ?_; refine t_take 5 rfl (by kernel_rfl) (by kernel_rfl) (by kernel_rfl) (fun _ _ _ h => h) (fun w HS => r_ld (v := t.cs.v) HS (i := 0) rfl rfl ct44 rfl) HS ?_; refine t_take 6 rfl (by kernel_rfl) (by kernel_rfl) (by kernel_rfl) (fun _ _ _ h => h) (fun w HS => r_lens el44 rfl) HS ?_; refine t_take 7 rfl (by kernel_rfl) (by kernel_rfl) (by kernel_rfl) (fun _ _ _ h => h) (fun w HS => r_conv (v := ((UInt8.ofNat t.cs.len).toNat : Int)) Tryz.underlying3 Tryz.underlying5 rfl (w_u8_N t.cs.len (by omega))) HS ?_; refine t_all [0, 2, 8] (by kernel_rfl) (by simp) (all_cons (w_op 0 rfl ?_) (all_cons (w_op 2 rfl ?_) (all_cons (w_op 8 rfl ?_) (all_nil))))
  ·
   refine (o_bslB ([(1 : UInt8)]) H sl24 zc5 rfl rfl (by decide) (fun b3 w H hb3 => ?_))
   replace H : Hp _ w _ ([_, .own (some b3) 1 1 (([(1 : UInt8)]).map V8) 5 1]) := H
   refine ⟨H.sub (.cons_cons _ (List.nil_sublist _)), ?_⟩
   replace HS := H.sub (.cons_cons _ (List.nil_sublist _))
   refine t_all [2, 8] (by kernel_rfl) (by simp) (all_cons (w_op 2 rfl ?_) (all_cons (w_op 8 rfl ?_) (all_nil)))
   ·
    refine (o_callR Tryz.func14 rfl rfl rfl (head14_ret _ t (hc.up H) (show (t.tag).length = 32 from htag) (by first | omega | (dsimp only; omega) | simp) hb) ?_)
    rintro _ w ⟨a4, n5, c6, rfl, hn7, hh8, Hc⟩
    replace H : Hp _ w _ ([_, _, .own a4 n5 c6 ((t.head).map V8) 5 1]) := H.call Hc
    clear Hc
    try dsimp only at hn7
    refine ⟨H.sub (.cons_cons _ (List.nil_sublist _)), ?_⟩
    replace HS := H.sub (.cons_cons _ (List.nil_sublist _))
    refine t_all [3, 8] (by kernel_rfl) (by simp) (all_cons (w_op 3 rfl ?_) (all_cons (w_op 8 rfl ?_) (all_nil)))
    ·
     refine (o_appB (s := ⟨hd a4, n5, c6, t.head⟩) (l' := [(1 : UInt8)] ++ t.head) (len' := 1 + n5) rfl rfl H (i := 1) rfl sl24 Tryz.underlying24 rfl rfl (H.slOwn (i := 2) rfl) (by omega) (fun a9 c10 w H => ?_))
     replace H : Hp _ w _ ([_, .own a9 (1 + n5) c10 (([(1 : UInt8)] ++ t.head).map V8) 5 1, _]) := H
     refine ⟨H.sub (.cons_cons _ (List.nil_sublist _)), ?_⟩
     replace HS := H.sub (.cons_cons _ (List.nil_sublist _))
     refine t_step 8 rfl (by kernel_rfl) (o_bslB ([UInt8.ofNat t.cs.len]) H sl24 zc5 rfl rfl (by decide) (fun b11 w H hb11 => ?_)); replace H : Hp _ w _ ([_, _, _, .own (some b11) 1 1 (([UInt8.ofNat t.cs.len]).map V8) 5 1]) := H
     refine ⟨H.sub (.cons_cons _ (List.nil_sublist _)), ?_⟩
     replace HS := H.sub (.cons_cons _ (List.nil_sublist _))
     refine t_step 9 rfl (by kernel_rfl) (o_appB (s := ⟨hd (some b11), 1, 1, [UInt8.ofNat t.cs.len]⟩) (l' := [(1 : UInt8)] ++ t.head ++ ([UInt8.ofNat t.cs.len])) (len' := 1 + n5 + 1) rfl rfl H (i := 1) rfl sl24 Tryz.underlying24 rfl rfl (H.slOwn (i := 3) rfl) (by omega) (fun a12 c13 w H => ?_)); replace H : Hp _ w _ ([_, .own a12 (1 + n5 + 1) c13 (([(1 : UInt8)] ++ t.head ++ ([UInt8.ofNat t.cs.len])).map V8) 5 1, _, _]) := H
     refine ⟨H.sub (.cons_cons _ (List.nil_sublist _)), ?_⟩
     replace HS := H.sub (.cons_cons _ (List.nil_sublist _))
     refine t_take 10 rfl (by kernel_rfl) (by kernel_rfl) (by kernel_rfl) (fun _ _ _ h => h) (fun w HS => r_as) HS ?_; refine t_done (by kernel_rfl) ?_
     clear HS
     repeat refine c_seq ?_
     refine c_region ?_; refine l_op (o_val r_as ?_); first | refine l_end ?_ | refine l_nil ?_
     repeat refine c_seq ?_
     refine c_block ?_; repeat refine c_seq ?_
     refine c_loop4 (fun (i : Nat) (a : Option Nat) (ln : Nat) (k : Nat) => [(1, .pointer (some ⟨b1, 0, none⟩)), (4, .slice (hd a) ln k), (5, VI (i : Int))])
       (fun (i : Nat) (a : Option Nat) (ln : Nat) (k : Nat) w => (i ≤ t.cs.len ∧ ln ≤ t.tenant.length + 66 + 9 * i) ∧ Hp w0 w [] ([.blk b1 ([V64 t.serial, .string ⟨(t.tenant).toArray⟩, V8 t.rights, VI t.from_, VI t.until_, t.cs.v] ++ (t.tag).map V8) 46, .own a ln k (([1] ++ t.head ++ [UInt8.ofNat t.cs.len] ++ cavsB (t.cs.l.take i)).map V8) 5 1, .own a4 n5 c6 ((t.head).map V8) 5 1, .own (some b11) 1 1 (([UInt8.ofNat t.cs.len]).map V8) 5 1]))
       (fun (i : Nat) (a : Option Nat) (ln : Nat) (k : Nat) => t.cs.len - i) 0 a12 (1 + n5 + 1) c13 ⟨rfl, rfl, rfl, trivial⟩ ⟨⟨Nat.zero_le _, by omega⟩, (by rw [show cavsB (t.cs.l.take 0) = [] from rfl, List.append_nil]; exact H)⟩ ?_
     clear H
     rintro i a ln k τ w ⟨⟨hi, hln⟩, H⟩
     repeat refine c_seq ?_
     refine c_region ?_; refine l_op (o_val r_mv ?_); refine l_op (o_val (r_fa rfl fo46_5) ?_); refine l_op (o_val (r_ld (v := t.cs.v) H (i := 0) rfl rfl ct44 rfl) ?_); refine l_op (o_val (r_lens el44 rfl) ?_); refine l_op (o_val (r_bin (a := (i : Int)) (b := (t.cs.len : Int)) rfl rfl (fun _ => b_lss)) ?_); first | refine l_end ?_ | refine l_nil ?_
     by_cases hc14 : (i : Int) < (t.cs.len : Int)
     ·
      repeat refine c_seq ?_
      refine c_yes (by exact congrArg Value.bool (decide_eq_true hc14)) ?_; refine c_skip ?_; repeat refine c_seq ?_
      refine c_block ?_; repeat refine c_seq ?_
      refine c_region ?_; refine l_op (o_val r_mv ?_); refine l_op (o_val (r_fa rfl fo46_5) ?_); refine l_op (o_val (r_ld (v := t.cs.v) H (i := 0) rfl rfl ct44 rfl) ?_); refine l_op (o_val r_mv ?_); have ah17 := ((hc.up H)).addr (by decide) (by first | omega | (dsimp only; omega))
      obtain ⟨ab15, ao16, ah17⟩ := ah17
      refine l_op (o_val (r_isN i rfl rfl el44 ah17 (by omega) (by (try simp only [Sl.cut]); omega)) ?_); have he19 : ∃ c, t.cs.l[i]? = some c := ⟨_, List.getElem?_eq_getElem (by have := ((hc.up H)).ln; (try dsimp only at this ⊢); omega)⟩
      obtain ⟨e18, he19⟩ := he19
      have hez20 := ((hc.up H)).sz e18 (List.mem_of_getElem? he19)
      refine l_op (o_val (r_ldRow (s := t.cs) (k := i) (hc.up H) ah17 rfl rt63 (by decide) he19) ?_); refine l_op (o_callR Tryz.func15 rfl rfl rfl (caveat14_ret _ e18 (hb.cs _ (List.mem_of_getElem? (by assumption)))) ?_); rintro _ w ⟨a21, c22, rfl, Hc⟩
      replace H : Hp _ w _ ([_, _, _, _, .own a21 9 c22 ((cavB e18).map V8) 5 1]) := H.call Hc
      clear Hc
      refine l_op (o_appB (s := ⟨hd a21, 9, c22, cavB e18⟩) (l' := [1] ++ t.head ++ [UInt8.ofNat t.cs.len] ++ cavsB (t.cs.l.take i) ++ (cavB e18)) (len' := ln + 9) rfl rfl H (i := 1) rfl sl24 Tryz.underlying24 rfl rfl (H.slOwn (i := 4) rfl) (by omega) (fun a23 c24 w H => ?_)); replace H : Hp _ w _ ([_, .own a23 (ln + 9) c24 (([1] ++ t.head ++ [UInt8.ofNat t.cs.len] ++ cavsB (t.cs.l.take i) ++ (cavB e18)).map V8) 5 1, _, _, _]) := H
      refine l_op (o_val r_as ?_); first | refine l_end ?_ | refine l_nil ?_
      repeat refine c_seq ?_
      refine c_region ?_; refine l_op (o_val r_mv ?_); refine l_op (o_val (r_bin (a := (i : Int)) (b := 1) rfl rfl (fun _ => b_add (by omega) (by omega))) ?_); refine l_op (o_val r_as ?_); first | refine l_end ?_ | refine l_nil ?_
      rw [List.append_assoc, cavsB_succ t.cs.l i e18 he19] at H
      refine round_end (i + 1, a23, ln + 9, c24) ?_ ?_ ?_
      · exact ⟨rfl, rfl, show VI ((i : Int) + 1) = VI ((i + 1 : Nat) : Int) from congrArg VI (by omega), trivial⟩
      · refine ⟨?_, ?_⟩
        · try dsimp only
          exact ⟨by omega, by omega⟩
        · exact H.sub (.cons_cons _ (.cons_cons _ (.cons_cons _ (.cons_cons _ (List.nil_sublist _)))))
      · show t.cs.len - (i + 1 : Nat) < t.cs.len - i; omega
     ·
      repeat refine c_seq ?_
      refine c_no (by exact congrArg Value.bool (decide_eq_false hc14)) ?_; refine c_exit ?_; repeat refine c_seq ?_
      refine c_region ?_; refine l_op (o_val r_mv ?_); refine l_op (o_val (r_fa rfl fo46_6) ?_); refine l_op (o_val (r_slAo (o := 6) (h := 32) (m := 32) (lv := none) (hv := none) (mv := none) rfl ar23 rfl rfl rfl (fun w => sbn w)) ?_); refine l_op (o_appB (s := (⟨some ⟨b1, 6, none⟩, 32, 32, t.tag⟩ : Sl)) (l' := [1] ++ t.head ++ [UInt8.ofNat t.cs.len] ++ cavsB (t.cs.l.take i) ++ t.tag) (len' := ln + 32) rfl rfl H (i := 1) rfl sl24 Tryz.underlying24 rfl rfl (H.slTail (i := 0) (o := 6) (pre := [V64 t.serial, .string ⟨(t.tenant).toArray⟩, V8 t.rights, VI t.from_, VI t.until_, t.cs.v]) rfl rfl (show (t.tag).length = 32 from htag) (by decide)) (by omega) (fun a25 c26 w H => ?_)); replace H : Hp _ w _ ([_, .own a25 (ln + 32) c26 (([1] ++ t.head ++ [UInt8.ofNat t.cs.len] ++ cavsB (t.cs.l.take i) ++ t.tag).map V8) 5 1, _, _]) := H
      refine l_op (o_val r_as ?_); refine l_op (o_val r_as ?_); first | refine l_end ?_ | refine l_nil ?_
      refine c_ret ?_; try dsimp only [Exit.then, Exit.inBlock]
      refine e_retN (vs := [.slice (hd a25) (ln + 32) c26, VI 0]) _ Tryz.results8 rfl (resT (v := .slice (hd a25) (ln + 32) c26) rfl (resT (v := VI 0) rfl (resZ))) ?_
      refine ⟨_, rfl, ?_⟩
      have hi2 : i = t.cs.len := by omega
      refine ⟨_, _, _, rfl, by omega, ?_⟩
      rw [List.take_of_length_le (by have := hc.ln; omega)] at H
      exact H.sub (.cons _ (.cons_cons _ (List.nil_sublist _)))
    ·
     refine (o_bslB ([UInt8.ofNat t.cs.len]) H sl24 zc5 rfl rfl (by decide) (fun b27 w H hb27 => ?_))
     replace H : Hp _ w _ ([_, _, _, .own (some b27) 1 1 (([UInt8.ofNat t.cs.len]).map V8) 5 1]) := H
     refine ⟨H.sub (.cons_cons _ (List.nil_sublist _)), ?_⟩
     replace HS := H.sub (.cons_cons _ (List.nil_sublist _))
     refine t_step 3 rfl (by kernel_rfl) (o_appB (s := ⟨hd a4, n5, c6, t.head⟩) (l' := [(1 : UInt8)] ++ t.head) (len' := 1 + n5) rfl rfl H (i := 1) rfl sl24 Tryz.underlying24 rfl rfl (H.slOwn (i := 2) rfl) (by omega) (fun a28 c29 w H => ?_)); replace H : Hp _ w _ ([_, .own a28 (1 + n5) c29 (([(1 : UInt8)] ++ t.head).map V8) 5 1, _, _]) := H
     refine ⟨H.sub (.cons_cons _ (List.nil_sublist _)), ?_⟩
     replace HS := H.sub (.cons_cons _ (List.nil_sublist _))
     refine t_step 9 rfl (by kernel_rfl) (o_appB (s := ⟨hd (some b27), 1, 1, [UInt8.ofNat t.cs.len]⟩) (l' := [(1 : UInt8)] ++ t.head ++ ([UInt8.ofNat t.cs.len])) (len' := 1 + n5 + 1) rfl rfl H (i := 1) rfl sl24 Tryz.underlying24 rfl rfl (H.slOwn (i := 3) rfl) (by omega) (fun a30 c31 w H => ?_)); replace H : Hp _ w _ ([_, .own a30 (1 + n5 + 1) c31 (([(1 : UInt8)] ++ t.head ++ ([UInt8.ofNat t.cs.len])).map V8) 5 1, _, _]) := H
     refine ⟨H.sub (.cons_cons _ (List.nil_sublist _)), ?_⟩
     replace HS := H.sub (.cons_cons _ (List.nil_sublist _))
     refine t_take 10 rfl (by kernel_rfl) (by kernel_rfl) (by kernel_rfl) (fun _ _ _ h => h) (fun w HS => r_as) HS ?_; refine t_done (by kernel_rfl) ?_
     clear HS
     repeat refine c_seq ?_
     refine c_region ?_; refine l_op (o_val r_as ?_); first | refine l_end ?_ | refine l_nil ?_
     repeat refine c_seq ?_
     refine c_block ?_; repeat refine c_seq ?_
     refine c_loop4 (fun (i : Nat) (a : Option Nat) (ln : Nat) (k : Nat) => [(1, .pointer (some ⟨b1, 0, none⟩)), (4, .slice (hd a) ln k), (5, VI (i : Int))])
       (fun (i : Nat) (a : Option Nat) (ln : Nat) (k : Nat) w => (i ≤ t.cs.len ∧ ln ≤ t.tenant.length + 66 + 9 * i) ∧ Hp w0 w [] ([.blk b1 ([V64 t.serial, .string ⟨(t.tenant).toArray⟩, V8 t.rights, VI t.from_, VI t.until_, t.cs.v] ++ (t.tag).map V8) 46, .own a ln k (([1] ++ t.head ++ [UInt8.ofNat t.cs.len] ++ cavsB (t.cs.l.take i)).map V8) 5 1, .own a4 n5 c6 ((t.head).map V8) 5 1, .own (some b27) 1 1 (([UInt8.ofNat t.cs.len]).map V8) 5 1]))
       (fun (i : Nat) (a : Option Nat) (ln : Nat) (k : Nat) => t.cs.len - i) 0 a30 (1 + n5 + 1) c31 ⟨rfl, rfl, rfl, trivial⟩ ⟨⟨Nat.zero_le _, by omega⟩, (by rw [show cavsB (t.cs.l.take 0) = [] from rfl, List.append_nil]; exact H)⟩ ?_
     clear H
     rintro i a ln k τ w ⟨⟨hi, hln⟩, H⟩
     repeat refine c_seq ?_
     refine c_region ?_; refine l_op (o_val r_mv ?_); refine l_op (o_val (r_fa rfl fo46_5) ?_); refine l_op (o_val (r_ld (v := t.cs.v) H (i := 0) rfl rfl ct44 rfl) ?_); refine l_op (o_val (r_lens el44 rfl) ?_); refine l_op (o_val (r_bin (a := (i : Int)) (b := (t.cs.len : Int)) rfl rfl (fun _ => b_lss)) ?_); first | refine l_end ?_ | refine l_nil ?_
     by_cases hc32 : (i : Int) < (t.cs.len : Int)
     ·
      repeat refine c_seq ?_
      refine c_yes (by exact congrArg Value.bool (decide_eq_true hc32)) ?_; refine c_skip ?_; repeat refine c_seq ?_
      refine c_block ?_; repeat refine c_seq ?_
      refine c_region ?_; refine l_op (o_val r_mv ?_); refine l_op (o_val (r_fa rfl fo46_5) ?_); refine l_op (o_val (r_ld (v := t.cs.v) H (i := 0) rfl rfl ct44 rfl) ?_); refine l_op (o_val r_mv ?_); have ah35 := ((hc.up H)).addr (by decide) (by first | omega | (dsimp only; omega))
      obtain ⟨ab33, ao34, ah35⟩ := ah35
      refine l_op (o_val (r_isN i rfl rfl el44 ah35 (by omega) (by (try simp only [Sl.cut]); omega)) ?_); have he37 : ∃ c, t.cs.l[i]? = some c := ⟨_, List.getElem?_eq_getElem (by have := ((hc.up H)).ln; (try dsimp only at this ⊢); omega)⟩
      obtain ⟨e36, he37⟩ := he37
      have hez38 := ((hc.up H)).sz e36 (List.mem_of_getElem? he37)
      refine l_op (o_val (r_ldRow (s := t.cs) (k := i) (hc.up H) ah35 rfl rt63 (by decide) he37) ?_); refine l_op (o_callR Tryz.func15 rfl rfl rfl (caveat14_ret _ e36 (hb.cs _ (List.mem_of_getElem? (by assumption)))) ?_); rintro _ w ⟨a39, c40, rfl, Hc⟩
      replace H : Hp _ w _ ([_, _, _, _, .own a39 9 c40 ((cavB e36).map V8) 5 1]) := H.call Hc
      clear Hc
      refine l_op (o_appB (s := ⟨hd a39, 9, c40, cavB e36⟩) (l' := [1] ++ t.head ++ [UInt8.ofNat t.cs.len] ++ cavsB (t.cs.l.take i) ++ (cavB e36)) (len' := ln + 9) rfl rfl H (i := 1) rfl sl24 Tryz.underlying24 rfl rfl (H.slOwn (i := 4) rfl) (by omega) (fun a41 c42 w H => ?_)); replace H : Hp _ w _ ([_, .own a41 (ln + 9) c42 (([1] ++ t.head ++ [UInt8.ofNat t.cs.len] ++ cavsB (t.cs.l.take i) ++ (cavB e36)).map V8) 5 1, _, _, _]) := H
      refine l_op (o_val r_as ?_); first | refine l_end ?_ | refine l_nil ?_
      repeat refine c_seq ?_
      refine c_region ?_; refine l_op (o_val r_mv ?_); refine l_op (o_val (r_bin (a := (i : Int)) (b := 1) rfl rfl (fun _ => b_add (by omega) (by omega))) ?_); refine l_op (o_val r_as ?_); first | refine l_end ?_ | refine l_nil ?_
      rw [List.append_assoc, cavsB_succ t.cs.l i e36 he37] at H
      refine round_end (i + 1, a41, ln + 9, c42) ?_ ?_ ?_
      · exact ⟨rfl, rfl, show VI ((i : Int) + 1) = VI ((i + 1 : Nat) : Int) from congrArg VI (by omega), trivial⟩
      · refine ⟨?_, ?_⟩
        · try dsimp only
          exact ⟨by omega, by omega⟩
        · exact H.sub (.cons_cons _ (.cons_cons _ (.cons_cons _ (.cons_cons _ (List.nil_sublist _)))))
      · show t.cs.len - (i + 1 : Nat) < t.cs.len - i; omega
     ·
      repeat refine c_seq ?_
      refine c_no (by exact congrArg Value.bool (decide_eq_false hc32)) ?_; refine c_exit ?_; repeat refine c_seq ?_
      refine c_region ?_; refine l_op (o_val r_mv ?_); refine l_op (o_val (r_fa rfl fo46_6) ?_); refine l_op (o_val (r_slAo (o := 6) (h := 32) (m := 32) (lv := none) (hv := none) (mv := none) rfl ar23 rfl rfl rfl (fun w => sbn w)) ?_); refine l_op (o_appB (s := (⟨some ⟨b1, 6, none⟩, 32, 32, t.tag⟩ : Sl)) (l' := [1] ++ t.head ++ [UInt8.ofNat t.cs.len] ++ cavsB (t.cs.l.take i) ++ t.tag) (len' := ln + 32) rfl rfl H (i := 1) rfl sl24 Tryz.underlying24 rfl rfl (H.slTail (i := 0) (o := 6) (pre := [V64 t.serial, .string ⟨(t.tenant).toArray⟩, V8 t.rights, VI t.from_, VI t.until_, t.cs.v]) rfl rfl (show (t.tag).length = 32 from htag) (by decide)) (by omega) (fun a43 c44 w H => ?_)); replace H : Hp _ w _ ([_, .own a43 (ln + 32) c44 (([1] ++ t.head ++ [UInt8.ofNat t.cs.len] ++ cavsB (t.cs.l.take i) ++ t.tag).map V8) 5 1, _, _]) := H
      refine l_op (o_val r_as ?_); refine l_op (o_val r_as ?_); first | refine l_end ?_ | refine l_nil ?_
      refine c_ret ?_; try dsimp only [Exit.then, Exit.inBlock]
      refine e_retN (vs := [.slice (hd a43) (ln + 32) c44, VI 0]) _ Tryz.results8 rfl (resT (v := .slice (hd a43) (ln + 32) c44) rfl (resT (v := VI 0) rfl (resZ))) ?_
      refine ⟨_, rfl, ?_⟩
      have hi2 : i = t.cs.len := by omega
      refine ⟨_, _, _, rfl, by omega, ?_⟩
      rw [List.take_of_length_le (by have := hc.ln; omega)] at H
      exact H.sub (.cons _ (.cons_cons _ (List.nil_sublist _)))
   ·
    refine (o_bslB ([UInt8.ofNat t.cs.len]) H sl24 zc5 rfl rfl (by decide) (fun b45 w H hb45 => ?_))
    replace H : Hp _ w _ ([_, _, .own (some b45) 1 1 (([UInt8.ofNat t.cs.len]).map V8) 5 1]) := H
    refine ⟨H.sub (.cons_cons _ (List.nil_sublist _)), ?_⟩
    replace HS := H.sub (.cons_cons _ (List.nil_sublist _))
    refine t_step 2 rfl (by kernel_rfl) (o_callR Tryz.func14 rfl rfl rfl (head14_ret _ t (hc.up H) (show (t.tag).length = 32 from htag) (by first | omega | (dsimp only; omega) | simp) hb) ?_); rintro _ w ⟨a46, n47, c48, rfl, hn49, hh50, Hc⟩
    replace H : Hp _ w _ ([_, _, _, .own a46 n47 c48 ((t.head).map V8) 5 1]) := H.call Hc
    clear Hc
    try dsimp only at hn49
    refine ⟨H.sub (.cons_cons _ (List.nil_sublist _)), ?_⟩
    replace HS := H.sub (.cons_cons _ (List.nil_sublist _))
    refine t_step 3 rfl (by kernel_rfl) (o_appB (s := ⟨hd a46, n47, c48, t.head⟩) (l' := [(1 : UInt8)] ++ t.head) (len' := 1 + n47) rfl rfl H (i := 1) rfl sl24 Tryz.underlying24 rfl rfl (H.slOwn (i := 3) rfl) (by omega) (fun a51 c52 w H => ?_)); replace H : Hp _ w _ ([_, .own a51 (1 + n47) c52 (([(1 : UInt8)] ++ t.head).map V8) 5 1, _, _]) := H
    refine ⟨H.sub (.cons_cons _ (List.nil_sublist _)), ?_⟩
    replace HS := H.sub (.cons_cons _ (List.nil_sublist _))
    refine t_step 9 rfl (by kernel_rfl) (o_appB (s := ⟨hd (some b45), 1, 1, [UInt8.ofNat t.cs.len]⟩) (l' := [(1 : UInt8)] ++ t.head ++ ([UInt8.ofNat t.cs.len])) (len' := 1 + n47 + 1) rfl rfl H (i := 1) rfl sl24 Tryz.underlying24 rfl rfl (H.slOwn (i := 2) rfl) (by omega) (fun a53 c54 w H => ?_)); replace H : Hp _ w _ ([_, .own a53 (1 + n47 + 1) c54 (([(1 : UInt8)] ++ t.head ++ ([UInt8.ofNat t.cs.len])).map V8) 5 1, _, _]) := H
    refine ⟨H.sub (.cons_cons _ (List.nil_sublist _)), ?_⟩
    replace HS := H.sub (.cons_cons _ (List.nil_sublist _))
    refine t_take 10 rfl (by kernel_rfl) (by kernel_rfl) (by kernel_rfl) (fun _ _ _ h => h) (fun w HS => r_as) HS ?_; refine t_done (by kernel_rfl) ?_
    clear HS
    repeat refine c_seq ?_
    refine c_region ?_; refine l_op (o_val r_as ?_); first | refine l_end ?_ | refine l_nil ?_
    repeat refine c_seq ?_
    refine c_block ?_; repeat refine c_seq ?_
    refine c_loop4 (fun (i : Nat) (a : Option Nat) (ln : Nat) (k : Nat) => [(1, .pointer (some ⟨b1, 0, none⟩)), (4, .slice (hd a) ln k), (5, VI (i : Int))])
      (fun (i : Nat) (a : Option Nat) (ln : Nat) (k : Nat) w => (i ≤ t.cs.len ∧ ln ≤ t.tenant.length + 66 + 9 * i) ∧ Hp w0 w [] ([.blk b1 ([V64 t.serial, .string ⟨(t.tenant).toArray⟩, V8 t.rights, VI t.from_, VI t.until_, t.cs.v] ++ (t.tag).map V8) 46, .own a ln k (([1] ++ t.head ++ [UInt8.ofNat t.cs.len] ++ cavsB (t.cs.l.take i)).map V8) 5 1, .own (some b45) 1 1 (([UInt8.ofNat t.cs.len]).map V8) 5 1, .own a46 n47 c48 ((t.head).map V8) 5 1]))
      (fun (i : Nat) (a : Option Nat) (ln : Nat) (k : Nat) => t.cs.len - i) 0 a53 (1 + n47 + 1) c54 ⟨rfl, rfl, rfl, trivial⟩ ⟨⟨Nat.zero_le _, by omega⟩, (by rw [show cavsB (t.cs.l.take 0) = [] from rfl, List.append_nil]; exact H)⟩ ?_
    clear H
    rintro i a ln k τ w ⟨⟨hi, hln⟩, H⟩
    repeat refine c_seq ?_
    refine c_region ?_; refine l_op (o_val r_mv ?_); refine l_op (o_val (r_fa rfl fo46_5) ?_); refine l_op (o_val (r_ld (v := t.cs.v) H (i := 0) rfl rfl ct44 rfl) ?_); refine l_op (o_val (r_lens el44 rfl) ?_); refine l_op (o_val (r_bin (a := (i : Int)) (b := (t.cs.len : Int)) rfl rfl (fun _ => b_lss)) ?_); first | refine l_end ?_ | refine l_nil ?_
    by_cases hc55 : (i : Int) < (t.cs.len : Int)
    ·
     repeat refine c_seq ?_
     refine c_yes (by exact congrArg Value.bool (decide_eq_true hc55)) ?_; refine c_skip ?_; repeat refine c_seq ?_
     refine c_block ?_; repeat refine c_seq ?_
     refine c_region ?_; refine l_op (o_val r_mv ?_); refine l_op (o_val (r_fa rfl fo46_5) ?_); refine l_op (o_val (r_ld (v := t.cs.v) H (i := 0) rfl rfl ct44 rfl) ?_); refine l_op (o_val r_mv ?_); have ah58 := ((hc.up H)).addr (by decide) (by first | omega | (dsimp only; omega))
     obtain ⟨ab56, ao57, ah58⟩ := ah58
     refine l_op (o_val (r_isN i rfl rfl el44 ah58 (by omega) (by (try simp only [Sl.cut]); omega)) ?_); have he60 : ∃ c, t.cs.l[i]? = some c := ⟨_, List.getElem?_eq_getElem (by have := ((hc.up H)).ln; (try dsimp only at this ⊢); omega)⟩
     obtain ⟨e59, he60⟩ := he60
     have hez61 := ((hc.up H)).sz e59 (List.mem_of_getElem? he60)
     refine l_op (o_val (r_ldRow (s := t.cs) (k := i) (hc.up H) ah58 rfl rt63 (by decide) he60) ?_); refine l_op (o_callR Tryz.func15 rfl rfl rfl (caveat14_ret _ e59 (hb.cs _ (List.mem_of_getElem? (by assumption)))) ?_); rintro _ w ⟨a62, c63, rfl, Hc⟩
     replace H : Hp _ w _ ([_, _, _, _, .own a62 9 c63 ((cavB e59).map V8) 5 1]) := H.call Hc
     clear Hc
     refine l_op (o_appB (s := ⟨hd a62, 9, c63, cavB e59⟩) (l' := [1] ++ t.head ++ [UInt8.ofNat t.cs.len] ++ cavsB (t.cs.l.take i) ++ (cavB e59)) (len' := ln + 9) rfl rfl H (i := 1) rfl sl24 Tryz.underlying24 rfl rfl (H.slOwn (i := 4) rfl) (by omega) (fun a64 c65 w H => ?_)); replace H : Hp _ w _ ([_, .own a64 (ln + 9) c65 (([1] ++ t.head ++ [UInt8.ofNat t.cs.len] ++ cavsB (t.cs.l.take i) ++ (cavB e59)).map V8) 5 1, _, _, _]) := H
     refine l_op (o_val r_as ?_); first | refine l_end ?_ | refine l_nil ?_
     repeat refine c_seq ?_
     refine c_region ?_; refine l_op (o_val r_mv ?_); refine l_op (o_val (r_bin (a := (i : Int)) (b := 1) rfl rfl (fun _ => b_add (by omega) (by omega))) ?_); refine l_op (o_val r_as ?_); first | refine l_end ?_ | refine l_nil ?_
     rw [List.append_assoc, cavsB_succ t.cs.l i e59 he60] at H
     refine round_end (i + 1, a64, ln + 9, c65) ?_ ?_ ?_
     · exact ⟨rfl, rfl, show VI ((i : Int) + 1) = VI ((i + 1 : Nat) : Int) from congrArg VI (by omega), trivial⟩
     · refine ⟨?_, ?_⟩
       · try dsimp only
         exact ⟨by omega, by omega⟩
       · exact H.sub (.cons_cons _ (.cons_cons _ (.cons_cons _ (.cons_cons _ (List.nil_sublist _)))))
     · show t.cs.len - (i + 1 : Nat) < t.cs.len - i; omega
    ·
     repeat refine c_seq ?_
     refine c_no (by exact congrArg Value.bool (decide_eq_false hc55)) ?_; refine c_exit ?_; repeat refine c_seq ?_
     refine c_region ?_; refine l_op (o_val r_mv ?_); refine l_op (o_val (r_fa rfl fo46_6) ?_); refine l_op (o_val (r_slAo (o := 6) (h := 32) (m := 32) (lv := none) (hv := none) (mv := none) rfl ar23 rfl rfl rfl (fun w => sbn w)) ?_); refine l_op (o_appB (s := (⟨some ⟨b1, 6, none⟩, 32, 32, t.tag⟩ : Sl)) (l' := [1] ++ t.head ++ [UInt8.ofNat t.cs.len] ++ cavsB (t.cs.l.take i) ++ t.tag) (len' := ln + 32) rfl rfl H (i := 1) rfl sl24 Tryz.underlying24 rfl rfl (H.slTail (i := 0) (o := 6) (pre := [V64 t.serial, .string ⟨(t.tenant).toArray⟩, V8 t.rights, VI t.from_, VI t.until_, t.cs.v]) rfl rfl (show (t.tag).length = 32 from htag) (by decide)) (by omega) (fun a66 c67 w H => ?_)); replace H : Hp _ w _ ([_, .own a66 (ln + 32) c67 (([1] ++ t.head ++ [UInt8.ofNat t.cs.len] ++ cavsB (t.cs.l.take i) ++ t.tag).map V8) 5 1, _, _]) := H
     refine l_op (o_val r_as ?_); refine l_op (o_val r_as ?_); first | refine l_end ?_ | refine l_nil ?_
     refine c_ret ?_; try dsimp only [Exit.then, Exit.inBlock]
     refine e_retN (vs := [.slice (hd a66) (ln + 32) c67, VI 0]) _ Tryz.results8 rfl (resT (v := .slice (hd a66) (ln + 32) c67) rfl (resT (v := VI 0) rfl (resZ))) ?_
     refine ⟨_, rfl, ?_⟩
     have hi2 : i = t.cs.len := by omega
     refine ⟨_, _, _, rfl, by omega, ?_⟩
     rw [List.take_of_length_le (by have := hc.ln; omega)] at H
     exact H.sub (.cons _ (.cons_cons _ (List.nil_sublist _)))
  ·
   refine (o_callR Tryz.func14 rfl rfl rfl (head14_ret _ t (hc.up H) (show (t.tag).length = 32 from htag) (by first | omega | (dsimp only; omega) | simp) hb) ?_)
   rintro _ w ⟨a68, n69, c70, rfl, hn71, hh72, Hc⟩
   replace H : Hp _ w _ ([_, .own a68 n69 c70 ((t.head).map V8) 5 1]) := H.call Hc
   clear Hc
   try dsimp only at hn71
   refine ⟨H.sub (.cons_cons _ (List.nil_sublist _)), ?_⟩
   replace HS := H.sub (.cons_cons _ (List.nil_sublist _))
   refine t_all [0, 8] (by kernel_rfl) (by simp) (all_cons (w_op 0 rfl ?_) (all_cons (w_op 8 rfl ?_) (all_nil)))
   ·
    refine (o_bslB ([(1 : UInt8)]) H sl24 zc5 rfl rfl (by decide) (fun b73 w H hb73 => ?_))
    replace H : Hp _ w _ ([_, _, .own (some b73) 1 1 (([(1 : UInt8)]).map V8) 5 1]) := H
    refine ⟨H.sub (.cons_cons _ (List.nil_sublist _)), ?_⟩
    replace HS := H.sub (.cons_cons _ (List.nil_sublist _))
    refine t_all [3, 8] (by kernel_rfl) (by simp) (all_cons (w_op 3 rfl ?_) (all_cons (w_op 8 rfl ?_) (all_nil)))
    ·
     refine (o_appB (s := ⟨hd a68, n69, c70, t.head⟩) (l' := [(1 : UInt8)] ++ t.head) (len' := 1 + n69) rfl rfl H (i := 2) rfl sl24 Tryz.underlying24 rfl rfl (H.slOwn (i := 1) rfl) (by omega) (fun a74 c75 w H => ?_))
     replace H : Hp _ w _ ([_, _, .own a74 (1 + n69) c75 (([(1 : UInt8)] ++ t.head).map V8) 5 1]) := H
     refine ⟨H.sub (.cons_cons _ (List.nil_sublist _)), ?_⟩
     replace HS := H.sub (.cons_cons _ (List.nil_sublist _))
     refine t_step 8 rfl (by kernel_rfl) (o_bslB ([UInt8.ofNat t.cs.len]) H sl24 zc5 rfl rfl (by decide) (fun b76 w H hb76 => ?_)); replace H : Hp _ w _ ([_, _, _, .own (some b76) 1 1 (([UInt8.ofNat t.cs.len]).map V8) 5 1]) := H
     refine ⟨H.sub (.cons_cons _ (List.nil_sublist _)), ?_⟩
     replace HS := H.sub (.cons_cons _ (List.nil_sublist _))
     refine t_step 9 rfl (by kernel_rfl) (o_appB (s := ⟨hd (some b76), 1, 1, [UInt8.ofNat t.cs.len]⟩) (l' := [(1 : UInt8)] ++ t.head ++ ([UInt8.ofNat t.cs.len])) (len' := 1 + n69 + 1) rfl rfl H (i := 2) rfl sl24 Tryz.underlying24 rfl rfl (H.slOwn (i := 3) rfl) (by omega) (fun a77 c78 w H => ?_)); replace H : Hp _ w _ ([_, _, .own a77 (1 + n69 + 1) c78 (([(1 : UInt8)] ++ t.head ++ ([UInt8.ofNat t.cs.len])).map V8) 5 1, _]) := H
     refine ⟨H.sub (.cons_cons _ (List.nil_sublist _)), ?_⟩
     replace HS := H.sub (.cons_cons _ (List.nil_sublist _))
     refine t_take 10 rfl (by kernel_rfl) (by kernel_rfl) (by kernel_rfl) (fun _ _ _ h => h) (fun w HS => r_as) HS ?_; refine t_done (by kernel_rfl) ?_
     clear HS
     repeat refine c_seq ?_
     refine c_region ?_; refine l_op (o_val r_as ?_); first | refine l_end ?_ | refine l_nil ?_
     repeat refine c_seq ?_
     refine c_block ?_; repeat refine c_seq ?_
     refine c_loop4 (fun (i : Nat) (a : Option Nat) (ln : Nat) (k : Nat) => [(1, .pointer (some ⟨b1, 0, none⟩)), (4, .slice (hd a) ln k), (5, VI (i : Int))])
       (fun (i : Nat) (a : Option Nat) (ln : Nat) (k : Nat) w => (i ≤ t.cs.len ∧ ln ≤ t.tenant.length + 66 + 9 * i) ∧ Hp w0 w [] ([.blk b1 ([V64 t.serial, .string ⟨(t.tenant).toArray⟩, V8 t.rights, VI t.from_, VI t.until_, t.cs.v] ++ (t.tag).map V8) 46, .own a68 n69 c70 ((t.head).map V8) 5 1, .own a ln k (([1] ++ t.head ++ [UInt8.ofNat t.cs.len] ++ cavsB (t.cs.l.take i)).map V8) 5 1, .own (some b76) 1 1 (([UInt8.ofNat t.cs.len]).map V8) 5 1]))
       (fun (i : Nat) (a : Option Nat) (ln : Nat) (k : Nat) => t.cs.len - i) 0 a77 (1 + n69 + 1) c78 ⟨rfl, rfl, rfl, trivial⟩ ⟨⟨Nat.zero_le _, by omega⟩, (by rw [show cavsB (t.cs.l.take 0) = [] from rfl, List.append_nil]; exact H)⟩ ?_
     clear H
     rintro i a ln k τ w ⟨⟨hi, hln⟩, H⟩
     repeat refine c_seq ?_
     refine c_region ?_; refine l_op (o_val r_mv ?_); refine l_op (o_val (r_fa rfl fo46_5) ?_); refine l_op (o_val (r_ld (v := t.cs.v) H (i := 0) rfl rfl ct44 rfl) ?_); refine l_op (o_val (r_lens el44 rfl) ?_); refine l_op (o_val (r_bin (a := (i : Int)) (b := (t.cs.len : Int)) rfl rfl (fun _ => b_lss)) ?_); first | refine l_end ?_ | refine l_nil ?_
     by_cases hc79 : (i : Int) < (t.cs.len : Int)
     ·
      repeat refine c_seq ?_
      refine c_yes (by exact congrArg Value.bool (decide_eq_true hc79)) ?_; refine c_skip ?_; repeat refine c_seq ?_
      refine c_block ?_; repeat refine c_seq ?_
      refine c_region ?_; refine l_op (o_val r_mv ?_); refine l_op (o_val (r_fa rfl fo46_5) ?_); refine l_op (o_val (r_ld (v := t.cs.v) H (i := 0) rfl rfl ct44 rfl) ?_); refine l_op (o_val r_mv ?_); have ah82 := ((hc.up H)).addr (by decide) (by first | omega | (dsimp only; omega))
      obtain ⟨ab80, ao81, ah82⟩ := ah82
      refine l_op (o_val (r_isN i rfl rfl el44 ah82 (by omega) (by (try simp only [Sl.cut]); omega)) ?_); have he84 : ∃ c, t.cs.l[i]? = some c := ⟨_, List.getElem?_eq_getElem (by have := ((hc.up H)).ln; (try dsimp only at this ⊢); omega)⟩
      obtain ⟨e83, he84⟩ := he84
      have hez85 := ((hc.up H)).sz e83 (List.mem_of_getElem? he84)
      refine l_op (o_val (r_ldRow (s := t.cs) (k := i) (hc.up H) ah82 rfl rt63 (by decide) he84) ?_); refine l_op (o_callR Tryz.func15 rfl rfl rfl (caveat14_ret _ e83 (hb.cs _ (List.mem_of_getElem? (by assumption)))) ?_); rintro _ w ⟨a86, c87, rfl, Hc⟩
      replace H : Hp _ w _ ([_, _, _, _, .own a86 9 c87 ((cavB e83).map V8) 5 1]) := H.call Hc
      clear Hc
      refine l_op (o_appB (s := ⟨hd a86, 9, c87, cavB e83⟩) (l' := [1] ++ t.head ++ [UInt8.ofNat t.cs.len] ++ cavsB (t.cs.l.take i) ++ (cavB e83)) (len' := ln + 9) rfl rfl H (i := 2) rfl sl24 Tryz.underlying24 rfl rfl (H.slOwn (i := 4) rfl) (by omega) (fun a88 c89 w H => ?_)); replace H : Hp _ w _ ([_, _, .own a88 (ln + 9) c89 (([1] ++ t.head ++ [UInt8.ofNat t.cs.len] ++ cavsB (t.cs.l.take i) ++ (cavB e83)).map V8) 5 1, _, _]) := H
      refine l_op (o_val r_as ?_); first | refine l_end ?_ | refine l_nil ?_
      repeat refine c_seq ?_
      refine c_region ?_; refine l_op (o_val r_mv ?_); refine l_op (o_val (r_bin (a := (i : Int)) (b := 1) rfl rfl (fun _ => b_add (by omega) (by omega))) ?_); refine l_op (o_val r_as ?_); first | refine l_end ?_ | refine l_nil ?_
      rw [List.append_assoc, cavsB_succ t.cs.l i e83 he84] at H
      refine round_end (i + 1, a88, ln + 9, c89) ?_ ?_ ?_
      · exact ⟨rfl, rfl, show VI ((i : Int) + 1) = VI ((i + 1 : Nat) : Int) from congrArg VI (by omega), trivial⟩
      · refine ⟨?_, ?_⟩
        · try dsimp only
          exact ⟨by omega, by omega⟩
        · exact H.sub (.cons_cons _ (.cons_cons _ (.cons_cons _ (.cons_cons _ (List.nil_sublist _)))))
      · show t.cs.len - (i + 1 : Nat) < t.cs.len - i; omega
     ·
      repeat refine c_seq ?_
      refine c_no (by exact congrArg Value.bool (decide_eq_false hc79)) ?_; refine c_exit ?_; repeat refine c_seq ?_
      refine c_region ?_; refine l_op (o_val r_mv ?_); refine l_op (o_val (r_fa rfl fo46_6) ?_); refine l_op (o_val (r_slAo (o := 6) (h := 32) (m := 32) (lv := none) (hv := none) (mv := none) rfl ar23 rfl rfl rfl (fun w => sbn w)) ?_); refine l_op (o_appB (s := (⟨some ⟨b1, 6, none⟩, 32, 32, t.tag⟩ : Sl)) (l' := [1] ++ t.head ++ [UInt8.ofNat t.cs.len] ++ cavsB (t.cs.l.take i) ++ t.tag) (len' := ln + 32) rfl rfl H (i := 2) rfl sl24 Tryz.underlying24 rfl rfl (H.slTail (i := 0) (o := 6) (pre := [V64 t.serial, .string ⟨(t.tenant).toArray⟩, V8 t.rights, VI t.from_, VI t.until_, t.cs.v]) rfl rfl (show (t.tag).length = 32 from htag) (by decide)) (by omega) (fun a90 c91 w H => ?_)); replace H : Hp _ w _ ([_, _, .own a90 (ln + 32) c91 (([1] ++ t.head ++ [UInt8.ofNat t.cs.len] ++ cavsB (t.cs.l.take i) ++ t.tag).map V8) 5 1, _]) := H
      refine l_op (o_val r_as ?_); refine l_op (o_val r_as ?_); first | refine l_end ?_ | refine l_nil ?_
      refine c_ret ?_; try dsimp only [Exit.then, Exit.inBlock]
      refine e_retN (vs := [.slice (hd a90) (ln + 32) c91, VI 0]) _ Tryz.results8 rfl (resT (v := .slice (hd a90) (ln + 32) c91) rfl (resT (v := VI 0) rfl (resZ))) ?_
      refine ⟨_, rfl, ?_⟩
      have hi2 : i = t.cs.len := by omega
      refine ⟨_, _, _, rfl, by omega, ?_⟩
      rw [List.take_of_length_le (by have := hc.ln; omega)] at H
      exact H.sub (.cons _ (.cons _ (.cons_cons _ (List.nil_sublist _))))
    ·
     refine (o_bslB ([UInt8.ofNat t.cs.len]) H sl24 zc5 rfl rfl (by decide) (fun b92 w H hb92 => ?_))
     replace H : Hp _ w _ ([_, _, _, .own (some b92) 1 1 (([UInt8.ofNat t.cs.len]).map V8) 5 1]) := H
     refine ⟨H.sub (.cons_cons _ (List.nil_sublist _)), ?_⟩
     replace HS := H.sub (.cons_cons _ (List.nil_sublist _))
     refine t_step 3 rfl (by kernel_rfl) (o_appB (s := ⟨hd a68, n69, c70, t.head⟩) (l' := [(1 : UInt8)] ++ t.head) (len' := 1 + n69) rfl rfl H (i := 2) rfl sl24 Tryz.underlying24 rfl rfl (H.slOwn (i := 1) rfl) (by omega) (fun a93 c94 w H => ?_)); replace H : Hp _ w _ ([_, _, .own a93 (1 + n69) c94 (([(1 : UInt8)] ++ t.head).map V8) 5 1, _]) := H
     refine ⟨H.sub (.cons_cons _ (List.nil_sublist _)), ?_⟩
     replace HS := H.sub (.cons_cons _ (List.nil_sublist _))
     refine t_step 9 rfl (by kernel_rfl) (o_appB (s := ⟨hd (some b92), 1, 1, [UInt8.ofNat t.cs.len]⟩) (l' := [(1 : UInt8)] ++ t.head ++ ([UInt8.ofNat t.cs.len])) (len' := 1 + n69 + 1) rfl rfl H (i := 2) rfl sl24 Tryz.underlying24 rfl rfl (H.slOwn (i := 3) rfl) (by omega) (fun a95 c96 w H => ?_)); replace H : Hp _ w _ ([_, _, .own a95 (1 + n69 + 1) c96 (([(1 : UInt8)] ++ t.head ++ ([UInt8.ofNat t.cs.len])).map V8) 5 1, _]) := H
     refine ⟨H.sub (.cons_cons _ (List.nil_sublist _)), ?_⟩
     replace HS := H.sub (.cons_cons _ (List.nil_sublist _))
     refine t_take 10 rfl (by kernel_rfl) (by kernel_rfl) (by kernel_rfl) (fun _ _ _ h => h) (fun w HS => r_as) HS ?_; refine t_done (by kernel_rfl) ?_
     clear HS
     repeat refine c_seq ?_
     refine c_region ?_; refine l_op (o_val r_as ?_); first | refine l_end ?_ | refine l_nil ?_
     repeat refine c_seq ?_
     refine c_block ?_; repeat refine c_seq ?_
     refine c_loop4 (fun (i : Nat) (a : Option Nat) (ln : Nat) (k : Nat) => [(1, .pointer (some ⟨b1, 0, none⟩)), (4, .slice (hd a) ln k), (5, VI (i : Int))])
       (fun (i : Nat) (a : Option Nat) (ln : Nat) (k : Nat) w => (i ≤ t.cs.len ∧ ln ≤ t.tenant.length + 66 + 9 * i) ∧ Hp w0 w [] ([.blk b1 ([V64 t.serial, .string ⟨(t.tenant).toArray⟩, V8 t.rights, VI t.from_, VI t.until_, t.cs.v] ++ (t.tag).map V8) 46, .own a68 n69 c70 ((t.head).map V8) 5 1, .own a ln k (([1] ++ t.head ++ [UInt8.ofNat t.cs.len] ++ cavsB (t.cs.l.take i)).map V8) 5 1, .own (some b92) 1 1 (([UInt8.ofNat t.cs.len]).map V8) 5 1]))
       (fun (i : Nat) (a : Option Nat) (ln : Nat) (k : Nat) => t.cs.len - i) 0 a95 (1 + n69 + 1) c96 ⟨rfl, rfl, rfl, trivial⟩ ⟨⟨Nat.zero_le _, by omega⟩, (by rw [show cavsB (t.cs.l.take 0) = [] from rfl, List.append_nil]; exact H)⟩ ?_
     clear H
     rintro i a ln k τ w ⟨⟨hi, hln⟩, H⟩
     repeat refine c_seq ?_
     refine c_region ?_; refine l_op (o_val r_mv ?_); refine l_op (o_val (r_fa rfl fo46_5) ?_); refine l_op (o_val (r_ld (v := t.cs.v) H (i := 0) rfl rfl ct44 rfl) ?_); refine l_op (o_val (r_lens el44 rfl) ?_); refine l_op (o_val (r_bin (a := (i : Int)) (b := (t.cs.len : Int)) rfl rfl (fun _ => b_lss)) ?_); first | refine l_end ?_ | refine l_nil ?_
     by_cases hc97 : (i : Int) < (t.cs.len : Int)
     ·
      repeat refine c_seq ?_
      refine c_yes (by exact congrArg Value.bool (decide_eq_true hc97)) ?_; refine c_skip ?_; repeat refine c_seq ?_
      refine c_block ?_; repeat refine c_seq ?_
      refine c_region ?_; refine l_op (o_val r_mv ?_); refine l_op (o_val (r_fa rfl fo46_5) ?_); refine l_op (o_val (r_ld (v := t.cs.v) H (i := 0) rfl rfl ct44 rfl) ?_); refine l_op (o_val r_mv ?_); have ah100 := ((hc.up H)).addr (by decide) (by first | omega | (dsimp only; omega))
      obtain ⟨ab98, ao99, ah100⟩ := ah100
      refine l_op (o_val (r_isN i rfl rfl el44 ah100 (by omega) (by (try simp only [Sl.cut]); omega)) ?_); have he102 : ∃ c, t.cs.l[i]? = some c := ⟨_, List.getElem?_eq_getElem (by have := ((hc.up H)).ln; (try dsimp only at this ⊢); omega)⟩
      obtain ⟨e101, he102⟩ := he102
      have hez103 := ((hc.up H)).sz e101 (List.mem_of_getElem? he102)
      refine l_op (o_val (r_ldRow (s := t.cs) (k := i) (hc.up H) ah100 rfl rt63 (by decide) he102) ?_); refine l_op (o_callR Tryz.func15 rfl rfl rfl (caveat14_ret _ e101 (hb.cs _ (List.mem_of_getElem? (by assumption)))) ?_); rintro _ w ⟨a104, c105, rfl, Hc⟩
      replace H : Hp _ w _ ([_, _, _, _, .own a104 9 c105 ((cavB e101).map V8) 5 1]) := H.call Hc
      clear Hc
      refine l_op (o_appB (s := ⟨hd a104, 9, c105, cavB e101⟩) (l' := [1] ++ t.head ++ [UInt8.ofNat t.cs.len] ++ cavsB (t.cs.l.take i) ++ (cavB e101)) (len' := ln + 9) rfl rfl H (i := 2) rfl sl24 Tryz.underlying24 rfl rfl (H.slOwn (i := 4) rfl) (by omega) (fun a106 c107 w H => ?_)); replace H : Hp _ w _ ([_, _, .own a106 (ln + 9) c107 (([1] ++ t.head ++ [UInt8.ofNat t.cs.len] ++ cavsB (t.cs.l.take i) ++ (cavB e101)).map V8) 5 1, _, _]) := H
      refine l_op (o_val r_as ?_); first | refine l_end ?_ | refine l_nil ?_
      repeat refine c_seq ?_
      refine c_region ?_; refine l_op (o_val r_mv ?_); refine l_op (o_val (r_bin (a := (i : Int)) (b := 1) rfl rfl (fun _ => b_add (by omega) (by omega))) ?_); refine l_op (o_val r_as ?_); first | refine l_end ?_ | refine l_nil ?_
      rw [List.append_assoc, cavsB_succ t.cs.l i e101 he102] at H
      refine round_end (i + 1, a106, ln + 9, c107) ?_ ?_ ?_
      · exact ⟨rfl, rfl, show VI ((i : Int) + 1) = VI ((i + 1 : Nat) : Int) from congrArg VI (by omega), trivial⟩
      · refine ⟨?_, ?_⟩
        · try dsimp only
          exact ⟨by omega, by omega⟩
        · exact H.sub (.cons_cons _ (.cons_cons _ (.cons_cons _ (.cons_cons _ (List.nil_sublist _)))))
      · show t.cs.len - (i + 1 : Nat) < t.cs.len - i; omega
     ·
      repeat refine c_seq ?_
      refine c_no (by exact congrArg Value.bool (decide_eq_false hc97)) ?_; refine c_exit ?_; repeat refine c_seq ?_
      refine c_region ?_; refine l_op (o_val r_mv ?_); refine l_op (o_val (r_fa rfl fo46_6) ?_); refine l_op (o_val (r_slAo (o := 6) (h := 32) (m := 32) (lv := none) (hv := none) (mv := none) rfl ar23 rfl rfl rfl (fun w => sbn w)) ?_); refine l_op (o_appB (s := (⟨some ⟨b1, 6, none⟩, 32, 32, t.tag⟩ : Sl)) (l' := [1] ++ t.head ++ [UInt8.ofNat t.cs.len] ++ cavsB (t.cs.l.take i) ++ t.tag) (len' := ln + 32) rfl rfl H (i := 2) rfl sl24 Tryz.underlying24 rfl rfl (H.slTail (i := 0) (o := 6) (pre := [V64 t.serial, .string ⟨(t.tenant).toArray⟩, V8 t.rights, VI t.from_, VI t.until_, t.cs.v]) rfl rfl (show (t.tag).length = 32 from htag) (by decide)) (by omega) (fun a108 c109 w H => ?_)); replace H : Hp _ w _ ([_, _, .own a108 (ln + 32) c109 (([1] ++ t.head ++ [UInt8.ofNat t.cs.len] ++ cavsB (t.cs.l.take i) ++ t.tag).map V8) 5 1, _]) := H
      refine l_op (o_val r_as ?_); refine l_op (o_val r_as ?_); first | refine l_end ?_ | refine l_nil ?_
      refine c_ret ?_; try dsimp only [Exit.then, Exit.inBlock]
      refine e_retN (vs := [.slice (hd a108) (ln + 32) c109, VI 0]) _ Tryz.results8 rfl (resT (v := .slice (hd a108) (ln + 32) c109) rfl (resT (v := VI 0) rfl (resZ))) ?_
      refine ⟨_, rfl, ?_⟩
      have hi2 : i = t.cs.len := by omega
      refine ⟨_, _, _, rfl, by omega, ?_⟩
      rw [List.take_of_length_le (by have := hc.ln; omega)] at H
      exact H.sub (.cons _ (.cons _ (.cons_cons _ (List.nil_sublist _))))
   ·
    refine (o_bslB ([UInt8.ofNat t.cs.len]) H sl24 zc5 rfl rfl (by decide) (fun b110 w H hb110 => ?_))
    replace H : Hp _ w _ ([_, _, .own (some b110) 1 1 (([UInt8.ofNat t.cs.len]).map V8) 5 1]) := H
    refine ⟨H.sub (.cons_cons _ (List.nil_sublist _)), ?_⟩
    replace HS := H.sub (.cons_cons _ (List.nil_sublist _))
    refine t_step 0 rfl (by kernel_rfl) (o_bslB ([(1 : UInt8)]) H sl24 zc5 rfl rfl (by decide) (fun b111 w H hb111 => ?_)); replace H : Hp _ w _ ([_, _, _, .own (some b111) 1 1 (([(1 : UInt8)]).map V8) 5 1]) := H
    refine ⟨H.sub (.cons_cons _ (List.nil_sublist _)), ?_⟩
    replace HS := H.sub (.cons_cons _ (List.nil_sublist _))
    refine t_step 3 rfl (by kernel_rfl) (o_appB (s := ⟨hd a68, n69, c70, t.head⟩) (l' := [(1 : UInt8)] ++ t.head) (len' := 1 + n69) rfl rfl H (i := 3) rfl sl24 Tryz.underlying24 rfl rfl (H.slOwn (i := 1) rfl) (by omega) (fun a112 c113 w H => ?_)); replace H : Hp _ w _ ([_, _, _, .own a112 (1 + n69) c113 (([(1 : UInt8)] ++ t.head).map V8) 5 1]) := H
    refine ⟨H.sub (.cons_cons _ (List.nil_sublist _)), ?_⟩
    replace HS := H.sub (.cons_cons _ (List.nil_sublist _))
    refine t_step 9 rfl (by kernel_rfl) (o_appB (s := ⟨hd (some b110), 1, 1, [UInt8.ofNat t.cs.len]⟩) (l' := [(1 : UInt8)] ++ t.head ++ ([UInt8.ofNat t.cs.len])) (len' := 1 + n69 + 1) rfl rfl H (i := 3) rfl sl24 Tryz.underlying24 rfl rfl (H.slOwn (i := 2) rfl) (by omega) (fun a114 c115 w H => ?_)); replace H : Hp _ w _ ([_, _, _, .own a114 (1 + n69 + 1) c115 (([(1 : UInt8)] ++ t.head ++ ([UInt8.ofNat t.cs.len])).map V8) 5 1]) := H
    refine ⟨H.sub (.cons_cons _ (List.nil_sublist _)), ?_⟩
    replace HS := H.sub (.cons_cons _ (List.nil_sublist _))
    refine t_take 10 rfl (by kernel_rfl) (by kernel_rfl) (by kernel_rfl) (fun _ _ _ h => h) (fun w HS => r_as) HS ?_; refine t_done (by kernel_rfl) ?_
    clear HS
    repeat refine c_seq ?_
    refine c_region ?_; refine l_op (o_val r_as ?_); first | refine l_end ?_ | refine l_nil ?_
    repeat refine c_seq ?_
    refine c_block ?_; repeat refine c_seq ?_
    refine c_loop4 (fun (i : Nat) (a : Option Nat) (ln : Nat) (k : Nat) => [(1, .pointer (some ⟨b1, 0, none⟩)), (4, .slice (hd a) ln k), (5, VI (i : Int))])
      (fun (i : Nat) (a : Option Nat) (ln : Nat) (k : Nat) w => (i ≤ t.cs.len ∧ ln ≤ t.tenant.length + 66 + 9 * i) ∧ Hp w0 w [] ([.blk b1 ([V64 t.serial, .string ⟨(t.tenant).toArray⟩, V8 t.rights, VI t.from_, VI t.until_, t.cs.v] ++ (t.tag).map V8) 46, .own a68 n69 c70 ((t.head).map V8) 5 1, .own (some b110) 1 1 (([UInt8.ofNat t.cs.len]).map V8) 5 1, .own a ln k (([1] ++ t.head ++ [UInt8.ofNat t.cs.len] ++ cavsB (t.cs.l.take i)).map V8) 5 1]))
      (fun (i : Nat) (a : Option Nat) (ln : Nat) (k : Nat) => t.cs.len - i) 0 a114 (1 + n69 + 1) c115 ⟨rfl, rfl, rfl, trivial⟩ ⟨⟨Nat.zero_le _, by omega⟩, (by rw [show cavsB (t.cs.l.take 0) = [] from rfl, List.append_nil]; exact H)⟩ ?_
    clear H
    rintro i a ln k τ w ⟨⟨hi, hln⟩, H⟩
    repeat refine c_seq ?_
    refine c_region ?_; refine l_op (o_val r_mv ?_); refine l_op (o_val (r_fa rfl fo46_5) ?_); refine l_op (o_val (r_ld (v := t.cs.v) H (i := 0) rfl rfl ct44 rfl) ?_); refine l_op (o_val (r_lens el44 rfl) ?_); refine l_op (o_val (r_bin (a := (i : Int)) (b := (t.cs.len : Int)) rfl rfl (fun _ => b_lss)) ?_); first | refine l_end ?_ | refine l_nil ?_
    by_cases hc116 : (i : Int) < (t.cs.len : Int)
    ·
     repeat refine c_seq ?_
     refine c_yes (by exact congrArg Value.bool (decide_eq_true hc116)) ?_; refine c_skip ?_; repeat refine c_seq ?_
     refine c_block ?_; repeat refine c_seq ?_
     refine c_region ?_; refine l_op (o_val r_mv ?_); refine l_op (o_val (r_fa rfl fo46_5) ?_); refine l_op (o_val (r_ld (v := t.cs.v) H (i := 0) rfl rfl ct44 rfl) ?_); refine l_op (o_val r_mv ?_); have ah119 := ((hc.up H)).addr (by decide) (by first | omega | (dsimp only; omega))
     obtain ⟨ab117, ao118, ah119⟩ := ah119
     refine l_op (o_val (r_isN i rfl rfl el44 ah119 (by omega) (by (try simp only [Sl.cut]); omega)) ?_); have he121 : ∃ c, t.cs.l[i]? = some c := ⟨_, List.getElem?_eq_getElem (by have := ((hc.up H)).ln; (try dsimp only at this ⊢); omega)⟩
     obtain ⟨e120, he121⟩ := he121
     have hez122 := ((hc.up H)).sz e120 (List.mem_of_getElem? he121)
     refine l_op (o_val (r_ldRow (s := t.cs) (k := i) (hc.up H) ah119 rfl rt63 (by decide) he121) ?_); refine l_op (o_callR Tryz.func15 rfl rfl rfl (caveat14_ret _ e120 (hb.cs _ (List.mem_of_getElem? (by assumption)))) ?_); rintro _ w ⟨a123, c124, rfl, Hc⟩
     replace H : Hp _ w _ ([_, _, _, _, .own a123 9 c124 ((cavB e120).map V8) 5 1]) := H.call Hc
     clear Hc
     refine l_op (o_appB (s := ⟨hd a123, 9, c124, cavB e120⟩) (l' := [1] ++ t.head ++ [UInt8.ofNat t.cs.len] ++ cavsB (t.cs.l.take i) ++ (cavB e120)) (len' := ln + 9) rfl rfl H (i := 3) rfl sl24 Tryz.underlying24 rfl rfl (H.slOwn (i := 4) rfl) (by omega) (fun a125 c126 w H => ?_)); replace H : Hp _ w _ ([_, _, _, .own a125 (ln + 9) c126 (([1] ++ t.head ++ [UInt8.ofNat t.cs.len] ++ cavsB (t.cs.l.take i) ++ (cavB e120)).map V8) 5 1, _]) := H
     refine l_op (o_val r_as ?_); first | refine l_end ?_ | refine l_nil ?_
     repeat refine c_seq ?_
     refine c_region ?_; refine l_op (o_val r_mv ?_); refine l_op (o_val (r_bin (a := (i : Int)) (b := 1) rfl rfl (fun _ => b_add (by omega) (by omega))) ?_); refine l_op (o_val r_as ?_); first | refine l_end ?_ | refine l_nil ?_
     rw [List.append_assoc, cavsB_succ t.cs.l i e120 he121] at H
     refine round_end (i + 1, a125, ln + 9, c126) ?_ ?_ ?_
     · exact ⟨rfl, rfl, show VI ((i : Int) + 1) = VI ((i + 1 : Nat) : Int) from congrArg VI (by omega), trivial⟩
     · refine ⟨?_, ?_⟩
       · try dsimp only
         exact ⟨by omega, by omega⟩
       · exact H.sub (.cons_cons _ (.cons_cons _ (.cons_cons _ (.cons_cons _ (List.nil_sublist _)))))
     · show t.cs.len - (i + 1 : Nat) < t.cs.len - i; omega
    ·
     repeat refine c_seq ?_
     refine c_no (by exact congrArg Value.bool (decide_eq_false hc116)) ?_; refine c_exit ?_; repeat refine c_seq ?_
     refine c_region ?_; refine l_op (o_val r_mv ?_); refine l_op (o_val (r_fa rfl fo46_6) ?_); refine l_op (o_val (r_slAo (o := 6) (h := 32) (m := 32) (lv := none) (hv := none) (mv := none) rfl ar23 rfl rfl rfl (fun w => sbn w)) ?_); refine l_op (o_appB (s := (⟨some ⟨b1, 6, none⟩, 32, 32, t.tag⟩ : Sl)) (l' := [1] ++ t.head ++ [UInt8.ofNat t.cs.len] ++ cavsB (t.cs.l.take i) ++ t.tag) (len' := ln + 32) rfl rfl H (i := 3) rfl sl24 Tryz.underlying24 rfl rfl (H.slTail (i := 0) (o := 6) (pre := [V64 t.serial, .string ⟨(t.tenant).toArray⟩, V8 t.rights, VI t.from_, VI t.until_, t.cs.v]) rfl rfl (show (t.tag).length = 32 from htag) (by decide)) (by omega) (fun a127 c128 w H => ?_)); replace H : Hp _ w _ ([_, _, _, .own a127 (ln + 32) c128 (([1] ++ t.head ++ [UInt8.ofNat t.cs.len] ++ cavsB (t.cs.l.take i) ++ t.tag).map V8) 5 1]) := H
     refine l_op (o_val r_as ?_); refine l_op (o_val r_as ?_); first | refine l_end ?_ | refine l_nil ?_
     refine c_ret ?_; try dsimp only [Exit.then, Exit.inBlock]
     refine e_retN (vs := [.slice (hd a127) (ln + 32) c128, VI 0]) _ Tryz.results8 rfl (resT (v := .slice (hd a127) (ln + 32) c128) rfl (resT (v := VI 0) rfl (resZ))) ?_
     refine ⟨_, rfl, ?_⟩
     have hi2 : i = t.cs.len := by omega
     refine ⟨_, _, _, rfl, by omega, ?_⟩
     rw [List.take_of_length_le (by have := hc.ln; omega)] at H
     exact H.sub (.cons _ (.cons _ (.cons _ (.cons_cons _ (List.nil_sublist _)))))
  ·
   refine (o_bslB ([UInt8.ofNat t.cs.len]) H sl24 zc5 rfl rfl (by decide) (fun b129 w H hb129 => ?_))
   replace H : Hp _ w _ ([_, .own (some b129) 1 1 (([UInt8.ofNat t.cs.len]).map V8) 5 1]) := H
   refine ⟨H.sub (.cons_cons _ (List.nil_sublist _)), ?_⟩
   replace HS := H.sub (.cons_cons _ (List.nil_sublist _))
   refine t_all [0, 2] (by kernel_rfl) (by simp) (all_cons (w_op 0 rfl ?_) (all_cons (w_op 2 rfl ?_) (all_nil)))
   ·
    refine (o_bslB ([(1 : UInt8)]) H sl24 zc5 rfl rfl (by decide) (fun b130 w H hb130 => ?_))
    replace H : Hp _ w _ ([_, _, .own (some b130) 1 1 (([(1 : UInt8)]).map V8) 5 1]) := H
    refine ⟨H.sub (.cons_cons _ (List.nil_sublist _)), ?_⟩
    replace HS := H.sub (.cons_cons _ (List.nil_sublist _))
    refine t_step 2 rfl (by kernel_rfl) (o_callR Tryz.func14 rfl rfl rfl (head14_ret _ t (hc.up H) (show (t.tag).length = 32 from htag) (by first | omega | (dsimp only; omega) | simp) hb) ?_); rintro _ w ⟨a131, n132, c133, rfl, hn134, hh135, Hc⟩
    replace H : Hp _ w _ ([_, _, _, .own a131 n132 c133 ((t.head).map V8) 5 1]) := H.call Hc
    clear Hc
    try dsimp only at hn134
    refine ⟨H.sub (.cons_cons _ (List.nil_sublist _)), ?_⟩
    replace HS := H.sub (.cons_cons _ (List.nil_sublist _))
    refine t_step 3 rfl (by kernel_rfl) (o_appB (s := ⟨hd a131, n132, c133, t.head⟩) (l' := [(1 : UInt8)] ++ t.head) (len' := 1 + n132) rfl rfl H (i := 2) rfl sl24 Tryz.underlying24 rfl rfl (H.slOwn (i := 3) rfl) (by omega) (fun a136 c137 w H => ?_)); replace H : Hp _ w _ ([_, _, .own a136 (1 + n132) c137 (([(1 : UInt8)] ++ t.head).map V8) 5 1, _]) := H
    refine ⟨H.sub (.cons_cons _ (List.nil_sublist _)), ?_⟩
    replace HS := H.sub (.cons_cons _ (List.nil_sublist _))
    refine t_step 9 rfl (by kernel_rfl) (o_appB (s := ⟨hd (some b129), 1, 1, [UInt8.ofNat t.cs.len]⟩) (l' := [(1 : UInt8)] ++ t.head ++ ([UInt8.ofNat t.cs.len])) (len' := 1 + n132 + 1) rfl rfl H (i := 2) rfl sl24 Tryz.underlying24 rfl rfl (H.slOwn (i := 1) rfl) (by omega) (fun a138 c139 w H => ?_)); replace H : Hp _ w _ ([_, _, .own a138 (1 + n132 + 1) c139 (([(1 : UInt8)] ++ t.head ++ ([UInt8.ofNat t.cs.len])).map V8) 5 1, _]) := H
    refine ⟨H.sub (.cons_cons _ (List.nil_sublist _)), ?_⟩
    replace HS := H.sub (.cons_cons _ (List.nil_sublist _))
    refine t_take 10 rfl (by kernel_rfl) (by kernel_rfl) (by kernel_rfl) (fun _ _ _ h => h) (fun w HS => r_as) HS ?_; refine t_done (by kernel_rfl) ?_
    clear HS
    repeat refine c_seq ?_
    refine c_region ?_; refine l_op (o_val r_as ?_); first | refine l_end ?_ | refine l_nil ?_
    repeat refine c_seq ?_
    refine c_block ?_; repeat refine c_seq ?_
    refine c_loop4 (fun (i : Nat) (a : Option Nat) (ln : Nat) (k : Nat) => [(1, .pointer (some ⟨b1, 0, none⟩)), (4, .slice (hd a) ln k), (5, VI (i : Int))])
      (fun (i : Nat) (a : Option Nat) (ln : Nat) (k : Nat) w => (i ≤ t.cs.len ∧ ln ≤ t.tenant.length + 66 + 9 * i) ∧ Hp w0 w [] ([.blk b1 ([V64 t.serial, .string ⟨(t.tenant).toArray⟩, V8 t.rights, VI t.from_, VI t.until_, t.cs.v] ++ (t.tag).map V8) 46, .own (some b129) 1 1 (([UInt8.ofNat t.cs.len]).map V8) 5 1, .own a ln k (([1] ++ t.head ++ [UInt8.ofNat t.cs.len] ++ cavsB (t.cs.l.take i)).map V8) 5 1, .own a131 n132 c133 ((t.head).map V8) 5 1]))
      (fun (i : Nat) (a : Option Nat) (ln : Nat) (k : Nat) => t.cs.len - i) 0 a138 (1 + n132 + 1) c139 ⟨rfl, rfl, rfl, trivial⟩ ⟨⟨Nat.zero_le _, by omega⟩, (by rw [show cavsB (t.cs.l.take 0) = [] from rfl, List.append_nil]; exact H)⟩ ?_
    clear H
    rintro i a ln k τ w ⟨⟨hi, hln⟩, H⟩
    repeat refine c_seq ?_
    refine c_region ?_; refine l_op (o_val r_mv ?_); refine l_op (o_val (r_fa rfl fo46_5) ?_); refine l_op (o_val (r_ld (v := t.cs.v) H (i := 0) rfl rfl ct44 rfl) ?_); refine l_op (o_val (r_lens el44 rfl) ?_); refine l_op (o_val (r_bin (a := (i : Int)) (b := (t.cs.len : Int)) rfl rfl (fun _ => b_lss)) ?_); first | refine l_end ?_ | refine l_nil ?_
    by_cases hc140 : (i : Int) < (t.cs.len : Int)
    ·
     repeat refine c_seq ?_
     refine c_yes (by exact congrArg Value.bool (decide_eq_true hc140)) ?_; refine c_skip ?_; repeat refine c_seq ?_
     refine c_block ?_; repeat refine c_seq ?_
     refine c_region ?_; refine l_op (o_val r_mv ?_); refine l_op (o_val (r_fa rfl fo46_5) ?_); refine l_op (o_val (r_ld (v := t.cs.v) H (i := 0) rfl rfl ct44 rfl) ?_); refine l_op (o_val r_mv ?_); have ah143 := ((hc.up H)).addr (by decide) (by first | omega | (dsimp only; omega))
     obtain ⟨ab141, ao142, ah143⟩ := ah143
     refine l_op (o_val (r_isN i rfl rfl el44 ah143 (by omega) (by (try simp only [Sl.cut]); omega)) ?_); have he145 : ∃ c, t.cs.l[i]? = some c := ⟨_, List.getElem?_eq_getElem (by have := ((hc.up H)).ln; (try dsimp only at this ⊢); omega)⟩
     obtain ⟨e144, he145⟩ := he145
     have hez146 := ((hc.up H)).sz e144 (List.mem_of_getElem? he145)
     refine l_op (o_val (r_ldRow (s := t.cs) (k := i) (hc.up H) ah143 rfl rt63 (by decide) he145) ?_); refine l_op (o_callR Tryz.func15 rfl rfl rfl (caveat14_ret _ e144 (hb.cs _ (List.mem_of_getElem? (by assumption)))) ?_); rintro _ w ⟨a147, c148, rfl, Hc⟩
     replace H : Hp _ w _ ([_, _, _, _, .own a147 9 c148 ((cavB e144).map V8) 5 1]) := H.call Hc
     clear Hc
     refine l_op (o_appB (s := ⟨hd a147, 9, c148, cavB e144⟩) (l' := [1] ++ t.head ++ [UInt8.ofNat t.cs.len] ++ cavsB (t.cs.l.take i) ++ (cavB e144)) (len' := ln + 9) rfl rfl H (i := 2) rfl sl24 Tryz.underlying24 rfl rfl (H.slOwn (i := 4) rfl) (by omega) (fun a149 c150 w H => ?_)); replace H : Hp _ w _ ([_, _, .own a149 (ln + 9) c150 (([1] ++ t.head ++ [UInt8.ofNat t.cs.len] ++ cavsB (t.cs.l.take i) ++ (cavB e144)).map V8) 5 1, _, _]) := H
     refine l_op (o_val r_as ?_); first | refine l_end ?_ | refine l_nil ?_
     repeat refine c_seq ?_
     refine c_region ?_; refine l_op (o_val r_mv ?_); refine l_op (o_val (r_bin (a := (i : Int)) (b := 1) rfl rfl (fun _ => b_add (by omega) (by omega))) ?_); refine l_op (o_val r_as ?_); first | refine l_end ?_ | refine l_nil ?_
     rw [List.append_assoc, cavsB_succ t.cs.l i e144 he145] at H
     refine round_end (i + 1, a149, ln + 9, c150) ?_ ?_ ?_
     · exact ⟨rfl, rfl, show VI ((i : Int) + 1) = VI ((i + 1 : Nat) : Int) from congrArg VI (by omega), trivial⟩
     · refine ⟨?_, ?_⟩
       · try dsimp only
         exact ⟨by omega, by omega⟩
       · exact H.sub (.cons_cons _ (.cons_cons _ (.cons_cons _ (.cons_cons _ (List.nil_sublist _)))))
     · show t.cs.len - (i + 1 : Nat) < t.cs.len - i; omega
    ·
     repeat refine c_seq ?_
     refine c_no (by exact congrArg Value.bool (decide_eq_false hc140)) ?_; refine c_exit ?_; repeat refine c_seq ?_
     refine c_region ?_; refine l_op (o_val r_mv ?_); refine l_op (o_val (r_fa rfl fo46_6) ?_); refine l_op (o_val (r_slAo (o := 6) (h := 32) (m := 32) (lv := none) (hv := none) (mv := none) rfl ar23 rfl rfl rfl (fun w => sbn w)) ?_); refine l_op (o_appB (s := (⟨some ⟨b1, 6, none⟩, 32, 32, t.tag⟩ : Sl)) (l' := [1] ++ t.head ++ [UInt8.ofNat t.cs.len] ++ cavsB (t.cs.l.take i) ++ t.tag) (len' := ln + 32) rfl rfl H (i := 2) rfl sl24 Tryz.underlying24 rfl rfl (H.slTail (i := 0) (o := 6) (pre := [V64 t.serial, .string ⟨(t.tenant).toArray⟩, V8 t.rights, VI t.from_, VI t.until_, t.cs.v]) rfl rfl (show (t.tag).length = 32 from htag) (by decide)) (by omega) (fun a151 c152 w H => ?_)); replace H : Hp _ w _ ([_, _, .own a151 (ln + 32) c152 (([1] ++ t.head ++ [UInt8.ofNat t.cs.len] ++ cavsB (t.cs.l.take i) ++ t.tag).map V8) 5 1, _]) := H
     refine l_op (o_val r_as ?_); refine l_op (o_val r_as ?_); first | refine l_end ?_ | refine l_nil ?_
     refine c_ret ?_; try dsimp only [Exit.then, Exit.inBlock]
     refine e_retN (vs := [.slice (hd a151) (ln + 32) c152, VI 0]) _ Tryz.results8 rfl (resT (v := .slice (hd a151) (ln + 32) c152) rfl (resT (v := VI 0) rfl (resZ))) ?_
     refine ⟨_, rfl, ?_⟩
     have hi2 : i = t.cs.len := by omega
     refine ⟨_, _, _, rfl, by omega, ?_⟩
     rw [List.take_of_length_le (by have := hc.ln; omega)] at H
     exact H.sub (.cons _ (.cons _ (.cons_cons _ (List.nil_sublist _))))
   ·
    refine (o_callR Tryz.func14 rfl rfl rfl (head14_ret _ t (hc.up H) (show (t.tag).length = 32 from htag) (by first | omega | (dsimp only; omega) | simp) hb) ?_)
    rintro _ w ⟨a153, n154, c155, rfl, hn156, hh157, Hc⟩
    replace H : Hp _ w _ ([_, _, .own a153 n154 c155 ((t.head).map V8) 5 1]) := H.call Hc
    clear Hc
    try dsimp only at hn156
    refine ⟨H.sub (.cons_cons _ (List.nil_sublist _)), ?_⟩
    replace HS := H.sub (.cons_cons _ (List.nil_sublist _))
    refine t_step 0 rfl (by kernel_rfl) (o_bslB ([(1 : UInt8)]) H sl24 zc5 rfl rfl (by decide) (fun b158 w H hb158 => ?_)); replace H : Hp _ w _ ([_, _, _, .own (some b158) 1 1 (([(1 : UInt8)]).map V8) 5 1]) := H
    refine ⟨H.sub (.cons_cons _ (List.nil_sublist _)), ?_⟩
    replace HS := H.sub (.cons_cons _ (List.nil_sublist _))
    refine t_step 3 rfl (by kernel_rfl) (o_appB (s := ⟨hd a153, n154, c155, t.head⟩) (l' := [(1 : UInt8)] ++ t.head) (len' := 1 + n154) rfl rfl H (i := 3) rfl sl24 Tryz.underlying24 rfl rfl (H.slOwn (i := 2) rfl) (by omega) (fun a159 c160 w H => ?_)); replace H : Hp _ w _ ([_, _, _, .own a159 (1 + n154) c160 (([(1 : UInt8)] ++ t.head).map V8) 5 1]) := H
    refine ⟨H.sub (.cons_cons _ (List.nil_sublist _)), ?_⟩
    replace HS := H.sub (.cons_cons _ (List.nil_sublist _))
    refine t_step 9 rfl (by kernel_rfl) (o_appB (s := ⟨hd (some b129), 1, 1, [UInt8.ofNat t.cs.len]⟩) (l' := [(1 : UInt8)] ++ t.head ++ ([UInt8.ofNat t.cs.len])) (len' := 1 + n154 + 1) rfl rfl H (i := 3) rfl sl24 Tryz.underlying24 rfl rfl (H.slOwn (i := 1) rfl) (by omega) (fun a161 c162 w H => ?_)); replace H : Hp _ w _ ([_, _, _, .own a161 (1 + n154 + 1) c162 (([(1 : UInt8)] ++ t.head ++ ([UInt8.ofNat t.cs.len])).map V8) 5 1]) := H
    refine ⟨H.sub (.cons_cons _ (List.nil_sublist _)), ?_⟩
    replace HS := H.sub (.cons_cons _ (List.nil_sublist _))
    refine t_take 10 rfl (by kernel_rfl) (by kernel_rfl) (by kernel_rfl) (fun _ _ _ h => h) (fun w HS => r_as) HS ?_; refine t_done (by kernel_rfl) ?_
    clear HS
    repeat refine c_seq ?_
    refine c_region ?_; refine l_op (o_val r_as ?_); first | refine l_end ?_ | refine l_nil ?_
    repeat refine c_seq ?_
    refine c_block ?_; repeat refine c_seq ?_
    refine c_loop4 (fun (i : Nat) (a : Option Nat) (ln : Nat) (k : Nat) => [(1, .pointer (some ⟨b1, 0, none⟩)), (4, .slice (hd a) ln k), (5, VI (i : Int))])
      (fun (i : Nat) (a : Option Nat) (ln : Nat) (k : Nat) w => (i ≤ t.cs.len ∧ ln ≤ t.tenant.length + 66 + 9 * i) ∧ Hp w0 w [] ([.blk b1 ([V64 t.serial, .string ⟨(t.tenant).toArray⟩, V8 t.rights, VI t.from_, VI t.until_, t.cs.v] ++ (t.tag).map V8) 46, .own (some b129) 1 1 (([UInt8.ofNat t.cs.len]).map V8) 5 1, .own a153 n154 c155 ((t.head).map V8) 5 1, .own a ln k (([1] ++ t.head ++ [UInt8.ofNat t.cs.len] ++ cavsB (t.cs.l.take i)).map V8) 5 1]))
      (fun (i : Nat) (a : Option Nat) (ln : Nat) (k : Nat) => t.cs.len - i) 0 a161 (1 + n154 + 1) c162 ⟨rfl, rfl, rfl, trivial⟩ ⟨⟨Nat.zero_le _, by omega⟩, (by rw [show cavsB (t.cs.l.take 0) = [] from rfl, List.append_nil]; exact H)⟩ ?_
    clear H
    rintro i a ln k τ w ⟨⟨hi, hln⟩, H⟩
    repeat refine c_seq ?_
    refine c_region ?_; refine l_op (o_val r_mv ?_); refine l_op (o_val (r_fa rfl fo46_5) ?_); refine l_op (o_val (r_ld (v := t.cs.v) H (i := 0) rfl rfl ct44 rfl) ?_); refine l_op (o_val (r_lens el44 rfl) ?_); refine l_op (o_val (r_bin (a := (i : Int)) (b := (t.cs.len : Int)) rfl rfl (fun _ => b_lss)) ?_); first | refine l_end ?_ | refine l_nil ?_
    by_cases hc163 : (i : Int) < (t.cs.len : Int)
    ·
     repeat refine c_seq ?_
     refine c_yes (by exact congrArg Value.bool (decide_eq_true hc163)) ?_; refine c_skip ?_; repeat refine c_seq ?_
     refine c_block ?_; repeat refine c_seq ?_
     refine c_region ?_; refine l_op (o_val r_mv ?_); refine l_op (o_val (r_fa rfl fo46_5) ?_); refine l_op (o_val (r_ld (v := t.cs.v) H (i := 0) rfl rfl ct44 rfl) ?_); refine l_op (o_val r_mv ?_); have ah166 := ((hc.up H)).addr (by decide) (by first | omega | (dsimp only; omega))
     obtain ⟨ab164, ao165, ah166⟩ := ah166
     refine l_op (o_val (r_isN i rfl rfl el44 ah166 (by omega) (by (try simp only [Sl.cut]); omega)) ?_); have he168 : ∃ c, t.cs.l[i]? = some c := ⟨_, List.getElem?_eq_getElem (by have := ((hc.up H)).ln; (try dsimp only at this ⊢); omega)⟩
     obtain ⟨e167, he168⟩ := he168
     have hez169 := ((hc.up H)).sz e167 (List.mem_of_getElem? he168)
     refine l_op (o_val (r_ldRow (s := t.cs) (k := i) (hc.up H) ah166 rfl rt63 (by decide) he168) ?_); refine l_op (o_callR Tryz.func15 rfl rfl rfl (caveat14_ret _ e167 (hb.cs _ (List.mem_of_getElem? (by assumption)))) ?_); rintro _ w ⟨a170, c171, rfl, Hc⟩
     replace H : Hp _ w _ ([_, _, _, _, .own a170 9 c171 ((cavB e167).map V8) 5 1]) := H.call Hc
     clear Hc
     refine l_op (o_appB (s := ⟨hd a170, 9, c171, cavB e167⟩) (l' := [1] ++ t.head ++ [UInt8.ofNat t.cs.len] ++ cavsB (t.cs.l.take i) ++ (cavB e167)) (len' := ln + 9) rfl rfl H (i := 3) rfl sl24 Tryz.underlying24 rfl rfl (H.slOwn (i := 4) rfl) (by omega) (fun a172 c173 w H => ?_)); replace H : Hp _ w _ ([_, _, _, .own a172 (ln + 9) c173 (([1] ++ t.head ++ [UInt8.ofNat t.cs.len] ++ cavsB (t.cs.l.take i) ++ (cavB e167)).map V8) 5 1, _]) := H
     refine l_op (o_val r_as ?_); first | refine l_end ?_ | refine l_nil ?_
     repeat refine c_seq ?_
     refine c_region ?_; refine l_op (o_val r_mv ?_); refine l_op (o_val (r_bin (a := (i : Int)) (b := 1) rfl rfl (fun _ => b_add (by omega) (by omega))) ?_); refine l_op (o_val r_as ?_); first | refine l_end ?_ | refine l_nil ?_
     rw [List.append_assoc, cavsB_succ t.cs.l i e167 he168] at H
     refine round_end (i + 1, a172, ln + 9, c173) ?_ ?_ ?_
     · exact ⟨rfl, rfl, show VI ((i : Int) + 1) = VI ((i + 1 : Nat) : Int) from congrArg VI (by omega), trivial⟩
     · refine ⟨?_, ?_⟩
       · try dsimp only
         exact ⟨by omega, by omega⟩
       · exact H.sub (.cons_cons _ (.cons_cons _ (.cons_cons _ (.cons_cons _ (List.nil_sublist _)))))
     · show t.cs.len - (i + 1 : Nat) < t.cs.len - i; omega
    ·
     repeat refine c_seq ?_
     refine c_no (by exact congrArg Value.bool (decide_eq_false hc163)) ?_; refine c_exit ?_; repeat refine c_seq ?_
     refine c_region ?_; refine l_op (o_val r_mv ?_); refine l_op (o_val (r_fa rfl fo46_6) ?_); refine l_op (o_val (r_slAo (o := 6) (h := 32) (m := 32) (lv := none) (hv := none) (mv := none) rfl ar23 rfl rfl rfl (fun w => sbn w)) ?_); refine l_op (o_appB (s := (⟨some ⟨b1, 6, none⟩, 32, 32, t.tag⟩ : Sl)) (l' := [1] ++ t.head ++ [UInt8.ofNat t.cs.len] ++ cavsB (t.cs.l.take i) ++ t.tag) (len' := ln + 32) rfl rfl H (i := 3) rfl sl24 Tryz.underlying24 rfl rfl (H.slTail (i := 0) (o := 6) (pre := [V64 t.serial, .string ⟨(t.tenant).toArray⟩, V8 t.rights, VI t.from_, VI t.until_, t.cs.v]) rfl rfl (show (t.tag).length = 32 from htag) (by decide)) (by omega) (fun a174 c175 w H => ?_)); replace H : Hp _ w _ ([_, _, _, .own a174 (ln + 32) c175 (([1] ++ t.head ++ [UInt8.ofNat t.cs.len] ++ cavsB (t.cs.l.take i) ++ t.tag).map V8) 5 1]) := H
     refine l_op (o_val r_as ?_); refine l_op (o_val r_as ?_); first | refine l_end ?_ | refine l_nil ?_
     refine c_ret ?_; try dsimp only [Exit.then, Exit.inBlock]
     refine e_retN (vs := [.slice (hd a174) (ln + 32) c175, VI 0]) _ Tryz.results8 rfl (resT (v := .slice (hd a174) (ln + 32) c175) rfl (resT (v := VI 0) rfl (resZ))) ?_
     refine ⟨_, rfl, ?_⟩
     have hi2 : i = t.cs.len := by omega
     refine ⟨_, _, _, rfl, by omega, ?_⟩
     rw [List.take_of_length_le (by have := hc.ln; omega)] at H
     exact H.sub (.cons _ (.cons _ (.cons _ (.cons_cons _ (List.nil_sublist _)))))
end Go.Proofs.YtiepekfcegdkoaaGreatDoor
