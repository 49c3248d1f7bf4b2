import Derived.Test.YtjmbbhnpfmblpaaSpoil
import Derived.Test.YtjmbbhnpfmblpaaCapB
import Derived.Test.YtjmbbhnpfmblpaaRef14c
/- layer 14: answers written over; what is light; a token has the bytes that the document gives it. -/
namespace Go.Proofs.Ytjmbbhnpfmblpaa
open Go
set_option maxRecDepth 100000
theorem spoil0b_ret (w0 : World) :
    Ret Try.prog 43 [.slice none 0 0] w0 fun v w' => v = .tuple #[] ∧ Hp w0 w' [] [] := by
  refine ret_mk Try.func43 rfl Try.ntmps43 (by simp) ?_
  have H := Hp.refl w0 []
  repeat refine c_seq ?_
  refine c_region ?_
  refine l_op (o_val (r_mv) ?_)
  refine l_op (o_val (r_mv) ?_)
  refine l_op (o_val (r_caps el29 rfl) ?_)
  refine l_op (o_val (r_slH (h := 0) (m := 0) (hv := some (VI 0)) rfl el29 rfl rfl rfl (fun w => by exact sbh 0 rfl (by omega) w)) ?_)
  refine l_op (o_val (r_as) ?_)
  first | refine l_end ?_ | refine l_nil ?_
  repeat refine c_seq ?_
  refine c_region ?_
  refine l_op (o_val (r_as) ?_)
  first | refine l_end ?_ | refine l_nil ?_
  repeat refine c_seq ?_
  refine c_block ?_
  repeat refine c_seq ?_
  refine c_loop (fun (i : Nat) => [(2, .slice none 0 0), (3, VI (i : Int))])
    (fun (i : Nat) w => (i = 0) ∧ Hp w0 w [] ([]))
    (fun (i : Nat) => 0) 0 ⟨rfl, rfl, trivial⟩ ⟨rfl, H⟩ ?_
  clear H
  rintro i τ w ⟨hi, H⟩
  repeat refine c_seq ?_
  refine c_region ?_
  refine l_op (o_val (r_mv) ?_)
  refine l_op (o_val (r_mv) ?_)
  refine l_op (o_val (r_lens el29 rfl) ?_)
  refine l_op (o_val (r_bin (a := (i : Int)) (b := 0) rfl rfl (fun _ => b_lssB false (decide_eq_false (by omega)))) ?_)
  first | refine l_end ?_ | refine l_nil ?_
  repeat refine c_seq ?_
  refine c_no rfl ?_
  refine c_exit ?_
  try simp only [Exit.then, Exit.inBlock, ↓reduceIte]
  refine e_norm ?_
  refine e_ret0 Try.results43 ?_
  refine ⟨_, rfl, ?_⟩
  exact ⟨rfl, H⟩
theorem spoilOwnb_ret {w0 w : World} {S : List Nat} {L : List Ch} {i : Nat} {a : Option Nat} {len cap : Nat} {l : List UInt8} (H : Hp w0 w S L) (hi : L[i]? = some (.own a len cap (l.map V8) 5 1)) :
    Ret Try.prog 43 [.slice (hd a) len cap] w fun v w' => v = .tuple #[] ∧ Hp w0 w' S (L.set i (.own a len cap ((List.replicate len (90 : UInt8)).map V8) 5 1)) := by
  have hok := H.has _ (List.mem_of_getElem? hi)
  cases a with
  | none =>
    obtain ⟨h1, h2, h3⟩ := id hok
    subst h1 h2
    refine (spoil0b_ret w).mono fun v w' ⟨hv, Hc⟩ => ⟨hv, ?_⟩
    have := H.call Hc
    rw [List.append_nil] at this
    exact this.conv hi rfl fun _ => ⟨rfl, rfl, rfl⟩
  | some b =>
    obtain ⟨h1, h2, h3, rest, hw, h5⟩ := id hok
    refine (spoilN_ret w b len cap (l.map V8 ++ rest) hw (by omega) h2 h3).mono fun v w' ⟨hv, Hc⟩ => ⟨hv, ?_⟩
    have hc' : Hp w w' [b] [.own (some b) len cap ((List.replicate len (90 : UInt8)).map V8) 5 1] := by
      refine Hc.conv (i := 0) rfl rfl fun hblk => ⟨by simp, h2, h3, List.replicate (cap - len) (V8 90), ?_, by simp; omega⟩
      simp only [Ch.ok] at hblk
      rw [hblk, List.map_replicate, List.replicate_append_replicate, show len + (cap - len) = cap by omega]
    have := H.callAt hi rfl rfl hc'
    rwa [List.append_nil] at this
theorem light14b_ret (w0 : World) (t : Tok) (hc : t.cs.ok cavE 2 w0) (htag : t.tag.length = 32) :
    Ret Try.prog 66 [.agg ([V64 t.serial, .string ⟨(t.tenant).toArray⟩, V8 t.rights, VI t.from_, VI t.until_, t.cs.v] ++ (t.tag).map V8).toArray] w0 fun v w' => v = .bool (decide (t.tenant.length ≤ 1024 ∧ t.cs.len ≤ 64)) ∧ Hp w0 w' [] [] := by
  refine ret_mk Try.func66 rfl Try.ntmps66 (by simp) ?_
  have H := Hp.refl w0 []
  repeat refine c_seq ?_
  refine c_region ?_
  refine l_op (o_box (v := .agg ([V64 t.serial, .string ⟨(t.tenant).toArray⟩, V8 t.rights, VI t.from_, VI t.until_, t.cs.v] ++ (t.tag).map V8).toArray) H rfl (fun b1 w H hb1 => ?_))
  replace H : Hp w0 w [] ([.blk b1 ([V64 t.serial, .string ⟨(t.tenant).toArray⟩, V8 t.rights, VI t.from_, VI t.until_, t.cs.v] ++ (t.tag).map V8) 76]) := H
  refine l_op (o_val (r_as) ?_)
  first | refine l_end ?_ | refine l_nil ?_
  repeat refine c_seq ?_
  refine c_region ?_
  refine l_op (o_val (r_fa rfl fo76_1) ?_)
  refine l_op (o_val (r_ld (v := .string ⟨(t.tenant).toArray⟩) H (i := 0) rfl rfl ct9 rfl) ?_)
  refine l_op (o_val (r_lenstr (s := ⟨(t.tenant).toArray⟩) Try.underlying9 rfl) ?_)
  refine l_op (o_val (r_bin (a := ((t.tenant).length : Int)) (b := 1024) rfl rfl (fun _ => b_leq)) ?_)
  refine l_op (o_val (r_mv) ?_)
  by_cases hc2 : ((t.tenant).length : Int) ≤ 1024
  · skip
    refine l_yes rfl rfl (by exact congrArg Value.bool (decide_eq_true hc2)) (o_val (r_fa rfl fo76_5) ?_)
    refine l_yes rfl rfl (by exact congrArg Value.bool (decide_eq_true hc2)) (o_val (r_ld (v := t.cs.v) H (i := 0) rfl rfl ct74 rfl) ?_)
    refine l_yes rfl rfl (by exact congrArg Value.bool (decide_eq_true hc2)) (o_val (r_lens el74 rfl) ?_)
    refine l_yes rfl rfl (by exact congrArg Value.bool (decide_eq_true hc2)) (o_val (r_bin (a := (t.cs.len : Int)) (b := 64) rfl rfl (fun _ => b_leq)) ?_)
    refine l_op (o_val (r_pick (b := true) (congrArg Value.bool (decide_eq_true hc2))) ?_)
    refine l_op (o_val (r_as) ?_)
    first | refine l_end ?_ | refine l_nil ?_
    refine c_ret ?_
    try dsimp only [Exit.then, Exit.inBlock]
    refine e_ret1 (v := .bool (decide ((t.cs.len : Int) ≤ 64))) Try.results66 rfl ?_
    refine ⟨_, rfl, ?_⟩
    refine ⟨?_, H.sub (List.nil_sublist _)⟩
    congr 1
    rw [decide_eq_decide]
    omega
  · skip
    refine l_no rfl rfl (by exact congrArg Value.bool (decide_eq_false hc2)) rfl ?_
    refine l_no rfl rfl (by exact congrArg Value.bool (decide_eq_false hc2)) rfl ?_
    refine l_no rfl rfl (by exact congrArg Value.bool (decide_eq_false hc2)) rfl ?_
    refine l_no rfl rfl (by exact congrArg Value.bool (decide_eq_false hc2)) rfl ?_
    refine l_op (o_val (r_pick (b := false) (congrArg Value.bool (decide_eq_false hc2))) ?_)
    refine l_op (o_val (r_as) ?_)
    first | refine l_end ?_ | refine l_nil ?_
    refine c_ret ?_
    try dsimp only [Exit.then, Exit.inBlock]
    refine e_ret1 (v := .bool false) Try.results66 rfl ?_
    refine ⟨_, rfl, ?_⟩
    refine ⟨?_, H.sub (List.nil_sublist _)⟩
    first | rw [decide_eq_true (by omega : t.tenant.length ≤ 1024 ∧ t.cs.len ≤ 64)] | rw [decide_eq_false (by omega : ¬ (t.tenant.length ≤ 1024 ∧ t.cs.len ≤ 64))]
theorem capBytes_ret (w0 : World) (t : Tok) (hc : t.cs.ok cavE 2 w0) (htag : t.tag.length = 32) (hb : t.bd) :
    Ret Try.prog 21 [.agg ([V64 t.serial, .string ⟨(t.tenant).toArray⟩, V8 t.rights, VI t.from_, VI t.until_, t.cs.v] ++ (t.tag).map V8).toArray] w0 fun v w' => v = .bool true ∧ Hp w0 w' [] [] := by
  refine ret_mk Try.func21 rfl Try.ntmps21 (by simp) ?_
  have H := Hp.refl w0 []
  have hcl := hc.ln
  repeat refine c_seq ?_
  refine c_region ?_
  refine l_op (o_box (v := .agg ([V64 t.serial, .string ⟨(t.tenant).toArray⟩, V8 t.rights, VI t.from_, VI t.until_, t.cs.v] ++ (t.tag).map V8).toArray) H rfl (fun b1 w H hb1 => ?_))
  replace H : Hp w0 w [] ([.blk b1 ([V64 t.serial, .string ⟨(t.tenant).toArray⟩, V8 t.rights, VI t.from_, VI t.until_, t.cs.v] ++ (t.tag).map V8) 76]) := H
  refine l_op (o_val (r_as) ?_)
  first | refine l_end ?_ | refine l_nil ?_
  repeat refine c_seq ?_
  refine c_region ?_
  refine l_op (o_callR Try.func65 rfl rfl rfl (begun14_ret _) ?_)
  rintro _ w ⟨rfl, Hc⟩
  replace H : Hp w0 w [] ([.blk b1 ([V64 t.serial, .string ⟨(t.tenant).toArray⟩, V8 t.rights, VI t.from_, VI t.until_, t.cs.v] ++ (t.tag).map V8) 76]) := H.call Hc
  clear Hc
  refine l_op (o_val (r_not rfl) ?_)
  first | refine l_end ?_ | refine l_nil ?_
  repeat refine c_seq ?_
  refine c_no rfl ?_
  refine c_skip ?_
  repeat refine c_seq ?_
  refine c_region ?_
  refine l_op (o_val (r_ldA (C := [V64 t.serial, .string ⟨(t.tenant).toArray⟩, V8 t.rights, VI t.from_, VI t.until_, t.cs.v] ++ (t.tag).map V8) H (i := 0) rfl rfl rt76 (by rw [List.length_append, List.length_map, (show (t.tag).length = 32 from htag)]; rfl)) ?_)
  refine l_op (o_callR Try.func66 rfl rfl rfl (light14b_ret _ t (hc.up H) (show (t.tag).length = 32 from htag)) ?_)
  rintro _ w ⟨rfl, Hc⟩
  replace H : Hp w0 w [] ([.blk b1 ([V64 t.serial, .string ⟨(t.tenant).toArray⟩, V8 t.rights, VI t.from_, VI t.until_, t.cs.v] ++ (t.tag).map V8) 76]) := H.call Hc
  clear Hc
  refine l_op (o_val (r_not rfl) ?_)
  first | refine l_end ?_ | refine l_nil ?_
  by_cases hc2 : t.tenant.length ≤ 1024 ∧ t.cs.len ≤ 64
  · skip
    repeat refine c_seq ?_
    refine c_no (by exact congrArg Value.bool (congrArg not (decide_eq_true hc2))) ?_
    refine c_skip ?_
    repeat refine c_seq ?_
    refine c_region ?_
    refine l_op (o_val (r_as) ?_)
    first | refine l_end ?_ | refine l_nil ?_
    repeat refine c_seq ?_
    refine c_block ?_
    repeat refine c_seq ?_
    refine c_loop (fun (i : Nat) => [(1, .pointer (some ⟨b1, 0, none⟩)), (3, VI (i : Int))])
      (fun (i : Nat) w => (i ≤ 2) ∧ Hp w0 w [] ([.blk b1 ([V64 t.serial, .string ⟨(t.tenant).toArray⟩, V8 t.rights, VI t.from_, VI t.until_, t.cs.v] ++ (t.tag).map V8) 76]))
      (fun (i : Nat) => 2 - i) 0 ⟨rfl, rfl, trivial⟩ ⟨by omega, H⟩ ?_
    clear H
    rintro i τ w ⟨hi, H⟩
    repeat refine c_seq ?_
    refine c_region ?_
    refine l_op (o_val (r_mv) ?_)
    refine l_op (o_val (r_bin (a := (i : Int)) (b := 2) rfl rfl (fun _ => b_lss)) ?_)
    first | refine l_end ?_ | refine l_nil ?_
    by_cases hc3 : (i : Int) < 2
    · skip
      repeat refine c_seq ?_
      refine c_yes (by exact congrArg Value.bool (decide_eq_true hc3)) ?_
      refine c_skip ?_
      repeat refine c_seq ?_
      refine c_block ?_
      repeat refine c_seq ?_
      refine c_region ?_
      refine l_op (o_val (r_ldA (C := [V64 t.serial, .string ⟨(t.tenant).toArray⟩, V8 t.rights, VI t.from_, VI t.until_, t.cs.v] ++ (t.tag).map V8) H (i := 0) rfl rfl rt76 (by rw [List.length_append, List.length_map, (show (t.tag).length = 32 from htag)]; rfl)) ?_)
      rcases Bool.eq_false_or_eq_true (mayT t) with hc4 | hc4
      · skip
        refine l_op (o_callR Try.func81 rfl rfl rfl (capbytes_ok _ t (hc.up H) (show (t.tag).length = 32 from htag) (by first | omega | (dsimp only; omega) | simp)  hc4) ?_)
        rintro _ w ⟨a5, n6, c7, rfl, hn8, Hc⟩
        replace H : Hp w0 w [] ([.blk b1 ([V64 t.serial, .string ⟨(t.tenant).toArray⟩, V8 t.rights, VI t.from_, VI t.until_, t.cs.v] ++ (t.tag).map V8) 76, .own a5 n6 c7 ((t.bytes).map V8) 5 1]) := H.call Hc
        clear Hc
        refine l_op (o_val (r_mv) ?_)
        refine l_op (o_val (r_ext rfl rfl) ?_)
        refine l_op (o_val (r_ext rfl rfl) ?_)
        refine l_op (o_val (r_as) ?_)
        refine l_op (o_val (r_as) ?_)
        first | refine l_end ?_ | refine l_nil ?_
        repeat refine c_seq ?_
        refine c_region ?_
        refine l_op (o_val (r_ldA (C := [V64 t.serial, .string ⟨(t.tenant).toArray⟩, V8 t.rights, VI t.from_, VI t.until_, t.cs.v] ++ (t.tag).map V8) H (i := 0) rfl rfl rt76 (by rw [List.length_append, List.length_map, (show (t.tag).length = 32 from htag)]; rfl)) ?_)
        refine l_op (o_callR Try.func82 rfl rfl rfl (bytes14_ok _ t (hc.up H) (show (t.tag).length = 32 from htag) (by first | omega | (dsimp only; omega) | simp) hb hc4) ?_)
        rintro _ w ⟨a9, n10, c11, rfl, hn12, Hc⟩
        replace H : Hp w0 w [] ([.blk b1 ([V64 t.serial, .string ⟨(t.tenant).toArray⟩, V8 t.rights, VI t.from_, VI t.until_, t.cs.v] ++ (t.tag).map V8) 76, .own a5 n6 c7 ((t.bytes).map V8) 5 1, .own a9 n10 c11 ((t.bytes).map V8) 5 1]) := H.call Hc
        clear Hc
        refine l_op (o_val (r_mv) ?_)
        refine l_op (o_val (r_ext rfl rfl) ?_)
        refine l_op (o_val (r_ext rfl rfl) ?_)
        refine l_op (o_val (r_as) ?_)
        refine l_op (o_val (r_as) ?_)
        first | refine l_end ?_ | refine l_nil ?_
        repeat refine c_seq ?_
        refine c_region ?_
        refine l_op (o_val (r_mv) ?_)
        refine l_op (o_val (r_mv) ?_)
        refine l_op (o_val (r_bin (a := 0) (b := 0) rfl rfl (fun _ => b_neqB false (decide_eq_false (by decide)))) ?_)
        refine l_op (o_val (r_mv) ?_)
        refine l_yes rfl rfl rfl (o_val (r_mv) ?_)
        refine l_yes rfl rfl rfl (o_val (r_b2S (s := ⟨hd a5, n6, c7, t.bytes⟩) Try.underlying29 Try.underlying5 Try.underlying9 rfl (H.slOwn (i := 1) rfl)) ?_)
        refine l_yes rfl rfl rfl (o_val (r_mv) ?_)
        refine l_yes rfl rfl rfl (o_val (r_b2S (s := ⟨hd a9, n10, c11, t.bytes⟩) Try.underlying29 Try.underlying5 Try.underlying9 rfl (H.slOwn (i := 2) rfl)) ?_)
        refine l_yes rfl rfl rfl (o_val (r_strne (a := t.bytes) (b := t.bytes) rfl rfl) ?_)
        refine l_op (o_val (r_pick rfl) ?_)
        first | refine l_end ?_ | refine l_nil ?_
        repeat refine c_seq ?_
        refine c_no (by exact congrArg Value.bool (congrArg not (decide_eq_true (rfl : t.bytes = t.bytes)))) ?_
        refine c_skip ?_
        repeat refine c_seq ?_
        refine c_region ?_
        refine l_op (o_val (r_mv) ?_)
        refine l_op (o_callR Try.func43 rfl rfl rfl (spoilOwnb_ret H (i := 1) rfl) ?_)
        rintro _ w ⟨rfl, Hc⟩
        clear H
        have H := Hc; clear Hc
        replace H : Hp w0 w [] ([.blk b1 ([V64 t.serial, .string ⟨(t.tenant).toArray⟩, V8 t.rights, VI t.from_, VI t.until_, t.cs.v] ++ (t.tag).map V8) 76, .own a5 n6 c7 ((List.replicate (n6) (90 : UInt8)).map V8) 5 1, .own a9 n10 c11 ((t.bytes).map V8) 5 1]) := H
        first | refine l_end ?_ | refine l_nil ?_
        repeat refine c_seq ?_
        refine c_region ?_
        refine l_op (o_val (r_mv) ?_)
        refine l_op (o_val (r_bin (a := (i : Int)) (b := 1) rfl rfl (fun _ => b_add (by omega) (by omega))) ?_)
        refine l_op (o_val (r_as) ?_)
        first | refine l_end ?_ | refine l_nil ?_
        refine round_end (i + 1) ?_ ?_ ?_
        · exact ⟨rfl, show VI ((i : Int) + 1) = VI ((i + 1 : Nat) : Int) from congrArg VI (by omega), trivial⟩
        · refine ⟨?_, ?_⟩
          · try dsimp only
            exact by omega
          · exact H.sub (.cons_cons _ (List.nil_sublist _))
        · show 2 - (i + 1 : Nat) < 2 - i; omega
      · skip
        refine l_op (o_callR Try.func81 rfl rfl rfl (capbytes_no _ t (hc.up H) (show (t.tag).length = 32 from htag) (by first | omega | (dsimp only; omega) | simp) hc4) ?_)
        rintro _ w ⟨rfl, Hc⟩
        replace H : Hp w0 w [] ([.blk b1 ([V64 t.serial, .string ⟨(t.tenant).toArray⟩, V8 t.rights, VI t.from_, VI t.until_, t.cs.v] ++ (t.tag).map V8) 76]) := H.call Hc
        clear Hc
        refine l_op (o_val (r_mv) ?_)
        refine l_op (o_val (r_ext rfl rfl) ?_)
        refine l_op (o_val (r_ext rfl rfl) ?_)
        refine l_op (o_val (r_as) ?_)
        refine l_op (o_val (r_as) ?_)
        first | refine l_end ?_ | refine l_nil ?_
        repeat refine c_seq ?_
        refine c_region ?_
        refine l_op (o_val (r_ldA (C := [V64 t.serial, .string ⟨(t.tenant).toArray⟩, V8 t.rights, VI t.from_, VI t.until_, t.cs.v] ++ (t.tag).map V8) H (i := 0) rfl rfl rt76 (by rw [List.length_append, List.length_map, (show (t.tag).length = 32 from htag)]; rfl)) ?_)
        refine l_op (o_callR Try.func82 rfl rfl rfl (bytes14_no _ t (hc.up H) (show (t.tag).length = 32 from htag) (by first | omega | (dsimp only; omega) | simp) hc4) ?_)
        rintro _ w ⟨rfl, Hc⟩
        replace H : Hp w0 w [] ([.blk b1 ([V64 t.serial, .string ⟨(t.tenant).toArray⟩, V8 t.rights, VI t.from_, VI t.until_, t.cs.v] ++ (t.tag).map V8) 76]) := H.call Hc
        clear Hc
        refine l_op (o_val (r_mv) ?_)
        refine l_op (o_val (r_ext rfl rfl) ?_)
        refine l_op (o_val (r_ext rfl rfl) ?_)
        refine l_op (o_val (r_as) ?_)
        refine l_op (o_val (r_as) ?_)
        first | refine l_end ?_ | refine l_nil ?_
        repeat refine c_seq ?_
        refine c_region ?_
        refine l_op (o_val (r_mv) ?_)
        refine l_op (o_val (r_mv) ?_)
        refine l_op (o_val (r_bin (a := 1) (b := 1) rfl rfl (fun _ => b_neqB false (decide_eq_false (by decide)))) ?_)
        refine l_op (o_val (r_mv) ?_)
        refine l_yes rfl rfl rfl (o_val (r_mv) ?_)
        refine l_yes rfl rfl rfl (o_val (r_b2S (s := ⟨none, 0, 0, []⟩) Try.underlying29 Try.underlying5 Try.underlying9 rfl (Sl.ok_nil _)) ?_)
        refine l_yes rfl rfl rfl (o_val (r_mv) ?_)
        refine l_yes rfl rfl rfl (o_val (r_b2S (s := ⟨none, 0, 0, []⟩) Try.underlying29 Try.underlying5 Try.underlying9 rfl (Sl.ok_nil _)) ?_)
        refine l_yes rfl rfl rfl (o_val (r_strne (a := ([] : List UInt8)) (b := ([] : List UInt8)) rfl rfl) ?_)
        refine l_op (o_val (r_pick rfl) ?_)
        first | refine l_end ?_ | refine l_nil ?_
        repeat refine c_seq ?_
        refine c_no (by exact congrArg Value.bool (congrArg not (decide_eq_true (rfl : ([] : List UInt8) = ([] : List UInt8))))) ?_
        refine c_skip ?_
        repeat refine c_seq ?_
        refine c_region ?_
        refine l_op (o_val (r_mv) ?_)
        refine l_op (o_callR Try.func43 rfl rfl rfl (spoil0b_ret _) ?_)
        rintro _ w ⟨rfl, Hc⟩
        replace H : Hp w0 w [] ([.blk b1 ([V64 t.serial, .string ⟨(t.tenant).toArray⟩, V8 t.rights, VI t.from_, VI t.until_, t.cs.v] ++ (t.tag).map V8) 76]) := H.call Hc
        clear Hc
        first | refine l_end ?_ | refine l_nil ?_
        repeat refine c_seq ?_
        refine c_region ?_
        refine l_op (o_val (r_mv) ?_)
        refine l_op (o_val (r_bin (a := (i : Int)) (b := 1) rfl rfl (fun _ => b_add (by omega) (by omega))) ?_)
        refine l_op (o_val (r_as) ?_)
        first | refine l_end ?_ | refine l_nil ?_
        refine round_end (i + 1) ?_ ?_ ?_
        · exact ⟨rfl, show VI ((i : Int) + 1) = VI ((i + 1 : Nat) : Int) from congrArg VI (by omega), trivial⟩
        · refine ⟨?_, ?_⟩
          · try dsimp only
            exact by omega
          · exact H
        · show 2 - (i + 1 : Nat) < 2 - i; omega
    · skip
      repeat refine c_seq ?_
      refine c_no (by exact congrArg Value.bool (decide_eq_false hc3)) ?_
      refine c_exit ?_
      repeat refine c_seq ?_
      refine c_region ?_
      refine l_op (o_val (r_as) ?_)
      first | refine l_end ?_ | refine l_nil ?_
      refine c_ret ?_
      try dsimp only [Exit.then, Exit.inBlock]
      refine e_ret1 (v := .bool true) Try.results21 rfl ?_
      refine ⟨_, rfl, ?_⟩
      exact ⟨rfl, H.sub (List.nil_sublist _)⟩
  · skip
    repeat refine c_seq ?_
    refine c_yes (by exact congrArg Value.bool (congrArg not (decide_eq_false hc2))) ?_
    repeat refine c_seq ?_
    refine c_region ?_
    refine l_op (o_val (r_as) ?_)
    first | refine l_end ?_ | refine l_nil ?_
    refine c_ret ?_
    try dsimp only [Exit.then, Exit.inBlock]
    refine e_ret1 (v := .bool true) Try.results21 rfl ?_
    refine ⟨_, rfl, ?_⟩
    exact ⟨rfl, H.sub (List.nil_sublist _)⟩
end Go.Proofs.Ytjmbbhnpfmblpaa
