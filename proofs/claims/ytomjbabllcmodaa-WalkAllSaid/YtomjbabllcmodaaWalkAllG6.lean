/- Lemmas for the statement WalkAll, part 6: rules of operations, walks through functions, plain laws. -/
import Derived.Test.YtomjbabllcmodaaWalkAllG5
namespace Go.Proofs.Ytomjbabllcmodaa
open Go
set_option maxRecDepth 100000
def EnterAt (l : List Ob) (dp : Nat) : Prop := ∀ (w0 : World) (wb : Nat) (z : WY) (_hO : Own w0 (wch wb z 0)) (_hz : z.ok l) (_ho : ∀ o ∈ l, o.data.ok w0 ∧ o.data.len ≤ 1048576) (_hap : ∀ o ∈ l, o.data.l ≠ [] → Apart o.data.a (keys (wch wb z 0))) (s : WS) (_hr : Rel z 0 s) (k : Id32) (sz : Int) (tp p : List UInt8) (_hpp : p = if 1 < dp then tp ++ [47] else []) (_hpl : p.length ≤ 100 * dp), Ret Try.prog 31 [.pointer (some ⟨wb, 0, none⟩), .agg (k.1.map V8).toArray, .string ⟨(p).toArray⟩, VI (dp : Int)] w0 fun v w' => ∃ z' e', (e' = 0 → z'.ok l) ∧ z'.tl = z.tl ∧ Rel z' e' (wlkAll (obL l) [⟨2, k, sz, dp, tp⟩] s) ∧ Hp w0 w' (keys (wch wb z 0)) (wch wb z' e')
theorem ho_up {l : List Ob} {w0 w : World} {S : List Nat} {L : List Ch} (ho : ∀ o ∈ l, o.data.ok w0 ∧ o.data.len ≤ 1048576) (hap : ∀ o ∈ l, o.data.l ≠ [] → Apart o.data.a S) (H : Hp w0 w S L) : ∀ o ∈ l, o.data.ok w ∧ o.data.len ≤ 1048576 := fun o h => ⟨(ho o h).1.up H (hap o h), (ho o h).2⟩
theorem ap_turn {l : List Ob} {w0 w : World} {S : List Nat} {L L1 Lr T : List Ch} (hap : ∀ o ∈ l, o.data.l ≠ [] → Apart o.data.a S) (ho : ∀ o ∈ l, o.data.ok w0 ∧ o.data.len ≤ 1048576) (H : Hp w0 w S (L ++ T)) (hp : L.Perm (L1 ++ Lr)) : ∀ o ∈ l, o.data.l ≠ [] → Apart o.data.a (keys (L1 ++ T)) := fun o hm hn x hx hb => by
  obtain ⟨c, hc, hk⟩ := mem_keys.1 hb
  have hm2 : c ∈ L ++ T := by
    rcases List.mem_append.1 hc with h | h
    · exact List.mem_append_left _ (hp.mem_iff.2 (List.mem_append_left _ h))
    · exact List.mem_append_right _ h
  rcases H.fresh c hm2 _ hk with h | h
  · exact hap o hm hn x hx h
  · have := (ho o hm).1.apartK (S := [x.block]) (fun b hb2 => by rw [List.mem_singleton.1 hb2]; exact h) hn x hx
    exact this (List.mem_singleton.2 rfl)
theorem kid_path {k : Id32} {sz : Int} {dp : Nat} {tp p : List UInt8} {x : It} (hpp : p = if 1 < dp then tp ++ [47] else []) (h1 : 1 ≤ dp) : p ++ x.name ++ [47] = if 1 < dp + 1 then (wkid ⟨2, k, sz, dp, tp⟩ x).path ++ [47] else [] := by
  rw [if_pos (by omega), hpp]
  show _ = (if 1 < dp then tp ++ (47 :: x.name) else x.name) ++ [47]
  by_cases h : 1 < dp
  · rw [if_pos h, if_pos h]; simp
  · rw [if_neg h, if_neg h]; simp
theorem path_take {dp : Nat} {tp p : List UInt8} (hpp : p = if 1 < dp then tp ++ [47] else []) (h1 : 1 < dp) : p.take ((p.length : Int) - 1).toNat = tp := by
  rw [if_pos h1] at hpp
  subst hpp
  rw [List.length_append, List.length_singleton, show (((tp.length + 1 : Nat) : Int) - 1).toNat = tp.length by omega, List.take_left]
theorem path_pos {dp : Nat} {tp p : List UInt8} (hpp : p = if 1 < dp then tp ++ [47] else []) (h1 : 1 < dp) : 1 ≤ p.length := by
  rw [if_pos h1] at hpp
  subst hpp
  rw [List.length_append, List.length_singleton]; omega
theorem kid_file {k : Id32} {sz : Int} {dp : Nat} {tp p : List UInt8} {x : It} (hpp : p = if 1 < dp then tp ++ [47] else []) (hk : x.kind = 1) : wkid ⟨2, k, sz, dp, tp⟩ x = ⟨1, x.of, x.size, dp + 1, p ++ x.name⟩ := by
  rw [wkid, hpp, hk]
  by_cases h : 1 < dp
  · rw [if_pos h, if_pos h]; simp
  · rw [if_neg h, if_neg h]; simp
theorem kid_dir {k : Id32} {sz : Int} {dp : Nat} {tp : List UInt8} {x : It} (hk : x.kind = 2) : wkid ⟨2, k, sz, dp, tp⟩ x = ⟨2, x.of, x.size, dp + 1, (wkid ⟨2, k, sz, dp, tp⟩ x).path⟩ := by
  rw [wkid, hk]
theorem it_facts {d : List UInt8} {its : List It} (h : takeF d = some its) : ∀ x ∈ its, x.name.length ≤ 64 ∧ (x.kind = 1 ∨ x.kind = 2) := fun x hx => by
  have := (takeF_of h).1.ok x hx
  exact ⟨this.1.2.2.1, this.2.1.imp id And.left⟩
variable {L : List (Id32 × List UInt8)}
theorem kids_next {its : List It} {f : It → Todo} {i : Nat} {x : It} {s0 : WS} (hx : its[i]? = some x) (he : s0.err = 0) (hm : s0.met ≤ 1024) (h1 : (wlkAll L ((its.take i).map f) s0).err = 0) : wlkAll L ((its.take (i + 1)).map f) s0 = wlkAll L [f x] (wlkAll L ((its.take i).map f) s0) := by
  rw [take_snocG hx, List.map_append]
  exact wlkAll_snoc he hm rfl h1
theorem kids_stop {its : List It} {f : It → Todo} {i : Nat} {x : It} {s0 : WS} (hx : its[i]? = some x) (he : s0.err = 0) (hm : s0.met ≤ 1024) (h1 : (wlkAll L ((its.take i).map f) s0).err = 0) (h2 : ¬ (wlkAll L [f x] (wlkAll L ((its.take i).map f) s0)).err = 0) : wlkAll L (its.map f) s0 = wlkAll L [f x] (wlkAll L ((its.take i).map f) s0) := by
  have e := kids_next hx he hm h1
  have e2 : its.map f = (its.take (i + 1)).map f ++ (its.drop (i + 1)).map f := by rw [← List.map_append, List.take_append_drop]
  rw [e2, wlkAll_stop he hm rfl (by rw [e]; exact h2), e]
theorem wlkAll_open {t : Todo} {s : WS} (h : (wlkStep L s t).1.err = 0) : wlkAll L [t] s = wlkAll L (wlkStep L s t).2 (wlkStep L s t).1 := by rw [wlkAll_good h, List.append_nil]
theorem wdir_step {w0 w : World} {S : List Nat} {p : List UInt8} {b o m f i : Ch} {fs : List Fl} (H : Hp w0 w S (i :: b :: o :: m :: f :: fs.map fch)) : Hp w0 w S (i :: b :: o :: m :: f :: (fs ++ [(⟨p, true, ⟨none, 0, 0, []⟩⟩ : Fl)]).map fch) := by
  rw [List.map_append]; exact H.nilEnd 5 1
set_option maxHeartbeats 2000000 in
theorem wenter_at (l : List Ob) (dp : Nat) (h1 : 1 ≤ dp) (h9 : dp ≤ 9) (hi : dp ≤ 8 → EnterAt l (dp + 1)) (w0 : World) (wb : Nat) (z : WY) (hO : Own w0 (wch wb z 0)) (hz : z.ok l) (ho : ∀ o ∈ l, o.data.ok w0 ∧ o.data.len ≤ 1048576) (hap : ∀ o ∈ l, o.data.l ≠ [] → Apart o.data.a (keys (wch wb z 0))) (s : WS) (hr : Rel z 0 s) (k : Id32) (sz : Int) (tp p : List UInt8) (hpp : p = if 1 < dp then tp ++ [47] else []) (hpl : p.length ≤ 100 * dp) :
    Ret Try.prog 31 [.pointer (some ⟨wb, 0, none⟩), .agg ((k.1).map V8).toArray, .string ⟨(p).toArray⟩, VI (dp : Int)] w0 fun v w' => ∃ z' e', (e' = 0 → z'.ok l) ∧ z'.tl = z.tl ∧ Rel z' e' (wlkAll (obL l) [⟨2, k, sz, dp, tp⟩] s) ∧ Hp w0 w' (keys (wch wb z 0)) (wch wb z' e') := by
  refine ret_mk Try.func31 rfl Try.ntmps31 (by simp) ?_
  have H : Hp w0 w0 (keys (wch wb z 0)) (Ch.blk wb ([.map (some z.mo), .map (some z.mm), VI (z.n : Int), .bool z.tl, .slice (hd z.fa) z.fs.length z.fc, VI 0]) 70 :: Ch.obj z.mo (mobj kA z.Mo z.co) :: Ch.obj z.mm (mobj kA z.Mm z.cm) :: Ch.own z.fa z.fs.length z.fc ((z.fs).flatMap flE) 48 3 :: z.T) := hO.start
  have hnn := hz.nn
  have hfl := hz.fl
  have hs0 : s.err = 0 := hr.1.symm
  obtain ⟨hrn, hrg, hrf⟩ := hr.2 hs0
  have hobd := fun {w : World} {L : List Ch} (H : Hp w0 w (keys (wch wb z 0)) L) k => (look_ok ho hap H k).1
  have hobl := fun k => look_le ho k
  have hob := hobl k
  repeat refine c_seq ?_
  refine c_region ?_; refine l_op (o_box (v := .agg ((k.1).map V8).toArray) H rfl (fun b1 w H hb1 => ?_)); replace H := H.rot
  replace H : Hp _ w _ (Ch.blk b1 ((k.1).map V8) 29 :: Ch.blk wb ([.map (some z.mo), .map (some z.mm), VI (z.n : Int), .bool z.tl, .slice (hd z.fa) z.fs.length z.fc, VI 0]) 70 :: Ch.obj z.mo (mobj kA z.Mo z.co) :: Ch.obj z.mm (mobj kA z.Mm z.cm) :: Ch.own z.fa z.fs.length z.fc ((z.fs).flatMap flE) 48 3 :: z.T) := H
  first | refine l_end ?_ | refine l_nil ?_
  repeat refine c_seq ?_
  refine c_region ?_; refine l_op (o_val r_mv ?_); refine l_op (o_val (r_bin (a := (dp : Int)) (b := 8) rfl rfl (fun _ => b_gtr)) ?_); refine l_op (o_val r_mv ?_)
  by_cases hc2 : 8 < (dp : Int)
  ·
   refine l_yes rfl rfl (by exact congrArg Value.bool (decide_eq_true hc2)) (o_val r_mv ?_); refine l_yes rfl rfl (by exact congrArg Value.bool (decide_eq_true hc2)) (o_callR Try.func46 rfl rfl rfl (wbad_ret _ _ z.fs.length z.fc z.n (hd z.fa) (some z.mo) (some z.mm) z.tl (H.has _ (List.mem_of_getElem? (i := 1) rfl)) 2) ?_); rintro _ w ⟨rfl, Hc⟩
   replace H := (H.callA (i := 1) rfl rfl rfl Hc)
   clear Hc
   replace H : Hp _ w _ (Ch.blk b1 ((k.1).map V8) 29 :: Ch.blk wb ([.map (some z.mo), .map (some z.mm), VI (z.n : Int), .bool z.tl, .slice (hd z.fa) z.fs.length z.fc, VI 2]) 70 :: Ch.obj z.mo (mobj kA z.Mo z.co) :: Ch.obj z.mm (mobj kA z.Mm z.cm) :: Ch.own z.fa z.fs.length z.fc ((z.fs).flatMap flE) 48 3 :: z.T) := H
   refine l_op (o_val (r_pick (b := true) (congrArg Value.bool (decide_eq_true hc2))) ?_); first | refine l_end ?_ | refine l_nil ?_
   repeat refine c_seq ?_
   refine c_yes rfl ?_; refine c_ret ?_; try dsimp only [Exit.then, Exit.inBlock]
   refine e_ret0 Try.results31 ?_
   refine ⟨_, rfl, ?_⟩
   have hst := step_long (L := obL l) (t := (⟨2, k, sz, dp, tp⟩ : Todo)) (s := s) (.inl ⟨rfl, show 8 < dp by omega⟩)
   have hw : wlkAll (obL l) [(⟨2, k, sz, dp, tp⟩ : Todo)] s = { s with err := 2 } := by rw [wlkAll_one (by rw [hst]), hst]
   rw [hw]
   exact ⟨(⟨z.mo, z.Mo, z.co, z.mm, z.Mm, z.cm, z.G, z.n, z.tl, z.fa, z.fc, z.fs⟩ : WY), 2, fun h => absurd h (by decide), rfl, ⟨rfl, fun h => absurd (show (2 : Int) = 0 from h) (by decide)⟩, H.sub (.cons _ (.cons_cons _ (.cons_cons _ (.cons_cons _ (.cons_cons _ (List.Sublist.refl _))))))⟩
  ·
   refine l_no rfl rfl (by exact congrArg Value.bool (decide_eq_false hc2)) rfl ?_; refine l_no rfl rfl (by exact congrArg Value.bool (decide_eq_false hc2)) rfl ?_; refine l_op (o_val (r_pick (b := false) (congrArg Value.bool (decide_eq_false hc2))) ?_); first | refine l_end ?_ | refine l_nil ?_
   repeat refine c_seq ?_
   refine c_no rfl ?_; refine c_skip ?_; repeat refine c_seq ?_
   refine c_region ?_; refine l_op (o_val r_mv ?_); refine l_op (o_val (r_ldAA (l := k.1) H (i := 0) rfl rfl rt29 (show (k.1).length = 32 from k.2)) ?_)
   by_cases hc3 : 1024 ≤ z.n
   ·
    refine l_op (o_callR Try.func47 rfl rfl rfl (wobj_long _ l wb z.mo z.co z.mm z.cm z.n z.fs.length z.fc z.Mo z.Mm z.G (hd z.fa) z.tl hz.hO hz.hOk hz.hM hz.hMk (by omega) k (by omega) (H.ownU (L := [.blk b1 ((k.1).map V8) 29, .blk wb ([.map (some z.mo), .map (some z.mm), VI (z.n : Int), .bool z.tl, .slice (hd z.fa) z.fs.length z.fc, VI 0]) 70, .obj z.mo (mobj kA z.Mo z.co), .obj z.mm (mobj kA z.Mm z.cm), .own z.fa z.fs.length z.fc ((z.fs).flatMap flE) 48 3]) (L1 := [.blk wb ([.map (some z.mo), .map (some z.mm), VI (z.n : Int), .bool z.tl, .slice (hd z.fa) z.fs.length z.fc, VI 0]) 70, .obj z.mo (mobj kA z.Mo z.co), .obj z.mm (mobj kA z.Mm z.cm)]) (Lr := ([.blk b1 ((k.1).map V8) 29, .own z.fa z.fs.length z.fc ((z.fs).flatMap flE) 48 3] : List Ch)) (T := z.T) ((perm_front (j := 1) rfl).trans (.cons _ ((perm_front (j := 1) rfl).trans (.cons _ ((perm_front (j := 1) rfl).trans (.cons _ (.refl _))))))))) ?_); rintro _ w ⟨rfl, Hc⟩
    replace H := H.callU (L1' := [.blk wb ([.map (some z.mo), .map (some z.mm), VI ((z.n + 1 : Nat) : Int), .bool z.tl, .slice (hd z.fa) z.fs.length z.fc, VI 2]) 70, .obj z.mo (mobj kA z.Mo z.co), .obj z.mm (mobj kA z.Mm z.cm)]) (L := [.blk b1 ((k.1).map V8) 29, .blk wb ([.map (some z.mo), .map (some z.mm), VI (z.n : Int), .bool z.tl, .slice (hd z.fa) z.fs.length z.fc, VI 0]) 70, .obj z.mo (mobj kA z.Mo z.co), .obj z.mm (mobj kA z.Mm z.cm), .own z.fa z.fs.length z.fc ((z.fs).flatMap flE) 48 3]) (L1 := [.blk wb ([.map (some z.mo), .map (some z.mm), VI (z.n : Int), .bool z.tl, .slice (hd z.fa) z.fs.length z.fc, VI 0]) 70, .obj z.mo (mobj kA z.Mo z.co), .obj z.mm (mobj kA z.Mm z.cm)]) (Lr := ([.blk b1 ((k.1).map V8) 29, .own z.fa z.fs.length z.fc ((z.fs).flatMap flE) 48 3] : List Ch)) (T := z.T) ((perm_front (j := 1) rfl).trans (.cons _ ((perm_front (j := 1) rfl).trans (.cons _ ((perm_front (j := 1) rfl).trans (.cons _ (.refl _))))))) Hc ((perm_front (j := 0) rfl).trans (.cons _ ((perm_front (j := 1) rfl).trans (.cons _ ((perm_front (j := 1) rfl).trans (.cons _ ((perm_front (j := 1) rfl).trans (.cons _ (.refl _)))))))))
    clear Hc
    replace H : Hp _ w _ (Ch.blk b1 ((k.1).map V8) 29 :: Ch.blk wb ([.map (some z.mo), .map (some z.mm), VI ((z.n + 1 : Nat) : Int), .bool z.tl, .slice (hd z.fa) z.fs.length z.fc, VI 2]) 70 :: Ch.obj z.mo (mobj kA z.Mo z.co) :: Ch.obj z.mm (mobj kA z.Mm z.cm) :: Ch.own z.fa z.fs.length z.fc ((z.fs).flatMap flE) 48 3 :: z.T) := H
    refine l_op (o_val r_mv ?_); refine l_op (o_val (r_ext rfl rfl) ?_); refine l_op (o_val (r_ext rfl rfl) ?_); refine l_op (o_val r_as ?_); refine l_op (o_val r_as ?_); first | refine l_end ?_ | refine l_nil ?_
    repeat refine c_seq ?_
    refine c_region ?_; refine l_op (o_val r_mv ?_); refine l_op (o_val (r_not rfl) ?_); first | refine l_end ?_ | refine l_nil ?_
    repeat refine c_seq ?_
    refine c_yes rfl ?_; refine c_ret ?_; try dsimp only [Exit.then, Exit.inBlock]
    refine e_ret0 Try.results31 ?_
    refine ⟨_, rfl, ?_⟩
    have hst := step_long (L := obL l) (t := (⟨2, k, sz, dp, tp⟩ : Todo)) (s := s) (.inr (by omega))
    have hw : wlkAll (obL l) [(⟨2, k, sz, dp, tp⟩ : Todo)] s = { s with err := 2 } := by rw [wlkAll_one (by rw [hst]), hst]
    rw [hw]
    exact ⟨(⟨z.mo, z.Mo, z.co, z.mm, z.Mm, z.cm, z.G, (z.n + 1), z.tl, z.fa, z.fc, z.fs⟩ : WY), 2, fun h => absurd h (by decide), rfl, ⟨rfl, fun h => absurd (show (2 : Int) = 0 from h) (by decide)⟩, H.sub (.cons _ (.cons_cons _ (.cons_cons _ (.cons_cons _ (.cons_cons _ (List.Sublist.refl _))))))⟩
   ·
    have hc40 := Bool.eq_false_or_eq_true ((lookS l k).isSome)
    rcases hc40 with hc4 | hc4
    ·
     refine l_op (o_callR Try.func47 rfl rfl rfl (wobj_ok _ l wb z.mo z.co z.mm z.cm z.n z.fs.length z.fc z.Mo z.Mm z.G (hd z.fa) z.tl hz.hO hz.hOk hz.hM hz.hMk (by omega) k (by omega) hc4 (gd_bd hz.bd hz.nn k) (H.ownU (L := [.blk b1 ((k.1).map V8) 29, .blk wb ([.map (some z.mo), .map (some z.mm), VI (z.n : Int), .bool z.tl, .slice (hd z.fa) z.fs.length z.fc, VI 0]) 70, .obj z.mo (mobj kA z.Mo z.co), .obj z.mm (mobj kA z.Mm z.cm), .own z.fa z.fs.length z.fc ((z.fs).flatMap flE) 48 3]) (L1 := [.blk wb ([.map (some z.mo), .map (some z.mm), VI (z.n : Int), .bool z.tl, .slice (hd z.fa) z.fs.length z.fc, VI 0]) 70, .obj z.mo (mobj kA z.Mo z.co), .obj z.mm (mobj kA z.Mm z.cm)]) (Lr := ([.blk b1 ((k.1).map V8) 29, .own z.fa z.fs.length z.fc ((z.fs).flatMap flE) 48 3] : List Ch)) (T := z.T) ((perm_front (j := 1) rfl).trans (.cons _ ((perm_front (j := 1) rfl).trans (.cons _ ((perm_front (j := 1) rfl).trans (.cons _ (.refl _))))))))) ?_); rintro _ w ⟨rfl, mm5, mc6, hmf7, hmo8, Hc⟩
     replace H := H.callU (L1' := [.blk wb ([.map (some z.mo), .map (some z.mm), VI ((z.n + 1 : Nat) : Int), .bool z.tl, .slice (hd z.fa) z.fs.length z.fc, VI 0]) 70, .obj z.mo (mobj kA z.Mo z.co), .obj z.mm (mobj kA mm5 mc6)]) (L := [.blk b1 ((k.1).map V8) 29, .blk wb ([.map (some z.mo), .map (some z.mm), VI (z.n : Int), .bool z.tl, .slice (hd z.fa) z.fs.length z.fc, VI 0]) 70, .obj z.mo (mobj kA z.Mo z.co), .obj z.mm (mobj kA z.Mm z.cm), .own z.fa z.fs.length z.fc ((z.fs).flatMap flE) 48 3]) (L1 := [.blk wb ([.map (some z.mo), .map (some z.mm), VI (z.n : Int), .bool z.tl, .slice (hd z.fa) z.fs.length z.fc, VI 0]) 70, .obj z.mo (mobj kA z.Mo z.co), .obj z.mm (mobj kA z.Mm z.cm)]) (Lr := ([.blk b1 ((k.1).map V8) 29, .own z.fa z.fs.length z.fc ((z.fs).flatMap flE) 48 3] : List Ch)) (T := z.T) ((perm_front (j := 1) rfl).trans (.cons _ ((perm_front (j := 1) rfl).trans (.cons _ ((perm_front (j := 1) rfl).trans (.cons _ (.refl _))))))) Hc ((perm_front (j := 0) rfl).trans (.cons _ ((perm_front (j := 1) rfl).trans (.cons _ ((perm_front (j := 1) rfl).trans (.cons _ ((perm_front (j := 1) rfl).trans (.cons _ (.refl _)))))))))
     clear Hc
     replace H : Hp _ w _ (Ch.blk b1 ((k.1).map V8) 29 :: Ch.blk wb ([.map (some z.mo), .map (some z.mm), VI ((z.n + 1 : Nat) : Int), .bool z.tl, .slice (hd z.fa) z.fs.length z.fc, VI 0]) 70 :: Ch.obj z.mo (mobj kA z.Mo z.co) :: Ch.obj z.mm (mobj kA mm5 mc6) :: Ch.own z.fa z.fs.length z.fc ((z.fs).flatMap flE) 48 3 :: z.T) := H
     refine l_op (o_val r_mv ?_); refine l_op (o_val (r_ext rfl rfl) ?_); refine l_op (o_val (r_ext rfl rfl) ?_); refine l_op (o_val r_as ?_); refine l_op (o_val r_as ?_); first | refine l_end ?_ | refine l_nil ?_
     repeat refine c_seq ?_
     refine c_region ?_; refine l_op (o_val r_mv ?_); refine l_op (o_val (r_not rfl) ?_); first | refine l_end ?_ | refine l_nil ?_
     repeat refine c_seq ?_
     refine c_no rfl ?_; refine c_skip ?_; repeat refine c_seq ?_
     refine c_region ?_; refine l_op (o_val r_mv ?_); refine l_op (o_callR Try.func42 rfl rfl rfl (ftake_ret _ ((lookS l k).getD nilS) (hobd H _) (by (try simp only [Sl.cut]); omega)) ?_); rintro _ w ⟨a9, c10, l11, e12, rfl, htk13, Hc⟩
     replace H : Hp _ w _ (Ch.own a9 l11.length c10 ((l11).flatMap itE) 54 35 :: Ch.blk b1 ((k.1).map V8) 29 :: Ch.blk wb ([.map (some z.mo), .map (some z.mm), VI ((z.n + 1 : Nat) : Int), .bool z.tl, .slice (hd z.fa) z.fs.length z.fc, VI 0]) 70 :: Ch.obj z.mo (mobj kA z.Mo z.co) :: Ch.obj z.mm (mobj kA mm5 mc6) :: Ch.own z.fa z.fs.length z.fc ((z.fs).flatMap flE) 48 3 :: z.T) := (H.call Hc).rot
     clear Hc
     have htk13n := takeRes_len htk13
     refine l_op (o_val r_mv ?_); refine l_op (o_val (r_ext rfl rfl) ?_); refine l_op (o_val (r_ext rfl rfl) ?_); refine l_op (o_val r_as ?_); refine l_op (o_val r_as ?_); first | refine l_end ?_ | refine l_nil ?_
     repeat refine c_seq ?_
     refine c_region ?_; refine l_op (o_val r_mv ?_); refine l_op (o_val r_mv ?_); refine l_op (o_callR Try.func46 rfl rfl rfl (wbad_ret _ _ z.fs.length z.fc (z.n + 1) (hd z.fa) (some z.mo) (some z.mm) z.tl (H.has _ (List.mem_of_getElem? (i := 2) rfl)) e12) ?_); rintro _ w ⟨rfl, Hc⟩
     replace H := (H.callA (i := 2) rfl rfl rfl Hc)
     clear Hc
     replace H : Hp _ w _ (Ch.own a9 l11.length c10 ((l11).flatMap itE) 54 35 :: Ch.blk b1 ((k.1).map V8) 29 :: Ch.blk wb ([.map (some z.mo), .map (some z.mm), VI ((z.n + 1 : Nat) : Int), .bool z.tl, .slice (hd z.fa) z.fs.length z.fc, VI e12]) 70 :: Ch.obj z.mo (mobj kA z.Mo z.co) :: Ch.obj z.mm (mobj kA mm5 mc6) :: Ch.own z.fa z.fs.length z.fc ((z.fs).flatMap flE) 48 3 :: z.T) := H
     first | refine l_end ?_ | refine l_nil ?_
     by_cases hc14 : ¬ e12 = 0
     ·
      repeat refine c_seq ?_
      refine c_yes (by exact congrArg Value.bool (decide_eq_true hc14)) ?_; refine c_ret ?_; try dsimp only [Exit.then, Exit.inBlock]
      refine e_ret0 Try.results31 ?_
      refine ⟨_, rfl, ?_⟩
      obtain ⟨he4, htn⟩ : e12 = 4 ∧ takeF ((lookS l k).getD nilS).l = none := by
        rcases htk13 with ⟨h, _⟩ | ⟨h, _, h2⟩
        · exact absurd h (by assumption)
        · exact ⟨h, h2⟩
      subst he4
      have hst := step_syn (L := obL l) (t := (⟨2, k, sz, dp, tp⟩ : Todo)) (s := s) (by intro h; rcases h with ⟨_, h⟩ | h <;> (try dsimp only at h) <;> omega) (look_some hc4) (by show ¬ (2 : Int) = 1; decide) htn
      have hw : wlkAll (obL l) [(⟨2, k, sz, dp, tp⟩ : Todo)] s = { s with err := 4 } := by rw [wlkAll_one (by rw [hst]), hst]
      rw [hw]
      exact ⟨(⟨z.mo, z.Mo, z.co, z.mm, mm5, mc6, fput z.G k ((z.G k).getD 0 + 1), (z.n + 1), z.tl, z.fa, z.fc, z.fs⟩ : WY), 4, fun h => absurd h (by decide), rfl, ⟨rfl, fun h => absurd (show (4 : Int) = 0 from h) (by decide)⟩, H.sub (.cons _ (.cons _ (.cons_cons _ (.cons_cons _ (.cons_cons _ (.cons_cons _ (List.Sublist.refl _)))))))⟩
     ·
      repeat refine c_seq ?_
      refine c_no (by exact congrArg Value.bool (decide_eq_false hc14)) ?_; refine c_skip ?_; have he00 : e12 = 0 := by omega
      subst he00
      have hte : takeF ((lookS l k).getD nilS).l = some l11 := by
        rcases htk13 with ⟨_, h⟩ | ⟨h, _⟩
        · exact h
        · exact absurd h (by decide)
      have hst := step_dir (L := obL l) (t := (⟨2, k, sz, dp, tp⟩ : Todo)) (s := s) (by intro h; rcases h with ⟨_, h⟩ | h <;> (try dsimp only at h) <;> omega) (look_some hc4) (by show ¬ (2 : Int) = 1; decide) hte
      have hopen : (wlkStep (obL l) s (⟨2, k, sz, dp, tp⟩ : Todo)).1.err = 0 → wlkAll (obL l) [(⟨2, k, sz, dp, tp⟩ : Todo)] s = _ := wlkAll_open (L := obL l) (t := (⟨2, k, sz, dp, tp⟩ : Todo)) (s := s)
      rw [hst] at hopen
      replace hopen := hopen hs0
      obtain ⟨S0, hS0⟩ : ∃ S0 : WS, S0 = { s with met := s.met + 1, names := s.names ++ [k], files := s.files ++ (if l11 = [] ∧ 1 < dp then [⟨tp, none⟩] else []) } := ⟨_, rfl⟩
      replace hopen : wlkAll (obL l) [(⟨2, k, sz, dp, tp⟩ : Todo)] s = wlkAll (obL l) (l11.map (wkid (⟨2, k, sz, dp, tp⟩ : Todo))) S0 := by rw [hS0]; exact hopen
      have hSe : S0.err = 0 := by rw [hS0]; exact hs0
      have hSm : S0.met = s.met + 1 := by rw [hS0]
      have hSn : S0.names = s.names ++ [k] := by rw [hS0]
      have hSf : S0.files = s.files ++ (if l11 = [] ∧ 1 < dp then [⟨tp, none⟩] else []) := by rw [hS0]
      have hitf := it_facts hte
      clear hst hS0
      repeat refine c_seq ?_
      refine c_region ?_; refine l_op (o_val r_mv ?_); refine l_op (o_val (r_lens el52 rfl) ?_); refine l_op (o_val (r_bin (a := (l11.length : Int)) (b := 0) rfl rfl (fun _ => b_eql)) ?_); refine l_op (o_val r_mv ?_)
      by_cases hc15 : (l11.length : Int) = 0
      ·
       refine l_yes rfl rfl (by exact congrArg Value.bool (decide_eq_true hc15)) (o_val r_mv ?_); refine l_yes rfl rfl (by exact congrArg Value.bool (decide_eq_true hc15)) (o_val (r_bin (a := (dp : Int)) (b := 1) rfl rfl (fun _ => b_gtr)) ?_); refine l_op (o_val (r_pick (b := true) (congrArg Value.bool (decide_eq_true hc15))) ?_); refine l_op (o_val r_mv ?_)
       by_cases hc16 : 1 < (dp : Int)
       ·
        refine l_yes rfl rfl (by exact congrArg Value.bool (decide_eq_true hc16)) (o_val r_mv ?_); refine l_yes rfl rfl (by exact congrArg Value.bool (decide_eq_true hc16)) (o_val (r_nilc rfl) ?_); refine l_yes rfl rfl (by exact congrArg Value.bool (decide_eq_true hc16)) (o_val (r_fa rfl fo70_3) ?_); refine l_yes rfl rfl (by exact congrArg Value.bool (decide_eq_true hc16)) (o_val (r_ld (v := .bool z.tl) H (i := 2) rfl rfl ct4 rfl) ?_); refine l_op (o_val (r_pick (b := true) (congrArg Value.bool (decide_eq_true hc16))) ?_); first | refine l_end ?_ | refine l_nil ?_
        have hc170 := Bool.eq_false_or_eq_true (z.tl)
        rcases hc170 with hc17 | hc17
        ·
         repeat refine c_seq ?_
         refine c_yes (by exact congrArg Value.bool hc17) ?_; have hp1 := path_pos hpp (by omega)
         repeat refine c_seq ?_
         refine wp_held (fun w => Hp w0 w (keys (wch wb z 0)) [.own a9 l11.length c10 ((l11).flatMap itE) 54 35, .blk b1 ((k.1).map V8) 29, .obj z.mo (mobj kA z.Mo z.co), .obj z.mm (mobj kA mm5 mc6)]) mixed ?_; replace H := H.drew
         have HS := H.sub (.cons_cons _ (.cons_cons _ (.cons _ (.cons_cons _ (.cons_cons _ (List.nil_sublist _))))))
         refine t_take 0 rfl (by kernel_rfl) (by kernel_rfl) (by kernel_rfl) (fun _ _ _ h => h) (fun w HS => r_mv) HS ?_; refine t_take 1 rfl (by kernel_rfl) (by kernel_rfl) (by kernel_rfl) (fun _ _ _ h => h) (fun w HS => r_mv) HS ?_; refine t_take 2 rfl (by kernel_rfl) (by kernel_rfl) (by kernel_rfl) (fun _ _ _ h => h) (fun w HS => r_nilc rfl) HS ?_; refine t_take 3 rfl (by kernel_rfl) (by kernel_rfl) (by kernel_rfl) (fun _ _ _ h => h) (fun w HS => r_fa rfl fo70_4) HS ?_; refine t_take 5 rfl (by kernel_rfl) (by kernel_rfl) (by kernel_rfl) (fun _ _ _ h => h) (fun w HS => r_mv) HS ?_; refine t_take 6 rfl (by kernel_rfl) (by kernel_rfl) (by kernel_rfl) (fun _ _ _ h => h) (fun w HS => r_mv) HS ?_; refine t_take 7 rfl (by kernel_rfl) (by kernel_rfl) (by kernel_rfl) (fun _ _ _ h => h) (fun w HS => r_lenstr (s := ⟨(p).toArray⟩) Try.underlying9 rfl) HS ?_; refine t_take 8 rfl (by kernel_rfl) (by kernel_rfl) (by kernel_rfl) (fun _ _ _ h => h) (fun w HS => r_bin (a := ((p).length : Int)) (b := 1) rfl rfl (fun _ => b_sub (by omega) (by omega))) HS ?_; refine t_take 9 rfl (by kernel_rfl) (by kernel_rfl) (by kernel_rfl) (fun _ _ _ h => h) (fun w HS => r_slstrH (l := p) (h := ((((p).length : Int) - 1).toNat)) (j := ((p).length : Int) - 1) Try.underlying9 rfl rfl (by omega) (by omega)) HS ?_; refine t_take 10 rfl (by kernel_rfl) (by kernel_rfl) (by kernel_rfl) (fun _ _ _ h => h) (fun w HS => r_bldG (Z := ([.string ⟨(([] : List UInt8)).toArray⟩, .bool false, .slice none 0 0] : List Value)) (E := ([.string ⟨((p).take ((((p).length : Int) - 1).toNat)).toArray⟩, .bool true, .slice none 0 0] : List Value)) (pv := [(0, .string ⟨((p).take ((((p).length : Int) - 1).toNat)).toArray⟩), (1, .bool true)]) bd48 rfl rfl (.cons (A := ([] : List Value)) (B := ([.string ⟨(([] : List UInt8)).toArray⟩] : List Value)) (D := ([.bool false, .slice none 0 0] : List Value)) (V := ([.string ⟨((p).take ((((p).length : Int) - 1).toNat)).toArray⟩] : List Value)) (a := 0) (b := 1) rfl (show Cut3 (([.string ⟨(([] : List UInt8)).toArray⟩, .bool false, .slice none 0 0] : List Value)) (([] : List Value)) (([.string ⟨(([] : List UInt8)).toArray⟩] : List Value)) (([.bool false, .slice none 0 0] : List Value)) 0 1 from ⟨(show ([.string ⟨(([] : List UInt8)).toArray⟩, .bool false, .slice none 0 0] : List Value) = ([] : List Value) ++ ((([.string ⟨(([] : List UInt8)).toArray⟩] : List Value)) ++ (([.bool false, .slice none 0 0] : List Value))) from by simp only [List.cons_append, List.nil_append]), (by rfl), (by rfl)⟩) (by rfl) (by rfl) ((show ([.string ⟨((p).take ((((p).length : Int) - 1).toNat)).toArray⟩, .bool false, .slice none 0 0] : List Value) = ([] : List Value) ++ ((([.string ⟨((p).take ((((p).length : Int) - 1).toNat)).toArray⟩] : List Value)) ++ (([.bool false, .slice none 0 0] : List Value))) from by simp only [List.cons_append, List.nil_append]) ▸ .cons (A := ([.string ⟨((p).take ((((p).length : Int) - 1).toNat)).toArray⟩] : List Value)) (B := ([.bool false] : List Value)) (D := ([.slice none 0 0] : List Value)) (V := ([.bool true] : List Value)) (a := 1) (b := 1) rfl (show Cut3 (([.string ⟨((p).take ((((p).length : Int) - 1).toNat)).toArray⟩, .bool false, .slice none 0 0] : List Value)) (([.string ⟨((p).take ((((p).length : Int) - 1).toNat)).toArray⟩] : List Value)) (([.bool false] : List Value)) (([.slice none 0 0] : List Value)) 1 1 from ⟨(show ([.string ⟨((p).take ((((p).length : Int) - 1).toNat)).toArray⟩, .bool false, .slice none 0 0] : List Value) = ([.string ⟨((p).take ((((p).length : Int) - 1).toNat)).toArray⟩] : List Value) ++ ((([.bool false] : List Value)) ++ (([.slice none 0 0] : List Value))) from by simp only [List.cons_append, List.nil_append]), (by rfl), (by rfl)⟩) (by rfl) (by rfl) ((show ([.string ⟨((p).take ((((p).length : Int) - 1).toNat)).toArray⟩, .bool true, .slice none 0 0] : List Value) = ([.string ⟨((p).take ((((p).length : Int) - 1).toNat)).toArray⟩] : List Value) ++ ((([.bool true] : List Value)) ++ (([.slice none 0 0] : List Value))) from by simp only [List.cons_append, List.nil_append]) ▸ .nil _)))) HS ?_
         refine t_all [4, 11] (by kernel_rfl) (by simp) (all_cons (w_op 4 rfl ?_) (all_cons (w_op 11 rfl ?_) (all_nil)))
         ·
          refine (o_val (r_ld (v := .slice (hd z.fa) z.fs.length z.fc) H (i := 2) rfl rfl ct40 rfl) ?_)
          refine ⟨H.sub (.cons_cons _ (.cons_cons _ (.cons _ (.cons_cons _ (.cons_cons _ (List.nil_sublist _)))))), ?_⟩
          replace HS := H.sub (.cons_cons _ (.cons_cons _ (.cons _ (.cons_cons _ (.cons_cons _ (List.nil_sublist _))))))
          refine t_step 11 rfl (by kernel_rfl) (o_bslG1 (enc := flE) ((⟨(p).take ((((p).length : Int) - 1).toNat), true, ⟨none, 0, 0, []⟩⟩ : Fl)) H sl40 zc48 (by rfl) (by decide) (by decide) rfl (flE_len _) (fun b18 w H hb18 => ?_)); replace H := H.rot
          replace H : Hp _ w _ (Ch.own (some b18) 1 1 (([(⟨(p).take ((((p).length : Int) - 1).toNat), true, ⟨none, 0, 0, []⟩⟩ : Fl)]).flatMap flE) 48 3 :: Ch.own a9 l11.length c10 ((l11).flatMap itE) 54 35 :: Ch.blk b1 ((k.1).map V8) 29 :: Ch.blk wb ([.map (some z.mo), .map (some z.mm), VI ((z.n + 1 : Nat) : Int), .bool z.tl, .slice (hd z.fa) z.fs.length z.fc, VI 0]) 70 :: Ch.obj z.mo (mobj kA z.Mo z.co) :: Ch.obj z.mm (mobj kA mm5 mc6) :: Ch.own z.fa z.fs.length z.fc ((z.fs).flatMap flE) 48 3 :: z.T) := H
          refine ⟨H.sub (.cons _ (.cons_cons _ (.cons_cons _ (.cons _ (.cons_cons _ (.cons_cons _ (List.nil_sublist _))))))), ?_⟩
          replace HS := H.sub (.cons _ (.cons_cons _ (.cons_cons _ (.cons _ (.cons_cons _ (.cons_cons _ (List.nil_sublist _)))))))
          refine t_step 12 rfl (by kernel_rfl) (o_appG (enc := flE) (s := ⟨hd (some b18), 1, 1, [(⟨(p).take ((((p).length : Int) - 1).toNat), true, ⟨none, 0, 0, []⟩⟩ : Fl)]⟩) (l' := z.fs ++ ([(⟨(p).take ((((p).length : Int) - 1).toNat), true, ⟨none, 0, 0, []⟩⟩ : Fl)])) (len' := z.fs.length + 1) rfl rfl H (i := 6) rfl sl40 Try.underlying40 rfl rfl (H.glOwn (i := 0) rfl (by decide) (fun c _ => flE_len c)) (by decide) (fun c _ => flE_all c) (by omega) (by decide) (fun a19 c20 w H => ?_)); replace H : Hp _ w _ (Ch.own (some b18) 1 1 (([(⟨(p).take ((((p).length : Int) - 1).toNat), true, ⟨none, 0, 0, []⟩⟩ : Fl)]).flatMap flE) 48 3 :: Ch.own a9 l11.length c10 ((l11).flatMap itE) 54 35 :: Ch.blk b1 ((k.1).map V8) 29 :: Ch.blk wb ([.map (some z.mo), .map (some z.mm), VI ((z.n + 1 : Nat) : Int), .bool z.tl, .slice (hd z.fa) z.fs.length z.fc, VI 0]) 70 :: Ch.obj z.mo (mobj kA z.Mo z.co) :: Ch.obj z.mm (mobj kA mm5 mc6) :: Ch.own a19 (z.fs.length + 1) c20 ((z.fs ++ ([(⟨(p).take ((((p).length : Int) - 1).toNat), true, ⟨none, 0, 0, []⟩⟩ : Fl)])).flatMap flE) 48 3 :: z.T) := H
          refine ⟨H.sub (.cons _ (.cons_cons _ (.cons_cons _ (.cons _ (.cons_cons _ (.cons_cons _ (List.nil_sublist _))))))), ?_⟩
          replace HS := H.sub (.cons _ (.cons_cons _ (.cons_cons _ (.cons _ (.cons_cons _ (.cons_cons _ (List.nil_sublist _)))))))
          refine t_take 13 rfl (by kernel_rfl) (by kernel_rfl) (by kernel_rfl) (fun _ _ _ h => h) (fun w HS => r_nilc rfl) HS ?_; refine t_take 14 rfl (by kernel_rfl) (by kernel_rfl) (by kernel_rfl) (fun _ _ _ h => h) (fun w HS => r_fa rfl fo70_4) HS ?_; refine t_step 15 rfl (by kernel_rfl) (o_st (v := .slice (hd a19) (z.fs.length + 1) c20) H (i := 3) rfl rfl rfl cs40 rfl (by simp only [List.length_cons, List.length_nil]; omega) (fun w H => ?_)); replace H : Hp _ w _ (Ch.own (some b18) 1 1 (([(⟨(p).take ((((p).length : Int) - 1).toNat), true, ⟨none, 0, 0, []⟩⟩ : Fl)]).flatMap flE) 48 3 :: Ch.own a9 l11.length c10 ((l11).flatMap itE) 54 35 :: Ch.blk b1 ((k.1).map V8) 29 :: Ch.blk wb ([.map (some z.mo), .map (some z.mm), VI ((z.n + 1 : Nat) : Int), .bool z.tl, .slice (hd a19) (z.fs.length + 1) c20, VI 0]) 70 :: Ch.obj z.mo (mobj kA z.Mo z.co) :: Ch.obj z.mm (mobj kA mm5 mc6) :: Ch.own a19 (z.fs.length + 1) c20 ((z.fs ++ ([(⟨(p).take ((((p).length : Int) - 1).toNat), true, ⟨none, 0, 0, []⟩⟩ : Fl)])).flatMap flE) 48 3 :: z.T) := H
          refine ⟨H.sub (.cons _ (.cons_cons _ (.cons_cons _ (.cons _ (.cons_cons _ (.cons_cons _ (List.nil_sublist _))))))), ?_⟩
          replace HS := H.sub (.cons _ (.cons_cons _ (.cons_cons _ (.cons _ (.cons_cons _ (.cons_cons _ (List.nil_sublist _)))))))
          refine t_done (by kernel_rfl) ?_
          clear HS
          repeat refine c_seq ?_
          refine c_region ?_; refine l_op (o_val r_mv ?_); refine l_op (o_val (r_lens el52 rfl) ?_); refine l_op (o_val r_mv ?_); first | refine l_end ?_ | refine l_nil ?_
          repeat refine c_seq ?_
          refine c_block ?_; have hl1 : (z.fs ++ ([(⟨(p).take ((((p).length : Int) - 1).toNat), true, ⟨none, 0, 0, []⟩⟩ : Fl)])).length = z.fs.length + 1 := by rw [List.length_append]; rfl
          rw [← hl1] at H
          repeat refine c_seq ?_
          refine c_loop2 (fun (i : Nat) (z1 : WY) => [(0, .pointer (some ⟨wb, 0, none⟩)), (2, .string ⟨(p).toArray⟩), (3, VI (dp : Int)), (64, .slice (hd a9) l11.length c10), (65, VI (l11.length : Int)), (66, VI (i : Int))])
            (fun (i : Nat) (z1 : WY) w => (i ≤ l11.length ∧ z1.ok l ∧ z1.tl = z.tl ∧ Rel z1 0 (wlkAll (obL l) ((l11.take i).map (wkid (⟨2, k, sz, dp, tp⟩ : Todo))) S0)) ∧ Hp w0 w (keys (wch wb z 0)) (Ch.own a9 l11.length c10 ((l11).flatMap itE) 54 35 :: Ch.blk wb ([.map (some z1.mo), .map (some z1.mm), VI (z1.n : Int), .bool z1.tl, .slice (hd z1.fa) z1.fs.length z1.fc, VI 0]) 70 :: Ch.obj z1.mo (mobj kA z1.Mo z1.co) :: Ch.obj z1.mm (mobj kA z1.Mm z1.cm) :: Ch.own z1.fa z1.fs.length z1.fc ((z1.fs).flatMap flE) 48 3 :: z1.T))
            (fun (i : Nat) (z1 : WY) => l11.length - i) 0 (⟨z.mo, z.Mo, z.co, z.mm, mm5, mc6, fput z.G k ((z.G k).getD 0 + 1), (z.n + 1), z.tl, a19, c20, z.fs ++ ([(⟨(p).take ((((p).length : Int) - 1).toNat), true, ⟨none, 0, 0, []⟩⟩ : Fl)])⟩ : WY) ⟨rfl, rfl, rfl, rfl, rfl, rfl, trivial⟩ ⟨⟨Nat.zero_le _, ⟨hz.hO, hz.hOk, hmf7, hmo8, bd_put hz.bd k, by show z.n + 1 ≤ 1024; omega, fat_add (a := none) hz.fat rfl, by simp only [List.length_append, List.length_singleton]; omega⟩, rfl, by rw [List.take_zero, List.map_nil, wlkAll_nil]; exact ⟨hSe.symm, fun _ => ⟨by rw [hSm]; exact congrArg (· + 1) hrn, by rw [hSn]; exact keys_put hrg k, fun ht => by rw [hSf, if_pos ⟨List.eq_nil_of_length_eq_zero (by omega), by omega⟩, List.map_append, List.map_append, hrf ht]; exact congrArg (fun q => s.files.map Fil.key ++ [(q, true, [])]) (path_take hpp (by omega))⟩⟩⟩, (wdir_step (H.sub (.cons _ (.cons_cons _ (.cons _ (.cons_cons _ (.cons_cons _ (.cons_cons _ (.cons_cons _ (List.Sublist.refl _))))))))))⟩ ?_
          clear H
          rintro i z1 τ w ⟨⟨hil, hz1, htl1, hr1⟩, H⟩
          repeat refine c_seq ?_
          refine c_region ?_; refine l_op (o_val (r_bin (a := (i : Int)) (b := (l11.length : Int)) rfl rfl (fun _ => b_lss)) ?_); first | refine l_end ?_ | refine l_nil ?_
          by_cases hc21 : (i : Int) < (l11.length : Int)
          ·
           repeat refine c_seq ?_
           refine c_yes (by exact congrArg Value.bool (decide_eq_true hc21)) ?_; refine c_skip ?_; repeat refine c_seq ?_
           refine c_block ?_; repeat refine c_seq ?_
           refine c_region ?_; have ah23 := H.ownAddr (i := 0) rfl (by omega)
           obtain ⟨ab22, ah23⟩ := ah23
           refine l_op (o_val (r_isN i rfl rfl el52 ah23 (by omega) (by (try simp only [Sl.cut]); omega)) ?_); have he25 : ∃ c, (l11)[i]? = some c := ⟨_, List.getElem?_eq_getElem (by have := ((H.glOwn (i := 0) rfl (by decide) (fun c _ => itE_len c))).ln; (try dsimp only at this ⊢); omega)⟩
           obtain ⟨e24, he25⟩ := he25
           have hez26 := ((H.glOwn (i := 0) rfl (by decide) (fun c _ => itE_len c))).sz e24 (List.mem_of_getElem? he25)
           refine l_op (o_val (r_ldRow (s := (⟨hd a9, l11.length, c10, l11⟩ : Gl It)) (k := i) (H.glOwn (i := 0) rfl (by decide) (fun c _ => itE_len c)) ah23 rfl rt54 (by decide) he25) ?_); refine l_op (o_alloc H zc54 (fun b27 w H hb27 => ?_)); replace H := H.rot
           replace H : Hp _ w _ (Ch.blk b27 (([.string ⟨(([] : List UInt8)).toArray⟩, VI 0] : List Value) ++ ((List.replicate 32 (0 : UInt8)).map V8 ++ (([VI 0] : List Value)))) 54 :: Ch.own a9 l11.length c10 ((l11).flatMap itE) 54 35 :: Ch.blk wb ([.map (some z1.mo), .map (some z1.mm), VI (z1.n : Int), .bool z1.tl, .slice (hd z1.fa) z1.fs.length z1.fc, VI 0]) 70 :: Ch.obj z1.mo (mobj kA z1.Mo z1.co) :: Ch.obj z1.mm (mobj kA z1.Mm z1.cm) :: Ch.own z1.fa z1.fs.length z1.fc ((z1.fs).flatMap flE) 48 3 :: z1.T) := H
           refine l_op (o_stW (C' := ([.string ⟨(e24.name).toArray⟩, VI e24.kind] : List Value) ++ ((e24.of.1).map V8 ++ (([VI e24.size] : List Value)))) H (i := 0) rfl rfl rfl cs54 (by first | (simp [Value.oneCell', List.all_append, List.all_map]; done) | (simp only [List.all_append, List.all_cons, List.all_nil, List.all_map]; simp [Value.oneCell', Function.comp_def])) (by simp only [List.length_append, List.length_map, List.length_cons, List.length_nil, (show (List.replicate 32 (0 : UInt8)).length = 32 from (List.length_replicate ..))]) (by simp only [List.length_append, List.length_map, List.length_cons, List.length_nil, (show (e24.of.1).length = 32 from e24.of.2)]) (fun w H => ?_)); replace H : Hp _ w _ (Ch.blk b27 (([.string ⟨(e24.name).toArray⟩, VI e24.kind] : List Value) ++ ((e24.of.1).map V8 ++ (([VI e24.size] : List Value)))) 54 :: Ch.own a9 l11.length c10 ((l11).flatMap itE) 54 35 :: Ch.blk wb ([.map (some z1.mo), .map (some z1.mm), VI (z1.n : Int), .bool z1.tl, .slice (hd z1.fa) z1.fs.length z1.fc, VI 0]) 70 :: Ch.obj z1.mo (mobj kA z1.Mo z1.co) :: Ch.obj z1.mm (mobj kA z1.Mm z1.cm) :: Ch.own z1.fa z1.fs.length z1.fc ((z1.fs).flatMap flE) 48 3 :: z1.T) := H
           first | refine l_end ?_ | refine l_nil ?_
           have hnm := hitf e24 (List.mem_of_getElem? he25)
           have hpx : (p ++ e24.name).length = p.length + e24.name.length := List.length_append
           repeat refine c_seq ?_
           refine c_region ?_; refine l_op (o_val (r_fa rfl fo54_1) ?_); refine l_op (o_val (r_l1 (v := VI e24.kind) H (i := 0) rfl rfl ct3 (show Cut3 (([.string ⟨(e24.name).toArray⟩, VI e24.kind] : List Value) ++ ((e24.of.1).map V8 ++ (([VI e24.size] : List Value)))) (([.string ⟨(e24.name).toArray⟩] : List Value)) (([VI e24.kind] : List Value)) ((e24.of.1).map V8 ++ (([VI e24.size] : List Value))) 1 1 from ⟨(show ([.string ⟨(e24.name).toArray⟩, VI e24.kind] : List Value) ++ ((e24.of.1).map V8 ++ (([VI e24.size] : List Value))) = ([.string ⟨(e24.name).toArray⟩] : List Value) ++ ((([VI e24.kind] : List Value)) ++ ((e24.of.1).map V8 ++ (([VI e24.size] : List Value)))) from by simp only [List.cons_append, List.nil_append]), (by rfl), (by rfl)⟩)) ?_); refine l_op (o_val (r_bin (a := e24.kind) (b := 2) rfl rfl (fun _ => b_eql)) ?_); first | refine l_end ?_ | refine l_nil ?_
           by_cases hc28 : e24.kind = 2
           ·
            repeat refine c_seq ?_
            refine c_yes (by exact congrArg Value.bool (decide_eq_true hc28)) ?_; repeat refine c_seq ?_
            refine c_region ?_; refine l_op (o_val r_mv ?_); refine l_op (o_val (r_fa rfl fo54_2) ?_); refine l_op (o_val (r_lk H (i := 0) rfl rfl rt29 (show Cut3 (([.string ⟨(e24.name).toArray⟩, VI e24.kind] : List Value) ++ ((e24.of.1).map V8 ++ (([VI e24.size] : List Value)))) (([.string ⟨(e24.name).toArray⟩, VI e24.kind] : List Value)) ((e24.of.1).map V8) (([VI e24.size] : List Value)) 2 32 from ⟨(show ([.string ⟨(e24.name).toArray⟩, VI e24.kind] : List Value) ++ ((e24.of.1).map V8 ++ (([VI e24.size] : List Value))) = ([.string ⟨(e24.name).toArray⟩, VI e24.kind] : List Value) ++ (((e24.of.1).map V8) ++ (([VI e24.size] : List Value))) from by simp only [List.cons_append, List.nil_append]), (by rfl), (by simp only [List.length_map, (show (e24.of.1).length = 32 from e24.of.2)])⟩)) ?_); refine l_op (o_val r_mv ?_); refine l_op (o_val (r_fa rfl fo54_0) ?_); refine l_op (o_val (r_l1 (v := .string ⟨(e24.name).toArray⟩) H (i := 0) rfl rfl ct9 (show Cut3 (([.string ⟨(e24.name).toArray⟩, VI e24.kind] : List Value) ++ ((e24.of.1).map V8 ++ (([VI e24.size] : List Value)))) (([] : List Value)) (([.string ⟨(e24.name).toArray⟩] : List Value)) (([VI e24.kind] : List Value) ++ ((e24.of.1).map V8 ++ (([VI e24.size] : List Value)))) 0 1 from ⟨(show ([.string ⟨(e24.name).toArray⟩, VI e24.kind] : List Value) ++ ((e24.of.1).map V8 ++ (([VI e24.size] : List Value))) = ([] : List Value) ++ ((([.string ⟨(e24.name).toArray⟩] : List Value)) ++ (([VI e24.kind] : List Value) ++ ((e24.of.1).map V8 ++ (([VI e24.size] : List Value))))) from by simp only [List.cons_append, List.nil_append]), (by rfl), (by rfl)⟩)) ?_); refine l_op (o_val (r_stradd (a := p) (b := e24.name) rfl rfl (by (try simp only [List.length_cons, List.length_nil]); omega)) ?_); refine l_op (o_val (r_stradd (a := p ++ e24.name) (b := ([47] : List UInt8)) rfl rfl (by (try simp only [List.length_cons, List.length_nil]); omega)) ?_); refine l_op (o_val r_mv ?_); refine l_op (o_val (r_bin (a := (dp : Int)) (b := 1) rfl rfl (fun _ => b_add (by omega) (by omega))) ?_); refine l_op (o_callR Try.func31 rfl rfl rfl (hi (by omega) _ wb z1 (H.ownT (L := [.blk b27 (([.string ⟨(e24.name).toArray⟩, VI e24.kind] : List Value) ++ ((e24.of.1).map V8 ++ (([VI e24.size] : List Value)))) 54, .own a9 l11.length c10 ((l11).flatMap itE) 54 35, .blk wb ([.map (some z1.mo), .map (some z1.mm), VI (z1.n : Int), .bool z1.tl, .slice (hd z1.fa) z1.fs.length z1.fc, VI 0]) 70, .obj z1.mo (mobj kA z1.Mo z1.co), .obj z1.mm (mobj kA z1.Mm z1.cm), .own z1.fa z1.fs.length z1.fc ((z1.fs).flatMap flE) 48 3]) (L1 := [.blk wb ([.map (some z1.mo), .map (some z1.mm), VI (z1.n : Int), .bool z1.tl, .slice (hd z1.fa) z1.fs.length z1.fc, VI 0]) 70, .obj z1.mo (mobj kA z1.Mo z1.co), .obj z1.mm (mobj kA z1.Mm z1.cm), .own z1.fa z1.fs.length z1.fc ((z1.fs).flatMap flE) 48 3]) (Lr := ([.blk b27 (([.string ⟨(e24.name).toArray⟩, VI e24.kind] : List Value) ++ ((e24.of.1).map V8 ++ (([VI e24.size] : List Value)))) 54, .own a9 l11.length c10 ((l11).flatMap itE) 54 35] : List Ch)) (T := z1.T) ((perm_front (j := 2) rfl).trans (.cons _ ((perm_front (j := 2) rfl).trans (.cons _ ((perm_front (j := 2) rfl).trans (.cons _ ((perm_front (j := 2) rfl).trans (.cons _ (.refl _)))))))))) hz1 (ho_up ho hap H) (ap_turn hap ho H (L := [.blk b27 (([.string ⟨(e24.name).toArray⟩, VI e24.kind] : List Value) ++ ((e24.of.1).map V8 ++ (([VI e24.size] : List Value)))) 54, .own a9 l11.length c10 ((l11).flatMap itE) 54 35, .blk wb ([.map (some z1.mo), .map (some z1.mm), VI (z1.n : Int), .bool z1.tl, .slice (hd z1.fa) z1.fs.length z1.fc, VI 0]) 70, .obj z1.mo (mobj kA z1.Mo z1.co), .obj z1.mm (mobj kA z1.Mm z1.cm), .own z1.fa z1.fs.length z1.fc ((z1.fs).flatMap flE) 48 3]) (L1 := [.blk wb ([.map (some z1.mo), .map (some z1.mm), VI (z1.n : Int), .bool z1.tl, .slice (hd z1.fa) z1.fs.length z1.fc, VI 0]) 70, .obj z1.mo (mobj kA z1.Mo z1.co), .obj z1.mm (mobj kA z1.Mm z1.cm), .own z1.fa z1.fs.length z1.fc ((z1.fs).flatMap flE) 48 3]) (Lr := ([.blk b27 (([.string ⟨(e24.name).toArray⟩, VI e24.kind] : List Value) ++ ((e24.of.1).map V8 ++ (([VI e24.size] : List Value)))) 54, .own a9 l11.length c10 ((l11).flatMap itE) 54 35] : List Ch)) (T := z1.T) ((perm_front (j := 2) rfl).trans (.cons _ ((perm_front (j := 2) rfl).trans (.cons _ ((perm_front (j := 2) rfl).trans (.cons _ ((perm_front (j := 2) rfl).trans (.cons _ (.refl _)))))))))) _ hr1 e24.of e24.size (wkid (⟨2, k, sz, dp, tp⟩ : Todo) e24).path ((p ++ e24.name) ++ ([47] : List UInt8)) (kid_path hpp h1) (by have := hnm.1; simp only [List.length_append, List.length_singleton]; omega)) ?_)
            rintro _ w ⟨zz29, ee30, hzz31, htt32, hrr33, Hc⟩
            replace H := H.callT (L1' := [.blk wb ([.map (some zz29.mo), .map (some zz29.mm), VI (zz29.n : Int), .bool zz29.tl, .slice (hd zz29.fa) zz29.fs.length zz29.fc, VI ee30]) 70, .obj zz29.mo (mobj kA zz29.Mo zz29.co), .obj zz29.mm (mobj kA zz29.Mm zz29.cm), .own zz29.fa zz29.fs.length zz29.fc ((zz29.fs).flatMap flE) 48 3]) (T' := zz29.T) (L := [.blk b27 (([.string ⟨(e24.name).toArray⟩, VI e24.kind] : List Value) ++ ((e24.of.1).map V8 ++ (([VI e24.size] : List Value)))) 54, .own a9 l11.length c10 ((l11).flatMap itE) 54 35, .blk wb ([.map (some z1.mo), .map (some z1.mm), VI (z1.n : Int), .bool z1.tl, .slice (hd z1.fa) z1.fs.length z1.fc, VI 0]) 70, .obj z1.mo (mobj kA z1.Mo z1.co), .obj z1.mm (mobj kA z1.Mm z1.cm), .own z1.fa z1.fs.length z1.fc ((z1.fs).flatMap flE) 48 3]) (L1 := [.blk wb ([.map (some z1.mo), .map (some z1.mm), VI (z1.n : Int), .bool z1.tl, .slice (hd z1.fa) z1.fs.length z1.fc, VI 0]) 70, .obj z1.mo (mobj kA z1.Mo z1.co), .obj z1.mm (mobj kA z1.Mm z1.cm), .own z1.fa z1.fs.length z1.fc ((z1.fs).flatMap flE) 48 3]) (Lr := ([.blk b27 (([.string ⟨(e24.name).toArray⟩, VI e24.kind] : List Value) ++ ((e24.of.1).map V8 ++ (([VI e24.size] : List Value)))) 54, .own a9 l11.length c10 ((l11).flatMap itE) 54 35] : List Ch)) (T := z1.T) ((perm_front (j := 2) rfl).trans (.cons _ ((perm_front (j := 2) rfl).trans (.cons _ ((perm_front (j := 2) rfl).trans (.cons _ ((perm_front (j := 2) rfl).trans (.cons _ (.refl _))))))))) Hc (.refl _)
            clear Hc
            replace H : Hp _ w _ (Ch.blk b27 (([.string ⟨(e24.name).toArray⟩, VI e24.kind] : List Value) ++ ((e24.of.1).map V8 ++ (([VI e24.size] : List Value)))) 54 :: Ch.own a9 l11.length c10 ((l11).flatMap itE) 54 35 :: Ch.blk wb ([.map (some zz29.mo), .map (some zz29.mm), VI (zz29.n : Int), .bool zz29.tl, .slice (hd zz29.fa) zz29.fs.length zz29.fc, VI ee30]) 70 :: Ch.obj zz29.mo (mobj kA zz29.Mo zz29.co) :: Ch.obj zz29.mm (mobj kA zz29.Mm zz29.cm) :: Ch.own zz29.fa zz29.fs.length zz29.fc ((zz29.fs).flatMap flE) 48 3 :: zz29.T) := H
            first | refine l_end ?_ | refine l_nil ?_
            repeat refine c_seq ?_
            refine c_region ?_; refine l_op (o_val r_mv ?_); refine l_op (o_val (r_nilc rfl) ?_); refine l_op (o_val (r_fa rfl fo70_5) ?_); refine l_op (o_val (r_ld (v := VI ee30) H (i := 2) rfl rfl ct37 rfl) ?_); refine l_op (o_val (r_bin (a := ee30) (b := 0) rfl rfl (fun _ => b_neq)) ?_); first | refine l_end ?_ | refine l_nil ?_
            by_cases hc34 : ee30 ≠ 0
            ·
             repeat refine c_seq ?_
             refine c_yes (by exact congrArg Value.bool (decide_eq_true hc34)) ?_; refine c_ret ?_; try dsimp only [Exit.then, Exit.inBlock]
             refine e_ret0 Try.results31 ?_
             refine ⟨_, rfl, ?_⟩
             have hne : ¬ ee30 = 0 := by omega
             rw [hopen, kids_stop he25 hSe (by omega) hr1.1.symm (by rw [(kid_dir (by omega)), ← hrr33.1]; exact hne), (kid_dir (by omega))]
             exact ⟨zz29, ee30, fun h => absurd h hne, htt32.trans htl1, hrr33, H.sub (.cons _ (.cons _ (.cons_cons _ (.cons_cons _ (.cons_cons _ (.cons_cons _ (List.Sublist.refl _)))))))⟩
            ·
             repeat refine c_seq ?_
             refine c_no (by exact congrArg Value.bool (decide_eq_false hc34)) ?_; refine c_skip ?_; repeat refine c_seq ?_
             refine c_region ?_; refine l_op (o_val (r_bin (a := (i : Int)) (b := 1) rfl rfl (fun _ => b_add (by omega) (by omega))) ?_); refine l_op (o_val r_mv ?_); first | refine l_end ?_ | refine l_nil ?_
             have he0 : ee30 = 0 := by omega
             subst he0
             refine round_end (i + 1, zz29) ?_ ?_ ?_
             · exact ⟨rfl, rfl, rfl, rfl, rfl, show VI ((i : Int) + 1) = VI ((i + 1 : Nat) : Int) from congrArg VI (by omega), trivial⟩
             · refine ⟨?_, ?_⟩
               · try dsimp only
                 exact ⟨by omega, hzz31 rfl, htt32.trans htl1, by rw [kids_next he25 hSe (by omega) hr1.1.symm, (kid_dir (by omega))]; exact hrr33⟩
               · exact H.sub (.cons _ (.cons_cons _ (.cons_cons _ (.cons_cons _ (.cons_cons _ (.cons_cons _ (List.Sublist.refl _)))))))
             · show l11.length - (i + 1 : Nat) < l11.length - i; omega
           ·
            repeat refine c_seq ?_
            refine c_no (by exact congrArg Value.bool (decide_eq_false hc28)) ?_; repeat refine c_seq ?_
            refine c_region ?_; refine l_op (o_val r_mv ?_); refine l_op (o_val (r_ldA (C := ([.string ⟨(e24.name).toArray⟩, VI e24.kind] : List Value) ++ ((e24.of.1).map V8 ++ (([VI e24.size] : List Value)))) H (i := 0) rfl rfl rt54 (by simp only [List.length_append, List.length_map, List.length_cons, List.length_nil, (show (e24.of.1).length = 32 from e24.of.2)])) ?_); refine l_op (o_val r_mv ?_); refine l_op (o_callR Try.func48 rfl rfl rfl (wfile_ret _ l wb z1 (H.ownT (L := [.blk b27 (([.string ⟨(e24.name).toArray⟩, VI e24.kind] : List Value) ++ ((e24.of.1).map V8 ++ (([VI e24.size] : List Value)))) 54, .own a9 l11.length c10 ((l11).flatMap itE) 54 35, .blk wb ([.map (some z1.mo), .map (some z1.mm), VI (z1.n : Int), .bool z1.tl, .slice (hd z1.fa) z1.fs.length z1.fc, VI 0]) 70, .obj z1.mo (mobj kA z1.Mo z1.co), .obj z1.mm (mobj kA z1.Mm z1.cm), .own z1.fa z1.fs.length z1.fc ((z1.fs).flatMap flE) 48 3]) (L1 := [.blk wb ([.map (some z1.mo), .map (some z1.mm), VI (z1.n : Int), .bool z1.tl, .slice (hd z1.fa) z1.fs.length z1.fc, VI 0]) 70, .obj z1.mo (mobj kA z1.Mo z1.co), .obj z1.mm (mobj kA z1.Mm z1.cm), .own z1.fa z1.fs.length z1.fc ((z1.fs).flatMap flE) 48 3]) (Lr := ([.blk b27 (([.string ⟨(e24.name).toArray⟩, VI e24.kind] : List Value) ++ ((e24.of.1).map V8 ++ (([VI e24.size] : List Value)))) 54, .own a9 l11.length c10 ((l11).flatMap itE) 54 35] : List Ch)) (T := z1.T) ((perm_front (j := 2) rfl).trans (.cons _ ((perm_front (j := 2) rfl).trans (.cons _ ((perm_front (j := 2) rfl).trans (.cons _ ((perm_front (j := 2) rfl).trans (.cons _ (.refl _)))))))))) hz1 (ho_up ho hap H) (ap_turn hap ho H (L := [.blk b27 (([.string ⟨(e24.name).toArray⟩, VI e24.kind] : List Value) ++ ((e24.of.1).map V8 ++ (([VI e24.size] : List Value)))) 54, .own a9 l11.length c10 ((l11).flatMap itE) 54 35, .blk wb ([.map (some z1.mo), .map (some z1.mm), VI (z1.n : Int), .bool z1.tl, .slice (hd z1.fa) z1.fs.length z1.fc, VI 0]) 70, .obj z1.mo (mobj kA z1.Mo z1.co), .obj z1.mm (mobj kA z1.Mm z1.cm), .own z1.fa z1.fs.length z1.fc ((z1.fs).flatMap flE) 48 3]) (L1 := [.blk wb ([.map (some z1.mo), .map (some z1.mm), VI (z1.n : Int), .bool z1.tl, .slice (hd z1.fa) z1.fs.length z1.fc, VI 0]) 70, .obj z1.mo (mobj kA z1.Mo z1.co), .obj z1.mm (mobj kA z1.Mm z1.cm), .own z1.fa z1.fs.length z1.fc ((z1.fs).flatMap flE) 48 3]) (Lr := ([.blk b27 (([.string ⟨(e24.name).toArray⟩, VI e24.kind] : List Value) ++ ((e24.of.1).map V8 ++ (([VI e24.size] : List Value)))) 54, .own a9 l11.length c10 ((l11).flatMap itE) 54 35] : List Ch)) (T := z1.T) ((perm_front (j := 2) rfl).trans (.cons _ ((perm_front (j := 2) rfl).trans (.cons _ ((perm_front (j := 2) rfl).trans (.cons _ ((perm_front (j := 2) rfl).trans (.cons _ (.refl _)))))))))) _ hr1 e24 p (dp + 1) (by have := hnm.1; omega)) ?_); rintro _ w ⟨zz35, ee36, hzz37, htt38, hrr39, Hc⟩
            replace H := H.callT (L1' := [.blk wb ([.map (some zz35.mo), .map (some zz35.mm), VI (zz35.n : Int), .bool zz35.tl, .slice (hd zz35.fa) zz35.fs.length zz35.fc, VI ee36]) 70, .obj zz35.mo (mobj kA zz35.Mo zz35.co), .obj zz35.mm (mobj kA zz35.Mm zz35.cm), .own zz35.fa zz35.fs.length zz35.fc ((zz35.fs).flatMap flE) 48 3]) (T' := zz35.T) (L := [.blk b27 (([.string ⟨(e24.name).toArray⟩, VI e24.kind] : List Value) ++ ((e24.of.1).map V8 ++ (([VI e24.size] : List Value)))) 54, .own a9 l11.length c10 ((l11).flatMap itE) 54 35, .blk wb ([.map (some z1.mo), .map (some z1.mm), VI (z1.n : Int), .bool z1.tl, .slice (hd z1.fa) z1.fs.length z1.fc, VI 0]) 70, .obj z1.mo (mobj kA z1.Mo z1.co), .obj z1.mm (mobj kA z1.Mm z1.cm), .own z1.fa z1.fs.length z1.fc ((z1.fs).flatMap flE) 48 3]) (L1 := [.blk wb ([.map (some z1.mo), .map (some z1.mm), VI (z1.n : Int), .bool z1.tl, .slice (hd z1.fa) z1.fs.length z1.fc, VI 0]) 70, .obj z1.mo (mobj kA z1.Mo z1.co), .obj z1.mm (mobj kA z1.Mm z1.cm), .own z1.fa z1.fs.length z1.fc ((z1.fs).flatMap flE) 48 3]) (Lr := ([.blk b27 (([.string ⟨(e24.name).toArray⟩, VI e24.kind] : List Value) ++ ((e24.of.1).map V8 ++ (([VI e24.size] : List Value)))) 54, .own a9 l11.length c10 ((l11).flatMap itE) 54 35] : List Ch)) (T := z1.T) ((perm_front (j := 2) rfl).trans (.cons _ ((perm_front (j := 2) rfl).trans (.cons _ ((perm_front (j := 2) rfl).trans (.cons _ ((perm_front (j := 2) rfl).trans (.cons _ (.refl _))))))))) Hc (.refl _)
            clear Hc
            replace H : Hp _ w _ (Ch.blk b27 (([.string ⟨(e24.name).toArray⟩, VI e24.kind] : List Value) ++ ((e24.of.1).map V8 ++ (([VI e24.size] : List Value)))) 54 :: Ch.own a9 l11.length c10 ((l11).flatMap itE) 54 35 :: Ch.blk wb ([.map (some zz35.mo), .map (some zz35.mm), VI (zz35.n : Int), .bool zz35.tl, .slice (hd zz35.fa) zz35.fs.length zz35.fc, VI ee36]) 70 :: Ch.obj zz35.mo (mobj kA zz35.Mo zz35.co) :: Ch.obj zz35.mm (mobj kA zz35.Mm zz35.cm) :: Ch.own zz35.fa zz35.fs.length zz35.fc ((zz35.fs).flatMap flE) 48 3 :: zz35.T) := H
            first | refine l_end ?_ | refine l_nil ?_
            repeat refine c_seq ?_
            refine c_region ?_; refine l_op (o_val r_mv ?_); refine l_op (o_val (r_nilc rfl) ?_); refine l_op (o_val (r_fa rfl fo70_5) ?_); refine l_op (o_val (r_ld (v := VI ee36) H (i := 2) rfl rfl ct37 rfl) ?_); refine l_op (o_val (r_bin (a := ee36) (b := 0) rfl rfl (fun _ => b_neq)) ?_); first | refine l_end ?_ | refine l_nil ?_
            by_cases hc40 : ee36 ≠ 0
            ·
             repeat refine c_seq ?_
             refine c_yes (by exact congrArg Value.bool (decide_eq_true hc40)) ?_; refine c_ret ?_; try dsimp only [Exit.then, Exit.inBlock]
             refine e_ret0 Try.results31 ?_
             refine ⟨_, rfl, ?_⟩
             have hne : ¬ ee36 = 0 := by omega
             rw [hopen, kids_stop he25 hSe (by omega) hr1.1.symm (by rw [(kid_file hpp (by omega)), ← hrr39.1]; exact hne), (kid_file hpp (by omega))]
             exact ⟨zz35, ee36, fun h => absurd h hne, htt38.trans htl1, hrr39, H.sub (.cons _ (.cons _ (.cons_cons _ (.cons_cons _ (.cons_cons _ (.cons_cons _ (List.Sublist.refl _)))))))⟩
            ·
             repeat refine c_seq ?_
             refine c_no (by exact congrArg Value.bool (decide_eq_false hc40)) ?_; refine c_skip ?_; repeat refine c_seq ?_
             refine c_region ?_; refine l_op (o_val (r_bin (a := (i : Int)) (b := 1) rfl rfl (fun _ => b_add (by omega) (by omega))) ?_); refine l_op (o_val r_mv ?_); first | refine l_end ?_ | refine l_nil ?_
             have he0 : ee36 = 0 := by omega
             subst he0
             refine round_end (i + 1, zz35) ?_ ?_ ?_
             · exact ⟨rfl, rfl, rfl, rfl, rfl, show VI ((i : Int) + 1) = VI ((i + 1 : Nat) : Int) from congrArg VI (by omega), trivial⟩
             · refine ⟨?_, ?_⟩
               · try dsimp only
                 exact ⟨by omega, hzz37 rfl, htt38.trans htl1, by rw [kids_next he25 hSe (by omega) hr1.1.symm, (kid_file hpp (by omega))]; exact hrr39⟩
               · exact H.sub (.cons _ (.cons_cons _ (.cons_cons _ (.cons_cons _ (.cons_cons _ (.cons_cons _ (List.Sublist.refl _)))))))
             · show l11.length - (i + 1 : Nat) < l11.length - i; omega
          ·
           repeat refine c_seq ?_
           refine c_no (by exact congrArg Value.bool (decide_eq_false hc21)) ?_; refine c_exit ?_; try simp only [Exit.then, Exit.inBlock, ↓reduceIte]
           refine e_norm ?_; refine e_ret0 Try.results31 ?_
           refine ⟨_, rfl, ?_⟩
           rw [List.take_of_length_le (by omega)] at hr1
           rw [hopen]
           exact ⟨z1, 0, fun _ => hz1, htl1, hr1, H.sub (.cons _ (.cons_cons _ (.cons_cons _ (.cons_cons _ (.cons_cons _ (List.Sublist.refl _))))))⟩
         ·
          refine (o_bslG1 (enc := flE) ((⟨(p).take ((((p).length : Int) - 1).toNat), true, ⟨none, 0, 0, []⟩⟩ : Fl)) H sl40 zc48 (by rfl) (by decide) (by decide) rfl (flE_len _) (fun b41 w H hb41 => ?_))
          replace H := H.rot
          replace H : Hp _ w _ (Ch.own (some b41) 1 1 (([(⟨(p).take ((((p).length : Int) - 1).toNat), true, ⟨none, 0, 0, []⟩⟩ : Fl)]).flatMap flE) 48 3 :: Ch.own a9 l11.length c10 ((l11).flatMap itE) 54 35 :: Ch.blk b1 ((k.1).map V8) 29 :: Ch.blk wb ([.map (some z.mo), .map (some z.mm), VI ((z.n + 1 : Nat) : Int), .bool z.tl, .slice (hd z.fa) z.fs.length z.fc, VI 0]) 70 :: Ch.obj z.mo (mobj kA z.Mo z.co) :: Ch.obj z.mm (mobj kA mm5 mc6) :: Ch.own z.fa z.fs.length z.fc ((z.fs).flatMap flE) 48 3 :: z.T) := H
          refine ⟨H.sub (.cons _ (.cons_cons _ (.cons_cons _ (.cons _ (.cons_cons _ (.cons_cons _ (List.nil_sublist _))))))), ?_⟩
          replace HS := H.sub (.cons _ (.cons_cons _ (.cons_cons _ (.cons _ (.cons_cons _ (.cons_cons _ (List.nil_sublist _)))))))
          refine t_step 4 rfl (by kernel_rfl) (o_val (r_ld (v := .slice (hd z.fa) z.fs.length z.fc) H (i := 3) rfl rfl ct40 rfl) ?_); refine ⟨H.sub (.cons _ (.cons_cons _ (.cons_cons _ (.cons _ (.cons_cons _ (.cons_cons _ (List.nil_sublist _))))))), ?_⟩
          replace HS := H.sub (.cons _ (.cons_cons _ (.cons_cons _ (.cons _ (.cons_cons _ (.cons_cons _ (List.nil_sublist _)))))))
          refine t_step 12 rfl (by kernel_rfl) (o_appG (enc := flE) (s := ⟨hd (some b41), 1, 1, [(⟨(p).take ((((p).length : Int) - 1).toNat), true, ⟨none, 0, 0, []⟩⟩ : Fl)]⟩) (l' := z.fs ++ ([(⟨(p).take ((((p).length : Int) - 1).toNat), true, ⟨none, 0, 0, []⟩⟩ : Fl)])) (len' := z.fs.length + 1) rfl rfl H (i := 6) rfl sl40 Try.underlying40 rfl rfl (H.glOwn (i := 0) rfl (by decide) (fun c _ => flE_len c)) (by decide) (fun c _ => flE_all c) (by omega) (by decide) (fun a42 c43 w H => ?_)); replace H : Hp _ w _ (Ch.own (some b41) 1 1 (([(⟨(p).take ((((p).length : Int) - 1).toNat), true, ⟨none, 0, 0, []⟩⟩ : Fl)]).flatMap flE) 48 3 :: Ch.own a9 l11.length c10 ((l11).flatMap itE) 54 35 :: Ch.blk b1 ((k.1).map V8) 29 :: Ch.blk wb ([.map (some z.mo), .map (some z.mm), VI ((z.n + 1 : Nat) : Int), .bool z.tl, .slice (hd z.fa) z.fs.length z.fc, VI 0]) 70 :: Ch.obj z.mo (mobj kA z.Mo z.co) :: Ch.obj z.mm (mobj kA mm5 mc6) :: Ch.own a42 (z.fs.length + 1) c43 ((z.fs ++ ([(⟨(p).take ((((p).length : Int) - 1).toNat), true, ⟨none, 0, 0, []⟩⟩ : Fl)])).flatMap flE) 48 3 :: z.T) := H
          refine ⟨H.sub (.cons _ (.cons_cons _ (.cons_cons _ (.cons _ (.cons_cons _ (.cons_cons _ (List.nil_sublist _))))))), ?_⟩
          replace HS := H.sub (.cons _ (.cons_cons _ (.cons_cons _ (.cons _ (.cons_cons _ (.cons_cons _ (List.nil_sublist _)))))))
          refine t_take 13 rfl (by kernel_rfl) (by kernel_rfl) (by kernel_rfl) (fun _ _ _ h => h) (fun w HS => r_nilc rfl) HS ?_; refine t_take 14 rfl (by kernel_rfl) (by kernel_rfl) (by kernel_rfl) (fun _ _ _ h => h) (fun w HS => r_fa rfl fo70_4) HS ?_; refine t_step 15 rfl (by kernel_rfl) (o_st (v := .slice (hd a42) (z.fs.length + 1) c43) H (i := 3) rfl rfl rfl cs40 rfl (by simp only [List.length_cons, List.length_nil]; omega) (fun w H => ?_)); replace H : Hp _ w _ (Ch.own (some b41) 1 1 (([(⟨(p).take ((((p).length : Int) - 1).toNat), true, ⟨none, 0, 0, []⟩⟩ : Fl)]).flatMap flE) 48 3 :: Ch.own a9 l11.length c10 ((l11).flatMap itE) 54 35 :: Ch.blk b1 ((k.1).map V8) 29 :: Ch.blk wb ([.map (some z.mo), .map (some z.mm), VI ((z.n + 1 : Nat) : Int), .bool z.tl, .slice (hd a42) (z.fs.length + 1) c43, VI 0]) 70 :: Ch.obj z.mo (mobj kA z.Mo z.co) :: Ch.obj z.mm (mobj kA mm5 mc6) :: Ch.own a42 (z.fs.length + 1) c43 ((z.fs ++ ([(⟨(p).take ((((p).length : Int) - 1).toNat), true, ⟨none, 0, 0, []⟩⟩ : Fl)])).flatMap flE) 48 3 :: z.T) := H
          refine ⟨H.sub (.cons _ (.cons_cons _ (.cons_cons _ (.cons _ (.cons_cons _ (.cons_cons _ (List.nil_sublist _))))))), ?_⟩
          replace HS := H.sub (.cons _ (.cons_cons _ (.cons_cons _ (.cons _ (.cons_cons _ (.cons_cons _ (List.nil_sublist _)))))))
          refine t_done (by kernel_rfl) ?_
          clear HS
          repeat refine c_seq ?_
          refine c_region ?_; refine l_op (o_val r_mv ?_); refine l_op (o_val (r_lens el52 rfl) ?_); refine l_op (o_val r_mv ?_); first | refine l_end ?_ | refine l_nil ?_
          repeat refine c_seq ?_
          refine c_block ?_; have hl1 : (z.fs ++ ([(⟨(p).take ((((p).length : Int) - 1).toNat), true, ⟨none, 0, 0, []⟩⟩ : Fl)])).length = z.fs.length + 1 := by rw [List.length_append]; rfl
          rw [← hl1] at H
          repeat refine c_seq ?_
          refine c_loop2 (fun (i : Nat) (z1 : WY) => [(0, .pointer (some ⟨wb, 0, none⟩)), (2, .string ⟨(p).toArray⟩), (3, VI (dp : Int)), (64, .slice (hd a9) l11.length c10), (65, VI (l11.length : Int)), (66, VI (i : Int))])
            (fun (i : Nat) (z1 : WY) w => (i ≤ l11.length ∧ z1.ok l ∧ z1.tl = z.tl ∧ Rel z1 0 (wlkAll (obL l) ((l11.take i).map (wkid (⟨2, k, sz, dp, tp⟩ : Todo))) S0)) ∧ Hp w0 w (keys (wch wb z 0)) (Ch.own a9 l11.length c10 ((l11).flatMap itE) 54 35 :: Ch.blk wb ([.map (some z1.mo), .map (some z1.mm), VI (z1.n : Int), .bool z1.tl, .slice (hd z1.fa) z1.fs.length z1.fc, VI 0]) 70 :: Ch.obj z1.mo (mobj kA z1.Mo z1.co) :: Ch.obj z1.mm (mobj kA z1.Mm z1.cm) :: Ch.own z1.fa z1.fs.length z1.fc ((z1.fs).flatMap flE) 48 3 :: z1.T))
            (fun (i : Nat) (z1 : WY) => l11.length - i) 0 (⟨z.mo, z.Mo, z.co, z.mm, mm5, mc6, fput z.G k ((z.G k).getD 0 + 1), (z.n + 1), z.tl, a42, c43, z.fs ++ ([(⟨(p).take ((((p).length : Int) - 1).toNat), true, ⟨none, 0, 0, []⟩⟩ : Fl)])⟩ : WY) ⟨rfl, rfl, rfl, rfl, rfl, rfl, trivial⟩ ⟨⟨Nat.zero_le _, ⟨hz.hO, hz.hOk, hmf7, hmo8, bd_put hz.bd k, by show z.n + 1 ≤ 1024; omega, fat_add (a := none) hz.fat rfl, by simp only [List.length_append, List.length_singleton]; omega⟩, rfl, by rw [List.take_zero, List.map_nil, wlkAll_nil]; exact ⟨hSe.symm, fun _ => ⟨by rw [hSm]; exact congrArg (· + 1) hrn, by rw [hSn]; exact keys_put hrg k, fun ht => by rw [hSf, if_pos ⟨List.eq_nil_of_length_eq_zero (by omega), by omega⟩, List.map_append, List.map_append, hrf ht]; exact congrArg (fun q => s.files.map Fil.key ++ [(q, true, [])]) (path_take hpp (by omega))⟩⟩⟩, (wdir_step (H.sub (.cons _ (.cons_cons _ (.cons _ (.cons_cons _ (.cons_cons _ (.cons_cons _ (.cons_cons _ (List.Sublist.refl _))))))))))⟩ ?_
          clear H
          rintro i z1 τ w ⟨⟨hil, hz1, htl1, hr1⟩, H⟩
          repeat refine c_seq ?_
          refine c_region ?_; refine l_op (o_val (r_bin (a := (i : Int)) (b := (l11.length : Int)) rfl rfl (fun _ => b_lss)) ?_); first | refine l_end ?_ | refine l_nil ?_
          by_cases hc44 : (i : Int) < (l11.length : Int)
          ·
           repeat refine c_seq ?_
           refine c_yes (by exact congrArg Value.bool (decide_eq_true hc44)) ?_; refine c_skip ?_; repeat refine c_seq ?_
           refine c_block ?_; repeat refine c_seq ?_
           refine c_region ?_; have ah46 := H.ownAddr (i := 0) rfl (by omega)
           obtain ⟨ab45, ah46⟩ := ah46
           refine l_op (o_val (r_isN i rfl rfl el52 ah46 (by omega) (by (try simp only [Sl.cut]); omega)) ?_); have he48 : ∃ c, (l11)[i]? = some c := ⟨_, List.getElem?_eq_getElem (by have := ((H.glOwn (i := 0) rfl (by decide) (fun c _ => itE_len c))).ln; (try dsimp only at this ⊢); omega)⟩
           obtain ⟨e47, he48⟩ := he48
           have hez49 := ((H.glOwn (i := 0) rfl (by decide) (fun c _ => itE_len c))).sz e47 (List.mem_of_getElem? he48)
           refine l_op (o_val (r_ldRow (s := (⟨hd a9, l11.length, c10, l11⟩ : Gl It)) (k := i) (H.glOwn (i := 0) rfl (by decide) (fun c _ => itE_len c)) ah46 rfl rt54 (by decide) he48) ?_); refine l_op (o_alloc H zc54 (fun b50 w H hb50 => ?_)); replace H := H.rot
           replace H : Hp _ w _ (Ch.blk b50 (([.string ⟨(([] : List UInt8)).toArray⟩, VI 0] : List Value) ++ ((List.replicate 32 (0 : UInt8)).map V8 ++ (([VI 0] : List Value)))) 54 :: Ch.own a9 l11.length c10 ((l11).flatMap itE) 54 35 :: Ch.blk wb ([.map (some z1.mo), .map (some z1.mm), VI (z1.n : Int), .bool z1.tl, .slice (hd z1.fa) z1.fs.length z1.fc, VI 0]) 70 :: Ch.obj z1.mo (mobj kA z1.Mo z1.co) :: Ch.obj z1.mm (mobj kA z1.Mm z1.cm) :: Ch.own z1.fa z1.fs.length z1.fc ((z1.fs).flatMap flE) 48 3 :: z1.T) := H
           refine l_op (o_stW (C' := ([.string ⟨(e47.name).toArray⟩, VI e47.kind] : List Value) ++ ((e47.of.1).map V8 ++ (([VI e47.size] : List Value)))) H (i := 0) rfl rfl rfl cs54 (by first | (simp [Value.oneCell', List.all_append, List.all_map]; done) | (simp only [List.all_append, List.all_cons, List.all_nil, List.all_map]; simp [Value.oneCell', Function.comp_def])) (by simp only [List.length_append, List.length_map, List.length_cons, List.length_nil, (show (List.replicate 32 (0 : UInt8)).length = 32 from (List.length_replicate ..))]) (by simp only [List.length_append, List.length_map, List.length_cons, List.length_nil, (show (e47.of.1).length = 32 from e47.of.2)]) (fun w H => ?_)); replace H : Hp _ w _ (Ch.blk b50 (([.string ⟨(e47.name).toArray⟩, VI e47.kind] : List Value) ++ ((e47.of.1).map V8 ++ (([VI e47.size] : List Value)))) 54 :: Ch.own a9 l11.length c10 ((l11).flatMap itE) 54 35 :: Ch.blk wb ([.map (some z1.mo), .map (some z1.mm), VI (z1.n : Int), .bool z1.tl, .slice (hd z1.fa) z1.fs.length z1.fc, VI 0]) 70 :: Ch.obj z1.mo (mobj kA z1.Mo z1.co) :: Ch.obj z1.mm (mobj kA z1.Mm z1.cm) :: Ch.own z1.fa z1.fs.length z1.fc ((z1.fs).flatMap flE) 48 3 :: z1.T) := H
           first | refine l_end ?_ | refine l_nil ?_
           have hnm := hitf e47 (List.mem_of_getElem? he48)
           have hpx : (p ++ e47.name).length = p.length + e47.name.length := List.length_append
           repeat refine c_seq ?_
           refine c_region ?_; refine l_op (o_val (r_fa rfl fo54_1) ?_); refine l_op (o_val (r_l1 (v := VI e47.kind) H (i := 0) rfl rfl ct3 (show Cut3 (([.string ⟨(e47.name).toArray⟩, VI e47.kind] : List Value) ++ ((e47.of.1).map V8 ++ (([VI e47.size] : List Value)))) (([.string ⟨(e47.name).toArray⟩] : List Value)) (([VI e47.kind] : List Value)) ((e47.of.1).map V8 ++ (([VI e47.size] : List Value))) 1 1 from ⟨(show ([.string ⟨(e47.name).toArray⟩, VI e47.kind] : List Value) ++ ((e47.of.1).map V8 ++ (([VI e47.size] : List Value))) = ([.string ⟨(e47.name).toArray⟩] : List Value) ++ ((([VI e47.kind] : List Value)) ++ ((e47.of.1).map V8 ++ (([VI e47.size] : List Value)))) from by simp only [List.cons_append, List.nil_append]), (by rfl), (by rfl)⟩)) ?_); refine l_op (o_val (r_bin (a := e47.kind) (b := 2) rfl rfl (fun _ => b_eql)) ?_); first | refine l_end ?_ | refine l_nil ?_
           by_cases hc51 : e47.kind = 2
           ·
            repeat refine c_seq ?_
            refine c_yes (by exact congrArg Value.bool (decide_eq_true hc51)) ?_; repeat refine c_seq ?_
            refine c_region ?_; refine l_op (o_val r_mv ?_); refine l_op (o_val (r_fa rfl fo54_2) ?_); refine l_op (o_val (r_lk H (i := 0) rfl rfl rt29 (show Cut3 (([.string ⟨(e47.name).toArray⟩, VI e47.kind] : List Value) ++ ((e47.of.1).map V8 ++ (([VI e47.size] : List Value)))) (([.string ⟨(e47.name).toArray⟩, VI e47.kind] : List Value)) ((e47.of.1).map V8) (([VI e47.size] : List Value)) 2 32 from ⟨(show ([.string ⟨(e47.name).toArray⟩, VI e47.kind] : List Value) ++ ((e47.of.1).map V8 ++ (([VI e47.size] : List Value))) = ([.string ⟨(e47.name).toArray⟩, VI e47.kind] : List Value) ++ (((e47.of.1).map V8) ++ (([VI e47.size] : List Value))) from by simp only [List.cons_append, List.nil_append]), (by rfl), (by simp only [List.length_map, (show (e47.of.1).length = 32 from e47.of.2)])⟩)) ?_); refine l_op (o_val r_mv ?_); refine l_op (o_val (r_fa rfl fo54_0) ?_); refine l_op (o_val (r_l1 (v := .string ⟨(e47.name).toArray⟩) H (i := 0) rfl rfl ct9 (show Cut3 (([.string ⟨(e47.name).toArray⟩, VI e47.kind] : List Value) ++ ((e47.of.1).map V8 ++ (([VI e47.size] : List Value)))) (([] : List Value)) (([.string ⟨(e47.name).toArray⟩] : List Value)) (([VI e47.kind] : List Value) ++ ((e47.of.1).map V8 ++ (([VI e47.size] : List Value)))) 0 1 from ⟨(show ([.string ⟨(e47.name).toArray⟩, VI e47.kind] : List Value) ++ ((e47.of.1).map V8 ++ (([VI e47.size] : List Value))) = ([] : List Value) ++ ((([.string ⟨(e47.name).toArray⟩] : List Value)) ++ (([VI e47.kind] : List Value) ++ ((e47.of.1).map V8 ++ (([VI e47.size] : List Value))))) from by simp only [List.cons_append, List.nil_append]), (by rfl), (by rfl)⟩)) ?_); refine l_op (o_val (r_stradd (a := p) (b := e47.name) rfl rfl (by (try simp only [List.length_cons, List.length_nil]); omega)) ?_); refine l_op (o_val (r_stradd (a := p ++ e47.name) (b := ([47] : List UInt8)) rfl rfl (by (try simp only [List.length_cons, List.length_nil]); omega)) ?_); refine l_op (o_val r_mv ?_); refine l_op (o_val (r_bin (a := (dp : Int)) (b := 1) rfl rfl (fun _ => b_add (by omega) (by omega))) ?_); refine l_op (o_callR Try.func31 rfl rfl rfl (hi (by omega) _ wb z1 (H.ownT (L := [.blk b50 (([.string ⟨(e47.name).toArray⟩, VI e47.kind] : List Value) ++ ((e47.of.1).map V8 ++ (([VI e47.size] : List Value)))) 54, .own a9 l11.length c10 ((l11).flatMap itE) 54 35, .blk wb ([.map (some z1.mo), .map (some z1.mm), VI (z1.n : Int), .bool z1.tl, .slice (hd z1.fa) z1.fs.length z1.fc, VI 0]) 70, .obj z1.mo (mobj kA z1.Mo z1.co), .obj z1.mm (mobj kA z1.Mm z1.cm), .own z1.fa z1.fs.length z1.fc ((z1.fs).flatMap flE) 48 3]) (L1 := [.blk wb ([.map (some z1.mo), .map (some z1.mm), VI (z1.n : Int), .bool z1.tl, .slice (hd z1.fa) z1.fs.length z1.fc, VI 0]) 70, .obj z1.mo (mobj kA z1.Mo z1.co), .obj z1.mm (mobj kA z1.Mm z1.cm), .own z1.fa z1.fs.length z1.fc ((z1.fs).flatMap flE) 48 3]) (Lr := ([.blk b50 (([.string ⟨(e47.name).toArray⟩, VI e47.kind] : List Value) ++ ((e47.of.1).map V8 ++ (([VI e47.size] : List Value)))) 54, .own a9 l11.length c10 ((l11).flatMap itE) 54 35] : List Ch)) (T := z1.T) ((perm_front (j := 2) rfl).trans (.cons _ ((perm_front (j := 2) rfl).trans (.cons _ ((perm_front (j := 2) rfl).trans (.cons _ ((perm_front (j := 2) rfl).trans (.cons _ (.refl _)))))))))) hz1 (ho_up ho hap H) (ap_turn hap ho H (L := [.blk b50 (([.string ⟨(e47.name).toArray⟩, VI e47.kind] : List Value) ++ ((e47.of.1).map V8 ++ (([VI e47.size] : List Value)))) 54, .own a9 l11.length c10 ((l11).flatMap itE) 54 35, .blk wb ([.map (some z1.mo), .map (some z1.mm), VI (z1.n : Int), .bool z1.tl, .slice (hd z1.fa) z1.fs.length z1.fc, VI 0]) 70, .obj z1.mo (mobj kA z1.Mo z1.co), .obj z1.mm (mobj kA z1.Mm z1.cm), .own z1.fa z1.fs.length z1.fc ((z1.fs).flatMap flE) 48 3]) (L1 := [.blk wb ([.map (some z1.mo), .map (some z1.mm), VI (z1.n : Int), .bool z1.tl, .slice (hd z1.fa) z1.fs.length z1.fc, VI 0]) 70, .obj z1.mo (mobj kA z1.Mo z1.co), .obj z1.mm (mobj kA z1.Mm z1.cm), .own z1.fa z1.fs.length z1.fc ((z1.fs).flatMap flE) 48 3]) (Lr := ([.blk b50 (([.string ⟨(e47.name).toArray⟩, VI e47.kind] : List Value) ++ ((e47.of.1).map V8 ++ (([VI e47.size] : List Value)))) 54, .own a9 l11.length c10 ((l11).flatMap itE) 54 35] : List Ch)) (T := z1.T) ((perm_front (j := 2) rfl).trans (.cons _ ((perm_front (j := 2) rfl).trans (.cons _ ((perm_front (j := 2) rfl).trans (.cons _ ((perm_front (j := 2) rfl).trans (.cons _ (.refl _)))))))))) _ hr1 e47.of e47.size (wkid (⟨2, k, sz, dp, tp⟩ : Todo) e47).path ((p ++ e47.name) ++ ([47] : List UInt8)) (kid_path hpp h1) (by have := hnm.1; simp only [List.length_append, List.length_singleton]; omega)) ?_)
            rintro _ w ⟨zz52, ee53, hzz54, htt55, hrr56, Hc⟩
            replace H := H.callT (L1' := [.blk wb ([.map (some zz52.mo), .map (some zz52.mm), VI (zz52.n : Int), .bool zz52.tl, .slice (hd zz52.fa) zz52.fs.length zz52.fc, VI ee53]) 70, .obj zz52.mo (mobj kA zz52.Mo zz52.co), .obj zz52.mm (mobj kA zz52.Mm zz52.cm), .own zz52.fa zz52.fs.length zz52.fc ((zz52.fs).flatMap flE) 48 3]) (T' := zz52.T) (L := [.blk b50 (([.string ⟨(e47.name).toArray⟩, VI e47.kind] : List Value) ++ ((e47.of.1).map V8 ++ (([VI e47.size] : List Value)))) 54, .own a9 l11.length c10 ((l11).flatMap itE) 54 35, .blk wb ([.map (some z1.mo), .map (some z1.mm), VI (z1.n : Int), .bool z1.tl, .slice (hd z1.fa) z1.fs.length z1.fc, VI 0]) 70, .obj z1.mo (mobj kA z1.Mo z1.co), .obj z1.mm (mobj kA z1.Mm z1.cm), .own z1.fa z1.fs.length z1.fc ((z1.fs).flatMap flE) 48 3]) (L1 := [.blk wb ([.map (some z1.mo), .map (some z1.mm), VI (z1.n : Int), .bool z1.tl, .slice (hd z1.fa) z1.fs.length z1.fc, VI 0]) 70, .obj z1.mo (mobj kA z1.Mo z1.co), .obj z1.mm (mobj kA z1.Mm z1.cm), .own z1.fa z1.fs.length z1.fc ((z1.fs).flatMap flE) 48 3]) (Lr := ([.blk b50 (([.string ⟨(e47.name).toArray⟩, VI e47.kind] : List Value) ++ ((e47.of.1).map V8 ++ (([VI e47.size] : List Value)))) 54, .own a9 l11.length c10 ((l11).flatMap itE) 54 35] : List Ch)) (T := z1.T) ((perm_front (j := 2) rfl).trans (.cons _ ((perm_front (j := 2) rfl).trans (.cons _ ((perm_front (j := 2) rfl).trans (.cons _ ((perm_front (j := 2) rfl).trans (.cons _ (.refl _))))))))) Hc (.refl _)
            clear Hc
            replace H : Hp _ w _ (Ch.blk b50 (([.string ⟨(e47.name).toArray⟩, VI e47.kind] : List Value) ++ ((e47.of.1).map V8 ++ (([VI e47.size] : List Value)))) 54 :: Ch.own a9 l11.length c10 ((l11).flatMap itE) 54 35 :: Ch.blk wb ([.map (some zz52.mo), .map (some zz52.mm), VI (zz52.n : Int), .bool zz52.tl, .slice (hd zz52.fa) zz52.fs.length zz52.fc, VI ee53]) 70 :: Ch.obj zz52.mo (mobj kA zz52.Mo zz52.co) :: Ch.obj zz52.mm (mobj kA zz52.Mm zz52.cm) :: Ch.own zz52.fa zz52.fs.length zz52.fc ((zz52.fs).flatMap flE) 48 3 :: zz52.T) := H
            first | refine l_end ?_ | refine l_nil ?_
            repeat refine c_seq ?_
            refine c_region ?_; refine l_op (o_val r_mv ?_); refine l_op (o_val (r_nilc rfl) ?_); refine l_op (o_val (r_fa rfl fo70_5) ?_); refine l_op (o_val (r_ld (v := VI ee53) H (i := 2) rfl rfl ct37 rfl) ?_); refine l_op (o_val (r_bin (a := ee53) (b := 0) rfl rfl (fun _ => b_neq)) ?_); first | refine l_end ?_ | refine l_nil ?_
            by_cases hc57 : ee53 ≠ 0
            ·
             repeat refine c_seq ?_
             refine c_yes (by exact congrArg Value.bool (decide_eq_true hc57)) ?_; refine c_ret ?_; try dsimp only [Exit.then, Exit.inBlock]
             refine e_ret0 Try.results31 ?_
             refine ⟨_, rfl, ?_⟩
             have hne : ¬ ee53 = 0 := by omega
             rw [hopen, kids_stop he48 hSe (by omega) hr1.1.symm (by rw [(kid_dir (by omega)), ← hrr56.1]; exact hne), (kid_dir (by omega))]
             exact ⟨zz52, ee53, fun h => absurd h hne, htt55.trans htl1, hrr56, H.sub (.cons _ (.cons _ (.cons_cons _ (.cons_cons _ (.cons_cons _ (.cons_cons _ (List.Sublist.refl _)))))))⟩
            ·
             repeat refine c_seq ?_
             refine c_no (by exact congrArg Value.bool (decide_eq_false hc57)) ?_; refine c_skip ?_; repeat refine c_seq ?_
             refine c_region ?_; refine l_op (o_val (r_bin (a := (i : Int)) (b := 1) rfl rfl (fun _ => b_add (by omega) (by omega))) ?_); refine l_op (o_val r_mv ?_); first | refine l_end ?_ | refine l_nil ?_
             have he0 : ee53 = 0 := by omega
             subst he0
             refine round_end (i + 1, zz52) ?_ ?_ ?_
             · exact ⟨rfl, rfl, rfl, rfl, rfl, show VI ((i : Int) + 1) = VI ((i + 1 : Nat) : Int) from congrArg VI (by omega), trivial⟩
             · refine ⟨?_, ?_⟩
               · try dsimp only
                 exact ⟨by omega, hzz54 rfl, htt55.trans htl1, by rw [kids_next he48 hSe (by omega) hr1.1.symm, (kid_dir (by omega))]; exact hrr56⟩
               · exact H.sub (.cons _ (.cons_cons _ (.cons_cons _ (.cons_cons _ (.cons_cons _ (.cons_cons _ (List.Sublist.refl _)))))))
             · show l11.length - (i + 1 : Nat) < l11.length - i; omega
           ·
            repeat refine c_seq ?_
            refine c_no (by exact congrArg Value.bool (decide_eq_false hc51)) ?_; repeat refine c_seq ?_
            refine c_region ?_; refine l_op (o_val r_mv ?_); refine l_op (o_val (r_ldA (C := ([.string ⟨(e47.name).toArray⟩, VI e47.kind] : List Value) ++ ((e47.of.1).map V8 ++ (([VI e47.size] : List Value)))) H (i := 0) rfl rfl rt54 (by simp only [List.length_append, List.length_map, List.length_cons, List.length_nil, (show (e47.of.1).length = 32 from e47.of.2)])) ?_); refine l_op (o_val r_mv ?_); refine l_op (o_callR Try.func48 rfl rfl rfl (wfile_ret _ l wb z1 (H.ownT (L := [.blk b50 (([.string ⟨(e47.name).toArray⟩, VI e47.kind] : List Value) ++ ((e47.of.1).map V8 ++ (([VI e47.size] : List Value)))) 54, .own a9 l11.length c10 ((l11).flatMap itE) 54 35, .blk wb ([.map (some z1.mo), .map (some z1.mm), VI (z1.n : Int), .bool z1.tl, .slice (hd z1.fa) z1.fs.length z1.fc, VI 0]) 70, .obj z1.mo (mobj kA z1.Mo z1.co), .obj z1.mm (mobj kA z1.Mm z1.cm), .own z1.fa z1.fs.length z1.fc ((z1.fs).flatMap flE) 48 3]) (L1 := [.blk wb ([.map (some z1.mo), .map (some z1.mm), VI (z1.n : Int), .bool z1.tl, .slice (hd z1.fa) z1.fs.length z1.fc, VI 0]) 70, .obj z1.mo (mobj kA z1.Mo z1.co), .obj z1.mm (mobj kA z1.Mm z1.cm), .own z1.fa z1.fs.length z1.fc ((z1.fs).flatMap flE) 48 3]) (Lr := ([.blk b50 (([.string ⟨(e47.name).toArray⟩, VI e47.kind] : List Value) ++ ((e47.of.1).map V8 ++ (([VI e47.size] : List Value)))) 54, .own a9 l11.length c10 ((l11).flatMap itE) 54 35] : List Ch)) (T := z1.T) ((perm_front (j := 2) rfl).trans (.cons _ ((perm_front (j := 2) rfl).trans (.cons _ ((perm_front (j := 2) rfl).trans (.cons _ ((perm_front (j := 2) rfl).trans (.cons _ (.refl _)))))))))) hz1 (ho_up ho hap H) (ap_turn hap ho H (L := [.blk b50 (([.string ⟨(e47.name).toArray⟩, VI e47.kind] : List Value) ++ ((e47.of.1).map V8 ++ (([VI e47.size] : List Value)))) 54, .own a9 l11.length c10 ((l11).flatMap itE) 54 35, .blk wb ([.map (some z1.mo), .map (some z1.mm), VI (z1.n : Int), .bool z1.tl, .slice (hd z1.fa) z1.fs.length z1.fc, VI 0]) 70, .obj z1.mo (mobj kA z1.Mo z1.co), .obj z1.mm (mobj kA z1.Mm z1.cm), .own z1.fa z1.fs.length z1.fc ((z1.fs).flatMap flE) 48 3]) (L1 := [.blk wb ([.map (some z1.mo), .map (some z1.mm), VI (z1.n : Int), .bool z1.tl, .slice (hd z1.fa) z1.fs.length z1.fc, VI 0]) 70, .obj z1.mo (mobj kA z1.Mo z1.co), .obj z1.mm (mobj kA z1.Mm z1.cm), .own z1.fa z1.fs.length z1.fc ((z1.fs).flatMap flE) 48 3]) (Lr := ([.blk b50 (([.string ⟨(e47.name).toArray⟩, VI e47.kind] : List Value) ++ ((e47.of.1).map V8 ++ (([VI e47.size] : List Value)))) 54, .own a9 l11.length c10 ((l11).flatMap itE) 54 35] : List Ch)) (T := z1.T) ((perm_front (j := 2) rfl).trans (.cons _ ((perm_front (j := 2) rfl).trans (.cons _ ((perm_front (j := 2) rfl).trans (.cons _ ((perm_front (j := 2) rfl).trans (.cons _ (.refl _)))))))))) _ hr1 e47 p (dp + 1) (by have := hnm.1; omega)) ?_); rintro _ w ⟨zz58, ee59, hzz60, htt61, hrr62, Hc⟩
            replace H := H.callT (L1' := [.blk wb ([.map (some zz58.mo), .map (some zz58.mm), VI (zz58.n : Int), .bool zz58.tl, .slice (hd zz58.fa) zz58.fs.length zz58.fc, VI ee59]) 70, .obj zz58.mo (mobj kA zz58.Mo zz58.co), .obj zz58.mm (mobj kA zz58.Mm zz58.cm), .own zz58.fa zz58.fs.length zz58.fc ((zz58.fs).flatMap flE) 48 3]) (T' := zz58.T) (L := [.blk b50 (([.string ⟨(e47.name).toArray⟩, VI e47.kind] : List Value) ++ ((e47.of.1).map V8 ++ (([VI e47.size] : List Value)))) 54, .own a9 l11.length c10 ((l11).flatMap itE) 54 35, .blk wb ([.map (some z1.mo), .map (some z1.mm), VI (z1.n : Int), .bool z1.tl, .slice (hd z1.fa) z1.fs.length z1.fc, VI 0]) 70, .obj z1.mo (mobj kA z1.Mo z1.co), .obj z1.mm (mobj kA z1.Mm z1.cm), .own z1.fa z1.fs.length z1.fc ((z1.fs).flatMap flE) 48 3]) (L1 := [.blk wb ([.map (some z1.mo), .map (some z1.mm), VI (z1.n : Int), .bool z1.tl, .slice (hd z1.fa) z1.fs.length z1.fc, VI 0]) 70, .obj z1.mo (mobj kA z1.Mo z1.co), .obj z1.mm (mobj kA z1.Mm z1.cm), .own z1.fa z1.fs.length z1.fc ((z1.fs).flatMap flE) 48 3]) (Lr := ([.blk b50 (([.string ⟨(e47.name).toArray⟩, VI e47.kind] : List Value) ++ ((e47.of.1).map V8 ++ (([VI e47.size] : List Value)))) 54, .own a9 l11.length c10 ((l11).flatMap itE) 54 35] : List Ch)) (T := z1.T) ((perm_front (j := 2) rfl).trans (.cons _ ((perm_front (j := 2) rfl).trans (.cons _ ((perm_front (j := 2) rfl).trans (.cons _ ((perm_front (j := 2) rfl).trans (.cons _ (.refl _))))))))) Hc (.refl _)
            clear Hc
            replace H : Hp _ w _ (Ch.blk b50 (([.string ⟨(e47.name).toArray⟩, VI e47.kind] : List Value) ++ ((e47.of.1).map V8 ++ (([VI e47.size] : List Value)))) 54 :: Ch.own a9 l11.length c10 ((l11).flatMap itE) 54 35 :: Ch.blk wb ([.map (some zz58.mo), .map (some zz58.mm), VI (zz58.n : Int), .bool zz58.tl, .slice (hd zz58.fa) zz58.fs.length zz58.fc, VI ee59]) 70 :: Ch.obj zz58.mo (mobj kA zz58.Mo zz58.co) :: Ch.obj zz58.mm (mobj kA zz58.Mm zz58.cm) :: Ch.own zz58.fa zz58.fs.length zz58.fc ((zz58.fs).flatMap flE) 48 3 :: zz58.T) := H
            first | refine l_end ?_ | refine l_nil ?_
            repeat refine c_seq ?_
            refine c_region ?_; refine l_op (o_val r_mv ?_); refine l_op (o_val (r_nilc rfl) ?_); refine l_op (o_val (r_fa rfl fo70_5) ?_); refine l_op (o_val (r_ld (v := VI ee59) H (i := 2) rfl rfl ct37 rfl) ?_); refine l_op (o_val (r_bin (a := ee59) (b := 0) rfl rfl (fun _ => b_neq)) ?_); first | refine l_end ?_ | refine l_nil ?_
            by_cases hc63 : ee59 ≠ 0
            ·
             repeat refine c_seq ?_
             refine c_yes (by exact congrArg Value.bool (decide_eq_true hc63)) ?_; refine c_ret ?_; try dsimp only [Exit.then, Exit.inBlock]
             refine e_ret0 Try.results31 ?_
             refine ⟨_, rfl, ?_⟩
             have hne : ¬ ee59 = 0 := by omega
             rw [hopen, kids_stop he48 hSe (by omega) hr1.1.symm (by rw [(kid_file hpp (by omega)), ← hrr62.1]; exact hne), (kid_file hpp (by omega))]
             exact ⟨zz58, ee59, fun h => absurd h hne, htt61.trans htl1, hrr62, H.sub (.cons _ (.cons _ (.cons_cons _ (.cons_cons _ (.cons_cons _ (.cons_cons _ (List.Sublist.refl _)))))))⟩
            ·
             repeat refine c_seq ?_
             refine c_no (by exact congrArg Value.bool (decide_eq_false hc63)) ?_; refine c_skip ?_; repeat refine c_seq ?_
             refine c_region ?_; refine l_op (o_val (r_bin (a := (i : Int)) (b := 1) rfl rfl (fun _ => b_add (by omega) (by omega))) ?_); refine l_op (o_val r_mv ?_); first | refine l_end ?_ | refine l_nil ?_
             have he0 : ee59 = 0 := by omega
             subst he0
             refine round_end (i + 1, zz58) ?_ ?_ ?_
             · exact ⟨rfl, rfl, rfl, rfl, rfl, show VI ((i : Int) + 1) = VI ((i + 1 : Nat) : Int) from congrArg VI (by omega), trivial⟩
             · refine ⟨?_, ?_⟩
               · try dsimp only
                 exact ⟨by omega, hzz60 rfl, htt61.trans htl1, by rw [kids_next he48 hSe (by omega) hr1.1.symm, (kid_file hpp (by omega))]; exact hrr62⟩
               · exact H.sub (.cons _ (.cons_cons _ (.cons_cons _ (.cons_cons _ (.cons_cons _ (.cons_cons _ (List.Sublist.refl _)))))))
             · show l11.length - (i + 1 : Nat) < l11.length - i; omega
          ·
           repeat refine c_seq ?_
           refine c_no (by exact congrArg Value.bool (decide_eq_false hc44)) ?_; refine c_exit ?_; try simp only [Exit.then, Exit.inBlock, ↓reduceIte]
           refine e_norm ?_; refine e_ret0 Try.results31 ?_
           refine ⟨_, rfl, ?_⟩
           rw [List.take_of_length_le (by omega)] at hr1
           rw [hopen]
           exact ⟨z1, 0, fun _ => hz1, htl1, hr1, H.sub (.cons _ (.cons_cons _ (.cons_cons _ (.cons_cons _ (.cons_cons _ (List.Sublist.refl _))))))⟩
        ·
         repeat refine c_seq ?_
         refine c_no (by exact congrArg Value.bool hc17) ?_; refine c_skip ?_; repeat refine c_seq ?_
         refine c_region ?_; refine l_op (o_val r_mv ?_); refine l_op (o_val (r_lens el52 rfl) ?_); refine l_op (o_val r_mv ?_); first | refine l_end ?_ | refine l_nil ?_
         repeat refine c_seq ?_
         refine c_block ?_; repeat refine c_seq ?_
         refine c_loop2 (fun (i : Nat) (z1 : WY) => [(0, .pointer (some ⟨wb, 0, none⟩)), (2, .string ⟨(p).toArray⟩), (3, VI (dp : Int)), (64, .slice (hd a9) l11.length c10), (65, VI (l11.length : Int)), (66, VI (i : Int))])
           (fun (i : Nat) (z1 : WY) w => (i ≤ l11.length ∧ z1.ok l ∧ z1.tl = z.tl ∧ Rel z1 0 (wlkAll (obL l) ((l11.take i).map (wkid (⟨2, k, sz, dp, tp⟩ : Todo))) S0)) ∧ Hp w0 w (keys (wch wb z 0)) (Ch.own a9 l11.length c10 ((l11).flatMap itE) 54 35 :: Ch.blk wb ([.map (some z1.mo), .map (some z1.mm), VI (z1.n : Int), .bool z1.tl, .slice (hd z1.fa) z1.fs.length z1.fc, VI 0]) 70 :: Ch.obj z1.mo (mobj kA z1.Mo z1.co) :: Ch.obj z1.mm (mobj kA z1.Mm z1.cm) :: Ch.own z1.fa z1.fs.length z1.fc ((z1.fs).flatMap flE) 48 3 :: z1.T))
           (fun (i : Nat) (z1 : WY) => l11.length - i) 0 (⟨z.mo, z.Mo, z.co, z.mm, mm5, mc6, fput z.G k ((z.G k).getD 0 + 1), (z.n + 1), z.tl, z.fa, z.fc, z.fs⟩ : WY) ⟨rfl, rfl, rfl, rfl, rfl, rfl, trivial⟩ ⟨⟨Nat.zero_le _, ⟨hz.hO, hz.hOk, hmf7, hmo8, bd_put hz.bd k, by show z.n + 1 ≤ 1024; omega, hz.fat, by show z.fs.length ≤ z.n + 1; omega⟩, rfl, by rw [List.take_zero, List.map_nil, wlkAll_nil]; exact ⟨hSe.symm, fun _ => ⟨by rw [hSm]; exact congrArg (· + 1) hrn, by rw [hSn]; exact keys_put hrg k, fun ht => by rw [hSf, if_neg (by rintro ⟨h1, h2⟩; first | (have h3 := congrArg List.length h1; rw [List.length_nil] at h3; omega) | omega | exact absurd (show z.tl = true from ht) (by rw [hc17]; decide)), List.append_nil]; exact hrf ht⟩⟩⟩, (H.sub (.cons_cons _ (.cons _ (.cons_cons _ (.cons_cons _ (.cons_cons _ (.cons_cons _ (List.Sublist.refl _))))))))⟩ ?_
         clear H
         rintro i z1 τ w ⟨⟨hil, hz1, htl1, hr1⟩, H⟩
         repeat refine c_seq ?_
         refine c_region ?_; refine l_op (o_val (r_bin (a := (i : Int)) (b := (l11.length : Int)) rfl rfl (fun _ => b_lss)) ?_); first | refine l_end ?_ | refine l_nil ?_
         by_cases hc64 : (i : Int) < (l11.length : Int)
         ·
          repeat refine c_seq ?_
          refine c_yes (by exact congrArg Value.bool (decide_eq_true hc64)) ?_; refine c_skip ?_; repeat refine c_seq ?_
          refine c_block ?_; repeat refine c_seq ?_
          refine c_region ?_; have ah66 := H.ownAddr (i := 0) rfl (by omega)
          obtain ⟨ab65, ah66⟩ := ah66
          refine l_op (o_val (r_isN i rfl rfl el52 ah66 (by omega) (by (try simp only [Sl.cut]); omega)) ?_); have he68 : ∃ c, (l11)[i]? = some c := ⟨_, List.getElem?_eq_getElem (by have := ((H.glOwn (i := 0) rfl (by decide) (fun c _ => itE_len c))).ln; (try dsimp only at this ⊢); omega)⟩
          obtain ⟨e67, he68⟩ := he68
          have hez69 := ((H.glOwn (i := 0) rfl (by decide) (fun c _ => itE_len c))).sz e67 (List.mem_of_getElem? he68)
          refine l_op (o_val (r_ldRow (s := (⟨hd a9, l11.length, c10, l11⟩ : Gl It)) (k := i) (H.glOwn (i := 0) rfl (by decide) (fun c _ => itE_len c)) ah66 rfl rt54 (by decide) he68) ?_); refine l_op (o_alloc H zc54 (fun b70 w H hb70 => ?_)); replace H := H.rot
          replace H : Hp _ w _ (Ch.blk b70 (([.string ⟨(([] : List UInt8)).toArray⟩, VI 0] : List Value) ++ ((List.replicate 32 (0 : UInt8)).map V8 ++ (([VI 0] : List Value)))) 54 :: Ch.own a9 l11.length c10 ((l11).flatMap itE) 54 35 :: Ch.blk wb ([.map (some z1.mo), .map (some z1.mm), VI (z1.n : Int), .bool z1.tl, .slice (hd z1.fa) z1.fs.length z1.fc, VI 0]) 70 :: Ch.obj z1.mo (mobj kA z1.Mo z1.co) :: Ch.obj z1.mm (mobj kA z1.Mm z1.cm) :: Ch.own z1.fa z1.fs.length z1.fc ((z1.fs).flatMap flE) 48 3 :: z1.T) := H
          refine l_op (o_stW (C' := ([.string ⟨(e67.name).toArray⟩, VI e67.kind] : List Value) ++ ((e67.of.1).map V8 ++ (([VI e67.size] : List Value)))) H (i := 0) rfl rfl rfl cs54 (by first | (simp [Value.oneCell', List.all_append, List.all_map]; done) | (simp only [List.all_append, List.all_cons, List.all_nil, List.all_map]; simp [Value.oneCell', Function.comp_def])) (by simp only [List.length_append, List.length_map, List.length_cons, List.length_nil, (show (List.replicate 32 (0 : UInt8)).length = 32 from (List.length_replicate ..))]) (by simp only [List.length_append, List.length_map, List.length_cons, List.length_nil, (show (e67.of.1).length = 32 from e67.of.2)]) (fun w H => ?_)); replace H : Hp _ w _ (Ch.blk b70 (([.string ⟨(e67.name).toArray⟩, VI e67.kind] : List Value) ++ ((e67.of.1).map V8 ++ (([VI e67.size] : List Value)))) 54 :: Ch.own a9 l11.length c10 ((l11).flatMap itE) 54 35 :: Ch.blk wb ([.map (some z1.mo), .map (some z1.mm), VI (z1.n : Int), .bool z1.tl, .slice (hd z1.fa) z1.fs.length z1.fc, VI 0]) 70 :: Ch.obj z1.mo (mobj kA z1.Mo z1.co) :: Ch.obj z1.mm (mobj kA z1.Mm z1.cm) :: Ch.own z1.fa z1.fs.length z1.fc ((z1.fs).flatMap flE) 48 3 :: z1.T) := H
          first | refine l_end ?_ | refine l_nil ?_
          have hnm := hitf e67 (List.mem_of_getElem? he68)
          have hpx : (p ++ e67.name).length = p.length + e67.name.length := List.length_append
          repeat refine c_seq ?_
          refine c_region ?_; refine l_op (o_val (r_fa rfl fo54_1) ?_); refine l_op (o_val (r_l1 (v := VI e67.kind) H (i := 0) rfl rfl ct3 (show Cut3 (([.string ⟨(e67.name).toArray⟩, VI e67.kind] : List Value) ++ ((e67.of.1).map V8 ++ (([VI e67.size] : List Value)))) (([.string ⟨(e67.name).toArray⟩] : List Value)) (([VI e67.kind] : List Value)) ((e67.of.1).map V8 ++ (([VI e67.size] : List Value))) 1 1 from ⟨(show ([.string ⟨(e67.name).toArray⟩, VI e67.kind] : List Value) ++ ((e67.of.1).map V8 ++ (([VI e67.size] : List Value))) = ([.string ⟨(e67.name).toArray⟩] : List Value) ++ ((([VI e67.kind] : List Value)) ++ ((e67.of.1).map V8 ++ (([VI e67.size] : List Value)))) from by simp only [List.cons_append, List.nil_append]), (by rfl), (by rfl)⟩)) ?_); refine l_op (o_val (r_bin (a := e67.kind) (b := 2) rfl rfl (fun _ => b_eql)) ?_); first | refine l_end ?_ | refine l_nil ?_
          by_cases hc71 : e67.kind = 2
          ·
           repeat refine c_seq ?_
           refine c_yes (by exact congrArg Value.bool (decide_eq_true hc71)) ?_; repeat refine c_seq ?_
           refine c_region ?_; refine l_op (o_val r_mv ?_); refine l_op (o_val (r_fa rfl fo54_2) ?_); refine l_op (o_val (r_lk H (i := 0) rfl rfl rt29 (show Cut3 (([.string ⟨(e67.name).toArray⟩, VI e67.kind] : List Value) ++ ((e67.of.1).map V8 ++ (([VI e67.size] : List Value)))) (([.string ⟨(e67.name).toArray⟩, VI e67.kind] : List Value)) ((e67.of.1).map V8) (([VI e67.size] : List Value)) 2 32 from ⟨(show ([.string ⟨(e67.name).toArray⟩, VI e67.kind] : List Value) ++ ((e67.of.1).map V8 ++ (([VI e67.size] : List Value))) = ([.string ⟨(e67.name).toArray⟩, VI e67.kind] : List Value) ++ (((e67.of.1).map V8) ++ (([VI e67.size] : List Value))) from by simp only [List.cons_append, List.nil_append]), (by rfl), (by simp only [List.length_map, (show (e67.of.1).length = 32 from e67.of.2)])⟩)) ?_); refine l_op (o_val r_mv ?_); refine l_op (o_val (r_fa rfl fo54_0) ?_); refine l_op (o_val (r_l1 (v := .string ⟨(e67.name).toArray⟩) H (i := 0) rfl rfl ct9 (show Cut3 (([.string ⟨(e67.name).toArray⟩, VI e67.kind] : List Value) ++ ((e67.of.1).map V8 ++ (([VI e67.size] : List Value)))) (([] : List Value)) (([.string ⟨(e67.name).toArray⟩] : List Value)) (([VI e67.kind] : List Value) ++ ((e67.of.1).map V8 ++ (([VI e67.size] : List Value)))) 0 1 from ⟨(show ([.string ⟨(e67.name).toArray⟩, VI e67.kind] : List Value) ++ ((e67.of.1).map V8 ++ (([VI e67.size] : List Value))) = ([] : List Value) ++ ((([.string ⟨(e67.name).toArray⟩] : List Value)) ++ (([VI e67.kind] : List Value) ++ ((e67.of.1).map V8 ++ (([VI e67.size] : List Value))))) from by simp only [List.cons_append, List.nil_append]), (by rfl), (by rfl)⟩)) ?_); refine l_op (o_val (r_stradd (a := p) (b := e67.name) rfl rfl (by (try simp only [List.length_cons, List.length_nil]); omega)) ?_); refine l_op (o_val (r_stradd (a := p ++ e67.name) (b := ([47] : List UInt8)) rfl rfl (by (try simp only [List.length_cons, List.length_nil]); omega)) ?_); refine l_op (o_val r_mv ?_); refine l_op (o_val (r_bin (a := (dp : Int)) (b := 1) rfl rfl (fun _ => b_add (by omega) (by omega))) ?_); refine l_op (o_callR Try.func31 rfl rfl rfl (hi (by omega) _ wb z1 (H.ownT (L := [.blk b70 (([.string ⟨(e67.name).toArray⟩, VI e67.kind] : List Value) ++ ((e67.of.1).map V8 ++ (([VI e67.size] : List Value)))) 54, .own a9 l11.length c10 ((l11).flatMap itE) 54 35, .blk wb ([.map (some z1.mo), .map (some z1.mm), VI (z1.n : Int), .bool z1.tl, .slice (hd z1.fa) z1.fs.length z1.fc, VI 0]) 70, .obj z1.mo (mobj kA z1.Mo z1.co), .obj z1.mm (mobj kA z1.Mm z1.cm), .own z1.fa z1.fs.length z1.fc ((z1.fs).flatMap flE) 48 3]) (L1 := [.blk wb ([.map (some z1.mo), .map (some z1.mm), VI (z1.n : Int), .bool z1.tl, .slice (hd z1.fa) z1.fs.length z1.fc, VI 0]) 70, .obj z1.mo (mobj kA z1.Mo z1.co), .obj z1.mm (mobj kA z1.Mm z1.cm), .own z1.fa z1.fs.length z1.fc ((z1.fs).flatMap flE) 48 3]) (Lr := ([.blk b70 (([.string ⟨(e67.name).toArray⟩, VI e67.kind] : List Value) ++ ((e67.of.1).map V8 ++ (([VI e67.size] : List Value)))) 54, .own a9 l11.length c10 ((l11).flatMap itE) 54 35] : List Ch)) (T := z1.T) ((perm_front (j := 2) rfl).trans (.cons _ ((perm_front (j := 2) rfl).trans (.cons _ ((perm_front (j := 2) rfl).trans (.cons _ ((perm_front (j := 2) rfl).trans (.cons _ (.refl _)))))))))) hz1 (ho_up ho hap H) (ap_turn hap ho H (L := [.blk b70 (([.string ⟨(e67.name).toArray⟩, VI e67.kind] : List Value) ++ ((e67.of.1).map V8 ++ (([VI e67.size] : List Value)))) 54, .own a9 l11.length c10 ((l11).flatMap itE) 54 35, .blk wb ([.map (some z1.mo), .map (some z1.mm), VI (z1.n : Int), .bool z1.tl, .slice (hd z1.fa) z1.fs.length z1.fc, VI 0]) 70, .obj z1.mo (mobj kA z1.Mo z1.co), .obj z1.mm (mobj kA z1.Mm z1.cm), .own z1.fa z1.fs.length z1.fc ((z1.fs).flatMap flE) 48 3]) (L1 := [.blk wb ([.map (some z1.mo), .map (some z1.mm), VI (z1.n : Int), .bool z1.tl, .slice (hd z1.fa) z1.fs.length z1.fc, VI 0]) 70, .obj z1.mo (mobj kA z1.Mo z1.co), .obj z1.mm (mobj kA z1.Mm z1.cm), .own z1.fa z1.fs.length z1.fc ((z1.fs).flatMap flE) 48 3]) (Lr := ([.blk b70 (([.string ⟨(e67.name).toArray⟩, VI e67.kind] : List Value) ++ ((e67.of.1).map V8 ++ (([VI e67.size] : List Value)))) 54, .own a9 l11.length c10 ((l11).flatMap itE) 54 35] : List Ch)) (T := z1.T) ((perm_front (j := 2) rfl).trans (.cons _ ((perm_front (j := 2) rfl).trans (.cons _ ((perm_front (j := 2) rfl).trans (.cons _ ((perm_front (j := 2) rfl).trans (.cons _ (.refl _)))))))))) _ hr1 e67.of e67.size (wkid (⟨2, k, sz, dp, tp⟩ : Todo) e67).path ((p ++ e67.name) ++ ([47] : List UInt8)) (kid_path hpp h1) (by have := hnm.1; simp only [List.length_append, List.length_singleton]; omega)) ?_)
           rintro _ w ⟨zz72, ee73, hzz74, htt75, hrr76, Hc⟩
           replace H := H.callT (L1' := [.blk wb ([.map (some zz72.mo), .map (some zz72.mm), VI (zz72.n : Int), .bool zz72.tl, .slice (hd zz72.fa) zz72.fs.length zz72.fc, VI ee73]) 70, .obj zz72.mo (mobj kA zz72.Mo zz72.co), .obj zz72.mm (mobj kA zz72.Mm zz72.cm), .own zz72.fa zz72.fs.length zz72.fc ((zz72.fs).flatMap flE) 48 3]) (T' := zz72.T) (L := [.blk b70 (([.string ⟨(e67.name).toArray⟩, VI e67.kind] : List Value) ++ ((e67.of.1).map V8 ++ (([VI e67.size] : List Value)))) 54, .own a9 l11.length c10 ((l11).flatMap itE) 54 35, .blk wb ([.map (some z1.mo), .map (some z1.mm), VI (z1.n : Int), .bool z1.tl, .slice (hd z1.fa) z1.fs.length z1.fc, VI 0]) 70, .obj z1.mo (mobj kA z1.Mo z1.co), .obj z1.mm (mobj kA z1.Mm z1.cm), .own z1.fa z1.fs.length z1.fc ((z1.fs).flatMap flE) 48 3]) (L1 := [.blk wb ([.map (some z1.mo), .map (some z1.mm), VI (z1.n : Int), .bool z1.tl, .slice (hd z1.fa) z1.fs.length z1.fc, VI 0]) 70, .obj z1.mo (mobj kA z1.Mo z1.co), .obj z1.mm (mobj kA z1.Mm z1.cm), .own z1.fa z1.fs.length z1.fc ((z1.fs).flatMap flE) 48 3]) (Lr := ([.blk b70 (([.string ⟨(e67.name).toArray⟩, VI e67.kind] : List Value) ++ ((e67.of.1).map V8 ++ (([VI e67.size] : List Value)))) 54, .own a9 l11.length c10 ((l11).flatMap itE) 54 35] : List Ch)) (T := z1.T) ((perm_front (j := 2) rfl).trans (.cons _ ((perm_front (j := 2) rfl).trans (.cons _ ((perm_front (j := 2) rfl).trans (.cons _ ((perm_front (j := 2) rfl).trans (.cons _ (.refl _))))))))) Hc (.refl _)
           clear Hc
           replace H : Hp _ w _ (Ch.blk b70 (([.string ⟨(e67.name).toArray⟩, VI e67.kind] : List Value) ++ ((e67.of.1).map V8 ++ (([VI e67.size] : List Value)))) 54 :: Ch.own a9 l11.length c10 ((l11).flatMap itE) 54 35 :: Ch.blk wb ([.map (some zz72.mo), .map (some zz72.mm), VI (zz72.n : Int), .bool zz72.tl, .slice (hd zz72.fa) zz72.fs.length zz72.fc, VI ee73]) 70 :: Ch.obj zz72.mo (mobj kA zz72.Mo zz72.co) :: Ch.obj zz72.mm (mobj kA zz72.Mm zz72.cm) :: Ch.own zz72.fa zz72.fs.length zz72.fc ((zz72.fs).flatMap flE) 48 3 :: zz72.T) := H
           first | refine l_end ?_ | refine l_nil ?_
           repeat refine c_seq ?_
           refine c_region ?_; refine l_op (o_val r_mv ?_); refine l_op (o_val (r_nilc rfl) ?_); refine l_op (o_val (r_fa rfl fo70_5) ?_); refine l_op (o_val (r_ld (v := VI ee73) H (i := 2) rfl rfl ct37 rfl) ?_); refine l_op (o_val (r_bin (a := ee73) (b := 0) rfl rfl (fun _ => b_neq)) ?_); first | refine l_end ?_ | refine l_nil ?_
           by_cases hc77 : ee73 ≠ 0
           ·
            repeat refine c_seq ?_
            refine c_yes (by exact congrArg Value.bool (decide_eq_true hc77)) ?_; refine c_ret ?_; try dsimp only [Exit.then, Exit.inBlock]
            refine e_ret0 Try.results31 ?_
            refine ⟨_, rfl, ?_⟩
            have hne : ¬ ee73 = 0 := by omega
            rw [hopen, kids_stop he68 hSe (by omega) hr1.1.symm (by rw [(kid_dir (by omega)), ← hrr76.1]; exact hne), (kid_dir (by omega))]
            exact ⟨zz72, ee73, fun h => absurd h hne, htt75.trans htl1, hrr76, H.sub (.cons _ (.cons _ (.cons_cons _ (.cons_cons _ (.cons_cons _ (.cons_cons _ (List.Sublist.refl _)))))))⟩
           ·
            repeat refine c_seq ?_
            refine c_no (by exact congrArg Value.bool (decide_eq_false hc77)) ?_; refine c_skip ?_; repeat refine c_seq ?_
            refine c_region ?_; refine l_op (o_val (r_bin (a := (i : Int)) (b := 1) rfl rfl (fun _ => b_add (by omega) (by omega))) ?_); refine l_op (o_val r_mv ?_); first | refine l_end ?_ | refine l_nil ?_
            have he0 : ee73 = 0 := by omega
            subst he0
            refine round_end (i + 1, zz72) ?_ ?_ ?_
            · exact ⟨rfl, rfl, rfl, rfl, rfl, show VI ((i : Int) + 1) = VI ((i + 1 : Nat) : Int) from congrArg VI (by omega), trivial⟩
            · refine ⟨?_, ?_⟩
              · try dsimp only
                exact ⟨by omega, hzz74 rfl, htt75.trans htl1, by rw [kids_next he68 hSe (by omega) hr1.1.symm, (kid_dir (by omega))]; exact hrr76⟩
              · exact H.sub (.cons _ (.cons_cons _ (.cons_cons _ (.cons_cons _ (.cons_cons _ (.cons_cons _ (List.Sublist.refl _)))))))
            · show l11.length - (i + 1 : Nat) < l11.length - i; omega
          ·
           repeat refine c_seq ?_
           refine c_no (by exact congrArg Value.bool (decide_eq_false hc71)) ?_; repeat refine c_seq ?_
           refine c_region ?_; refine l_op (o_val r_mv ?_); refine l_op (o_val (r_ldA (C := ([.string ⟨(e67.name).toArray⟩, VI e67.kind] : List Value) ++ ((e67.of.1).map V8 ++ (([VI e67.size] : List Value)))) H (i := 0) rfl rfl rt54 (by simp only [List.length_append, List.length_map, List.length_cons, List.length_nil, (show (e67.of.1).length = 32 from e67.of.2)])) ?_); refine l_op (o_val r_mv ?_); refine l_op (o_callR Try.func48 rfl rfl rfl (wfile_ret _ l wb z1 (H.ownT (L := [.blk b70 (([.string ⟨(e67.name).toArray⟩, VI e67.kind] : List Value) ++ ((e67.of.1).map V8 ++ (([VI e67.size] : List Value)))) 54, .own a9 l11.length c10 ((l11).flatMap itE) 54 35, .blk wb ([.map (some z1.mo), .map (some z1.mm), VI (z1.n : Int), .bool z1.tl, .slice (hd z1.fa) z1.fs.length z1.fc, VI 0]) 70, .obj z1.mo (mobj kA z1.Mo z1.co), .obj z1.mm (mobj kA z1.Mm z1.cm), .own z1.fa z1.fs.length z1.fc ((z1.fs).flatMap flE) 48 3]) (L1 := [.blk wb ([.map (some z1.mo), .map (some z1.mm), VI (z1.n : Int), .bool z1.tl, .slice (hd z1.fa) z1.fs.length z1.fc, VI 0]) 70, .obj z1.mo (mobj kA z1.Mo z1.co), .obj z1.mm (mobj kA z1.Mm z1.cm), .own z1.fa z1.fs.length z1.fc ((z1.fs).flatMap flE) 48 3]) (Lr := ([.blk b70 (([.string ⟨(e67.name).toArray⟩, VI e67.kind] : List Value) ++ ((e67.of.1).map V8 ++ (([VI e67.size] : List Value)))) 54, .own a9 l11.length c10 ((l11).flatMap itE) 54 35] : List Ch)) (T := z1.T) ((perm_front (j := 2) rfl).trans (.cons _ ((perm_front (j := 2) rfl).trans (.cons _ ((perm_front (j := 2) rfl).trans (.cons _ ((perm_front (j := 2) rfl).trans (.cons _ (.refl _)))))))))) hz1 (ho_up ho hap H) (ap_turn hap ho H (L := [.blk b70 (([.string ⟨(e67.name).toArray⟩, VI e67.kind] : List Value) ++ ((e67.of.1).map V8 ++ (([VI e67.size] : List Value)))) 54, .own a9 l11.length c10 ((l11).flatMap itE) 54 35, .blk wb ([.map (some z1.mo), .map (some z1.mm), VI (z1.n : Int), .bool z1.tl, .slice (hd z1.fa) z1.fs.length z1.fc, VI 0]) 70, .obj z1.mo (mobj kA z1.Mo z1.co), .obj z1.mm (mobj kA z1.Mm z1.cm), .own z1.fa z1.fs.length z1.fc ((z1.fs).flatMap flE) 48 3]) (L1 := [.blk wb ([.map (some z1.mo), .map (some z1.mm), VI (z1.n : Int), .bool z1.tl, .slice (hd z1.fa) z1.fs.length z1.fc, VI 0]) 70, .obj z1.mo (mobj kA z1.Mo z1.co), .obj z1.mm (mobj kA z1.Mm z1.cm), .own z1.fa z1.fs.length z1.fc ((z1.fs).flatMap flE) 48 3]) (Lr := ([.blk b70 (([.string ⟨(e67.name).toArray⟩, VI e67.kind] : List Value) ++ ((e67.of.1).map V8 ++ (([VI e67.size] : List Value)))) 54, .own a9 l11.length c10 ((l11).flatMap itE) 54 35] : List Ch)) (T := z1.T) ((perm_front (j := 2) rfl).trans (.cons _ ((perm_front (j := 2) rfl).trans (.cons _ ((perm_front (j := 2) rfl).trans (.cons _ ((perm_front (j := 2) rfl).trans (.cons _ (.refl _)))))))))) _ hr1 e67 p (dp + 1) (by have := hnm.1; omega)) ?_); rintro _ w ⟨zz78, ee79, hzz80, htt81, hrr82, Hc⟩
           replace H := H.callT (L1' := [.blk wb ([.map (some zz78.mo), .map (some zz78.mm), VI (zz78.n : Int), .bool zz78.tl, .slice (hd zz78.fa) zz78.fs.length zz78.fc, VI ee79]) 70, .obj zz78.mo (mobj kA zz78.Mo zz78.co), .obj zz78.mm (mobj kA zz78.Mm zz78.cm), .own zz78.fa zz78.fs.length zz78.fc ((zz78.fs).flatMap flE) 48 3]) (T' := zz78.T) (L := [.blk b70 (([.string ⟨(e67.name).toArray⟩, VI e67.kind] : List Value) ++ ((e67.of.1).map V8 ++ (([VI e67.size] : List Value)))) 54, .own a9 l11.length c10 ((l11).flatMap itE) 54 35, .blk wb ([.map (some z1.mo), .map (some z1.mm), VI (z1.n : Int), .bool z1.tl, .slice (hd z1.fa) z1.fs.length z1.fc, VI 0]) 70, .obj z1.mo (mobj kA z1.Mo z1.co), .obj z1.mm (mobj kA z1.Mm z1.cm), .own z1.fa z1.fs.length z1.fc ((z1.fs).flatMap flE) 48 3]) (L1 := [.blk wb ([.map (some z1.mo), .map (some z1.mm), VI (z1.n : Int), .bool z1.tl, .slice (hd z1.fa) z1.fs.length z1.fc, VI 0]) 70, .obj z1.mo (mobj kA z1.Mo z1.co), .obj z1.mm (mobj kA z1.Mm z1.cm), .own z1.fa z1.fs.length z1.fc ((z1.fs).flatMap flE) 48 3]) (Lr := ([.blk b70 (([.string ⟨(e67.name).toArray⟩, VI e67.kind] : List Value) ++ ((e67.of.1).map V8 ++ (([VI e67.size] : List Value)))) 54, .own a9 l11.length c10 ((l11).flatMap itE) 54 35] : List Ch)) (T := z1.T) ((perm_front (j := 2) rfl).trans (.cons _ ((perm_front (j := 2) rfl).trans (.cons _ ((perm_front (j := 2) rfl).trans (.cons _ ((perm_front (j := 2) rfl).trans (.cons _ (.refl _))))))))) Hc (.refl _)
           clear Hc
           replace H : Hp _ w _ (Ch.blk b70 (([.string ⟨(e67.name).toArray⟩, VI e67.kind] : List Value) ++ ((e67.of.1).map V8 ++ (([VI e67.size] : List Value)))) 54 :: Ch.own a9 l11.length c10 ((l11).flatMap itE) 54 35 :: Ch.blk wb ([.map (some zz78.mo), .map (some zz78.mm), VI (zz78.n : Int), .bool zz78.tl, .slice (hd zz78.fa) zz78.fs.length zz78.fc, VI ee79]) 70 :: Ch.obj zz78.mo (mobj kA zz78.Mo zz78.co) :: Ch.obj zz78.mm (mobj kA zz78.Mm zz78.cm) :: Ch.own zz78.fa zz78.fs.length zz78.fc ((zz78.fs).flatMap flE) 48 3 :: zz78.T) := H
           first | refine l_end ?_ | refine l_nil ?_
           repeat refine c_seq ?_
           refine c_region ?_; refine l_op (o_val r_mv ?_); refine l_op (o_val (r_nilc rfl) ?_); refine l_op (o_val (r_fa rfl fo70_5) ?_); refine l_op (o_val (r_ld (v := VI ee79) H (i := 2) rfl rfl ct37 rfl) ?_); refine l_op (o_val (r_bin (a := ee79) (b := 0) rfl rfl (fun _ => b_neq)) ?_); first | refine l_end ?_ | refine l_nil ?_
           by_cases hc83 : ee79 ≠ 0
           ·
            repeat refine c_seq ?_
            refine c_yes (by exact congrArg Value.bool (decide_eq_true hc83)) ?_; refine c_ret ?_; try dsimp only [Exit.then, Exit.inBlock]
            refine e_ret0 Try.results31 ?_
            refine ⟨_, rfl, ?_⟩
            have hne : ¬ ee79 = 0 := by omega
            rw [hopen, kids_stop he68 hSe (by omega) hr1.1.symm (by rw [(kid_file hpp (by omega)), ← hrr82.1]; exact hne), (kid_file hpp (by omega))]
            exact ⟨zz78, ee79, fun h => absurd h hne, htt81.trans htl1, hrr82, H.sub (.cons _ (.cons _ (.cons_cons _ (.cons_cons _ (.cons_cons _ (.cons_cons _ (List.Sublist.refl _)))))))⟩
           ·
            repeat refine c_seq ?_
            refine c_no (by exact congrArg Value.bool (decide_eq_false hc83)) ?_; refine c_skip ?_; repeat refine c_seq ?_
            refine c_region ?_; refine l_op (o_val (r_bin (a := (i : Int)) (b := 1) rfl rfl (fun _ => b_add (by omega) (by omega))) ?_); refine l_op (o_val r_mv ?_); first | refine l_end ?_ | refine l_nil ?_
            have he0 : ee79 = 0 := by omega
            subst he0
            refine round_end (i + 1, zz78) ?_ ?_ ?_
            · exact ⟨rfl, rfl, rfl, rfl, rfl, show VI ((i : Int) + 1) = VI ((i + 1 : Nat) : Int) from congrArg VI (by omega), trivial⟩
            · refine ⟨?_, ?_⟩
              · try dsimp only
                exact ⟨by omega, hzz80 rfl, htt81.trans htl1, by rw [kids_next he68 hSe (by omega) hr1.1.symm, (kid_file hpp (by omega))]; exact hrr82⟩
              · exact H.sub (.cons _ (.cons_cons _ (.cons_cons _ (.cons_cons _ (.cons_cons _ (.cons_cons _ (List.Sublist.refl _)))))))
            · show l11.length - (i + 1 : Nat) < l11.length - i; omega
         ·
          repeat refine c_seq ?_
          refine c_no (by exact congrArg Value.bool (decide_eq_false hc64)) ?_; refine c_exit ?_; try simp only [Exit.then, Exit.inBlock, ↓reduceIte]
          refine e_norm ?_; refine e_ret0 Try.results31 ?_
          refine ⟨_, rfl, ?_⟩
          rw [List.take_of_length_le (by omega)] at hr1
          rw [hopen]
          exact ⟨z1, 0, fun _ => hz1, htl1, hr1, H.sub (.cons _ (.cons_cons _ (.cons_cons _ (.cons_cons _ (.cons_cons _ (List.Sublist.refl _))))))⟩
       ·
        refine l_no rfl rfl (by exact congrArg Value.bool (decide_eq_false hc16)) rfl ?_; refine l_no rfl rfl (by exact congrArg Value.bool (decide_eq_false hc16)) rfl ?_; refine l_no rfl rfl (by exact congrArg Value.bool (decide_eq_false hc16)) rfl ?_; refine l_no rfl rfl (by exact congrArg Value.bool (decide_eq_false hc16)) rfl ?_; refine l_op (o_val (r_pick (b := false) (congrArg Value.bool (decide_eq_false hc16))) ?_); first | refine l_end ?_ | refine l_nil ?_
        repeat refine c_seq ?_
        refine c_no rfl ?_; refine c_skip ?_; repeat refine c_seq ?_
        refine c_region ?_; refine l_op (o_val r_mv ?_); refine l_op (o_val (r_lens el52 rfl) ?_); refine l_op (o_val r_mv ?_); first | refine l_end ?_ | refine l_nil ?_
        repeat refine c_seq ?_
        refine c_block ?_; repeat refine c_seq ?_
        refine c_loop2 (fun (i : Nat) (z1 : WY) => [(0, .pointer (some ⟨wb, 0, none⟩)), (2, .string ⟨(p).toArray⟩), (3, VI (dp : Int)), (64, .slice (hd a9) l11.length c10), (65, VI (l11.length : Int)), (66, VI (i : Int))])
          (fun (i : Nat) (z1 : WY) w => (i ≤ l11.length ∧ z1.ok l ∧ z1.tl = z.tl ∧ Rel z1 0 (wlkAll (obL l) ((l11.take i).map (wkid (⟨2, k, sz, dp, tp⟩ : Todo))) S0)) ∧ Hp w0 w (keys (wch wb z 0)) (Ch.own a9 l11.length c10 ((l11).flatMap itE) 54 35 :: Ch.blk wb ([.map (some z1.mo), .map (some z1.mm), VI (z1.n : Int), .bool z1.tl, .slice (hd z1.fa) z1.fs.length z1.fc, VI 0]) 70 :: Ch.obj z1.mo (mobj kA z1.Mo z1.co) :: Ch.obj z1.mm (mobj kA z1.Mm z1.cm) :: Ch.own z1.fa z1.fs.length z1.fc ((z1.fs).flatMap flE) 48 3 :: z1.T))
          (fun (i : Nat) (z1 : WY) => l11.length - i) 0 (⟨z.mo, z.Mo, z.co, z.mm, mm5, mc6, fput z.G k ((z.G k).getD 0 + 1), (z.n + 1), z.tl, z.fa, z.fc, z.fs⟩ : WY) ⟨rfl, rfl, rfl, rfl, rfl, rfl, trivial⟩ ⟨⟨Nat.zero_le _, ⟨hz.hO, hz.hOk, hmf7, hmo8, bd_put hz.bd k, by show z.n + 1 ≤ 1024; omega, hz.fat, by show z.fs.length ≤ z.n + 1; omega⟩, rfl, by rw [List.take_zero, List.map_nil, wlkAll_nil]; exact ⟨hSe.symm, fun _ => ⟨by rw [hSm]; exact congrArg (· + 1) hrn, by rw [hSn]; exact keys_put hrg k, fun ht => by rw [hSf, if_neg (by rintro ⟨h1, h2⟩; first | (have h3 := congrArg List.length h1; rw [List.length_nil] at h3; omega) | omega), List.append_nil]; exact hrf ht⟩⟩⟩, (H.sub (.cons_cons _ (.cons _ (.cons_cons _ (.cons_cons _ (.cons_cons _ (.cons_cons _ (List.Sublist.refl _))))))))⟩ ?_
        clear H
        rintro i z1 τ w ⟨⟨hil, hz1, htl1, hr1⟩, H⟩
        repeat refine c_seq ?_
        refine c_region ?_; refine l_op (o_val (r_bin (a := (i : Int)) (b := (l11.length : Int)) rfl rfl (fun _ => b_lss)) ?_); first | refine l_end ?_ | refine l_nil ?_
        by_cases hc84 : (i : Int) < (l11.length : Int)
        ·
         repeat refine c_seq ?_
         refine c_yes (by exact congrArg Value.bool (decide_eq_true hc84)) ?_; refine c_skip ?_; repeat refine c_seq ?_
         refine c_block ?_; repeat refine c_seq ?_
         refine c_region ?_; have ah86 := H.ownAddr (i := 0) rfl (by omega)
         obtain ⟨ab85, ah86⟩ := ah86
         refine l_op (o_val (r_isN i rfl rfl el52 ah86 (by omega) (by (try simp only [Sl.cut]); omega)) ?_); have he88 : ∃ c, (l11)[i]? = some c := ⟨_, List.getElem?_eq_getElem (by have := ((H.glOwn (i := 0) rfl (by decide) (fun c _ => itE_len c))).ln; (try dsimp only at this ⊢); omega)⟩
         obtain ⟨e87, he88⟩ := he88
         have hez89 := ((H.glOwn (i := 0) rfl (by decide) (fun c _ => itE_len c))).sz e87 (List.mem_of_getElem? he88)
         refine l_op (o_val (r_ldRow (s := (⟨hd a9, l11.length, c10, l11⟩ : Gl It)) (k := i) (H.glOwn (i := 0) rfl (by decide) (fun c _ => itE_len c)) ah86 rfl rt54 (by decide) he88) ?_); refine l_op (o_alloc H zc54 (fun b90 w H hb90 => ?_)); replace H := H.rot
         replace H : Hp _ w _ (Ch.blk b90 (([.string ⟨(([] : List UInt8)).toArray⟩, VI 0] : List Value) ++ ((List.replicate 32 (0 : UInt8)).map V8 ++ (([VI 0] : List Value)))) 54 :: Ch.own a9 l11.length c10 ((l11).flatMap itE) 54 35 :: Ch.blk wb ([.map (some z1.mo), .map (some z1.mm), VI (z1.n : Int), .bool z1.tl, .slice (hd z1.fa) z1.fs.length z1.fc, VI 0]) 70 :: Ch.obj z1.mo (mobj kA z1.Mo z1.co) :: Ch.obj z1.mm (mobj kA z1.Mm z1.cm) :: Ch.own z1.fa z1.fs.length z1.fc ((z1.fs).flatMap flE) 48 3 :: z1.T) := H
         refine l_op (o_stW (C' := ([.string ⟨(e87.name).toArray⟩, VI e87.kind] : List Value) ++ ((e87.of.1).map V8 ++ (([VI e87.size] : List Value)))) H (i := 0) rfl rfl rfl cs54 (by first | (simp [Value.oneCell', List.all_append, List.all_map]; done) | (simp only [List.all_append, List.all_cons, List.all_nil, List.all_map]; simp [Value.oneCell', Function.comp_def])) (by simp only [List.length_append, List.length_map, List.length_cons, List.length_nil, (show (List.replicate 32 (0 : UInt8)).length = 32 from (List.length_replicate ..))]) (by simp only [List.length_append, List.length_map, List.length_cons, List.length_nil, (show (e87.of.1).length = 32 from e87.of.2)]) (fun w H => ?_)); replace H : Hp _ w _ (Ch.blk b90 (([.string ⟨(e87.name).toArray⟩, VI e87.kind] : List Value) ++ ((e87.of.1).map V8 ++ (([VI e87.size] : List Value)))) 54 :: Ch.own a9 l11.length c10 ((l11).flatMap itE) 54 35 :: Ch.blk wb ([.map (some z1.mo), .map (some z1.mm), VI (z1.n : Int), .bool z1.tl, .slice (hd z1.fa) z1.fs.length z1.fc, VI 0]) 70 :: Ch.obj z1.mo (mobj kA z1.Mo z1.co) :: Ch.obj z1.mm (mobj kA z1.Mm z1.cm) :: Ch.own z1.fa z1.fs.length z1.fc ((z1.fs).flatMap flE) 48 3 :: z1.T) := H
         first | refine l_end ?_ | refine l_nil ?_
         have hnm := hitf e87 (List.mem_of_getElem? he88)
         have hpx : (p ++ e87.name).length = p.length + e87.name.length := List.length_append
         repeat refine c_seq ?_
         refine c_region ?_; refine l_op (o_val (r_fa rfl fo54_1) ?_); refine l_op (o_val (r_l1 (v := VI e87.kind) H (i := 0) rfl rfl ct3 (show Cut3 (([.string ⟨(e87.name).toArray⟩, VI e87.kind] : List Value) ++ ((e87.of.1).map V8 ++ (([VI e87.size] : List Value)))) (([.string ⟨(e87.name).toArray⟩] : List Value)) (([VI e87.kind] : List Value)) ((e87.of.1).map V8 ++ (([VI e87.size] : List Value))) 1 1 from ⟨(show ([.string ⟨(e87.name).toArray⟩, VI e87.kind] : List Value) ++ ((e87.of.1).map V8 ++ (([VI e87.size] : List Value))) = ([.string ⟨(e87.name).toArray⟩] : List Value) ++ ((([VI e87.kind] : List Value)) ++ ((e87.of.1).map V8 ++ (([VI e87.size] : List Value)))) from by simp only [List.cons_append, List.nil_append]), (by rfl), (by rfl)⟩)) ?_); refine l_op (o_val (r_bin (a := e87.kind) (b := 2) rfl rfl (fun _ => b_eql)) ?_); first | refine l_end ?_ | refine l_nil ?_
         by_cases hc91 : e87.kind = 2
         ·
          repeat refine c_seq ?_
          refine c_yes (by exact congrArg Value.bool (decide_eq_true hc91)) ?_; repeat refine c_seq ?_
          refine c_region ?_; refine l_op (o_val r_mv ?_); refine l_op (o_val (r_fa rfl fo54_2) ?_); refine l_op (o_val (r_lk H (i := 0) rfl rfl rt29 (show Cut3 (([.string ⟨(e87.name).toArray⟩, VI e87.kind] : List Value) ++ ((e87.of.1).map V8 ++ (([VI e87.size] : List Value)))) (([.string ⟨(e87.name).toArray⟩, VI e87.kind] : List Value)) ((e87.of.1).map V8) (([VI e87.size] : List Value)) 2 32 from ⟨(show ([.string ⟨(e87.name).toArray⟩, VI e87.kind] : List Value) ++ ((e87.of.1).map V8 ++ (([VI e87.size] : List Value))) = ([.string ⟨(e87.name).toArray⟩, VI e87.kind] : List Value) ++ (((e87.of.1).map V8) ++ (([VI e87.size] : List Value))) from by simp only [List.cons_append, List.nil_append]), (by rfl), (by simp only [List.length_map, (show (e87.of.1).length = 32 from e87.of.2)])⟩)) ?_); refine l_op (o_val r_mv ?_); refine l_op (o_val (r_fa rfl fo54_0) ?_); refine l_op (o_val (r_l1 (v := .string ⟨(e87.name).toArray⟩) H (i := 0) rfl rfl ct9 (show Cut3 (([.string ⟨(e87.name).toArray⟩, VI e87.kind] : List Value) ++ ((e87.of.1).map V8 ++ (([VI e87.size] : List Value)))) (([] : List Value)) (([.string ⟨(e87.name).toArray⟩] : List Value)) (([VI e87.kind] : List Value) ++ ((e87.of.1).map V8 ++ (([VI e87.size] : List Value)))) 0 1 from ⟨(show ([.string ⟨(e87.name).toArray⟩, VI e87.kind] : List Value) ++ ((e87.of.1).map V8 ++ (([VI e87.size] : List Value))) = ([] : List Value) ++ ((([.string ⟨(e87.name).toArray⟩] : List Value)) ++ (([VI e87.kind] : List Value) ++ ((e87.of.1).map V8 ++ (([VI e87.size] : List Value))))) from by simp only [List.cons_append, List.nil_append]), (by rfl), (by rfl)⟩)) ?_); refine l_op (o_val (r_stradd (a := p) (b := e87.name) rfl rfl (by (try simp only [List.length_cons, List.length_nil]); omega)) ?_); refine l_op (o_val (r_stradd (a := p ++ e87.name) (b := ([47] : List UInt8)) rfl rfl (by (try simp only [List.length_cons, List.length_nil]); omega)) ?_); refine l_op (o_val r_mv ?_); refine l_op (o_val (r_bin (a := (dp : Int)) (b := 1) rfl rfl (fun _ => b_add (by omega) (by omega))) ?_); refine l_op (o_callR Try.func31 rfl rfl rfl (hi (by omega) _ wb z1 (H.ownT (L := [.blk b90 (([.string ⟨(e87.name).toArray⟩, VI e87.kind] : List Value) ++ ((e87.of.1).map V8 ++ (([VI e87.size] : List Value)))) 54, .own a9 l11.length c10 ((l11).flatMap itE) 54 35, .blk wb ([.map (some z1.mo), .map (some z1.mm), VI (z1.n : Int), .bool z1.tl, .slice (hd z1.fa) z1.fs.length z1.fc, VI 0]) 70, .obj z1.mo (mobj kA z1.Mo z1.co), .obj z1.mm (mobj kA z1.Mm z1.cm), .own z1.fa z1.fs.length z1.fc ((z1.fs).flatMap flE) 48 3]) (L1 := [.blk wb ([.map (some z1.mo), .map (some z1.mm), VI (z1.n : Int), .bool z1.tl, .slice (hd z1.fa) z1.fs.length z1.fc, VI 0]) 70, .obj z1.mo (mobj kA z1.Mo z1.co), .obj z1.mm (mobj kA z1.Mm z1.cm), .own z1.fa z1.fs.length z1.fc ((z1.fs).flatMap flE) 48 3]) (Lr := ([.blk b90 (([.string ⟨(e87.name).toArray⟩, VI e87.kind] : List Value) ++ ((e87.of.1).map V8 ++ (([VI e87.size] : List Value)))) 54, .own a9 l11.length c10 ((l11).flatMap itE) 54 35] : List Ch)) (T := z1.T) ((perm_front (j := 2) rfl).trans (.cons _ ((perm_front (j := 2) rfl).trans (.cons _ ((perm_front (j := 2) rfl).trans (.cons _ ((perm_front (j := 2) rfl).trans (.cons _ (.refl _)))))))))) hz1 (ho_up ho hap H) (ap_turn hap ho H (L := [.blk b90 (([.string ⟨(e87.name).toArray⟩, VI e87.kind] : List Value) ++ ((e87.of.1).map V8 ++ (([VI e87.size] : List Value)))) 54, .own a9 l11.length c10 ((l11).flatMap itE) 54 35, .blk wb ([.map (some z1.mo), .map (some z1.mm), VI (z1.n : Int), .bool z1.tl, .slice (hd z1.fa) z1.fs.length z1.fc, VI 0]) 70, .obj z1.mo (mobj kA z1.Mo z1.co), .obj z1.mm (mobj kA z1.Mm z1.cm), .own z1.fa z1.fs.length z1.fc ((z1.fs).flatMap flE) 48 3]) (L1 := [.blk wb ([.map (some z1.mo), .map (some z1.mm), VI (z1.n : Int), .bool z1.tl, .slice (hd z1.fa) z1.fs.length z1.fc, VI 0]) 70, .obj z1.mo (mobj kA z1.Mo z1.co), .obj z1.mm (mobj kA z1.Mm z1.cm), .own z1.fa z1.fs.length z1.fc ((z1.fs).flatMap flE) 48 3]) (Lr := ([.blk b90 (([.string ⟨(e87.name).toArray⟩, VI e87.kind] : List Value) ++ ((e87.of.1).map V8 ++ (([VI e87.size] : List Value)))) 54, .own a9 l11.length c10 ((l11).flatMap itE) 54 35] : List Ch)) (T := z1.T) ((perm_front (j := 2) rfl).trans (.cons _ ((perm_front (j := 2) rfl).trans (.cons _ ((perm_front (j := 2) rfl).trans (.cons _ ((perm_front (j := 2) rfl).trans (.cons _ (.refl _)))))))))) _ hr1 e87.of e87.size (wkid (⟨2, k, sz, dp, tp⟩ : Todo) e87).path ((p ++ e87.name) ++ ([47] : List UInt8)) (kid_path hpp h1) (by have := hnm.1; simp only [List.length_append, List.length_singleton]; omega)) ?_)
          rintro _ w ⟨zz92, ee93, hzz94, htt95, hrr96, Hc⟩
          replace H := H.callT (L1' := [.blk wb ([.map (some zz92.mo), .map (some zz92.mm), VI (zz92.n : Int), .bool zz92.tl, .slice (hd zz92.fa) zz92.fs.length zz92.fc, VI ee93]) 70, .obj zz92.mo (mobj kA zz92.Mo zz92.co), .obj zz92.mm (mobj kA zz92.Mm zz92.cm), .own zz92.fa zz92.fs.length zz92.fc ((zz92.fs).flatMap flE) 48 3]) (T' := zz92.T) (L := [.blk b90 (([.string ⟨(e87.name).toArray⟩, VI e87.kind] : List Value) ++ ((e87.of.1).map V8 ++ (([VI e87.size] : List Value)))) 54, .own a9 l11.length c10 ((l11).flatMap itE) 54 35, .blk wb ([.map (some z1.mo), .map (some z1.mm), VI (z1.n : Int), .bool z1.tl, .slice (hd z1.fa) z1.fs.length z1.fc, VI 0]) 70, .obj z1.mo (mobj kA z1.Mo z1.co), .obj z1.mm (mobj kA z1.Mm z1.cm), .own z1.fa z1.fs.length z1.fc ((z1.fs).flatMap flE) 48 3]) (L1 := [.blk wb ([.map (some z1.mo), .map (some z1.mm), VI (z1.n : Int), .bool z1.tl, .slice (hd z1.fa) z1.fs.length z1.fc, VI 0]) 70, .obj z1.mo (mobj kA z1.Mo z1.co), .obj z1.mm (mobj kA z1.Mm z1.cm), .own z1.fa z1.fs.length z1.fc ((z1.fs).flatMap flE) 48 3]) (Lr := ([.blk b90 (([.string ⟨(e87.name).toArray⟩, VI e87.kind] : List Value) ++ ((e87.of.1).map V8 ++ (([VI e87.size] : List Value)))) 54, .own a9 l11.length c10 ((l11).flatMap itE) 54 35] : List Ch)) (T := z1.T) ((perm_front (j := 2) rfl).trans (.cons _ ((perm_front (j := 2) rfl).trans (.cons _ ((perm_front (j := 2) rfl).trans (.cons _ ((perm_front (j := 2) rfl).trans (.cons _ (.refl _))))))))) Hc (.refl _)
          clear Hc
          replace H : Hp _ w _ (Ch.blk b90 (([.string ⟨(e87.name).toArray⟩, VI e87.kind] : List Value) ++ ((e87.of.1).map V8 ++ (([VI e87.size] : List Value)))) 54 :: Ch.own a9 l11.length c10 ((l11).flatMap itE) 54 35 :: Ch.blk wb ([.map (some zz92.mo), .map (some zz92.mm), VI (zz92.n : Int), .bool zz92.tl, .slice (hd zz92.fa) zz92.fs.length zz92.fc, VI ee93]) 70 :: Ch.obj zz92.mo (mobj kA zz92.Mo zz92.co) :: Ch.obj zz92.mm (mobj kA zz92.Mm zz92.cm) :: Ch.own zz92.fa zz92.fs.length zz92.fc ((zz92.fs).flatMap flE) 48 3 :: zz92.T) := H
          first | refine l_end ?_ | refine l_nil ?_
          repeat refine c_seq ?_
          refine c_region ?_; refine l_op (o_val r_mv ?_); refine l_op (o_val (r_nilc rfl) ?_); refine l_op (o_val (r_fa rfl fo70_5) ?_); refine l_op (o_val (r_ld (v := VI ee93) H (i := 2) rfl rfl ct37 rfl) ?_); refine l_op (o_val (r_bin (a := ee93) (b := 0) rfl rfl (fun _ => b_neq)) ?_); first | refine l_end ?_ | refine l_nil ?_
          by_cases hc97 : ee93 ≠ 0
          ·
           repeat refine c_seq ?_
           refine c_yes (by exact congrArg Value.bool (decide_eq_true hc97)) ?_; refine c_ret ?_; try dsimp only [Exit.then, Exit.inBlock]
           refine e_ret0 Try.results31 ?_
           refine ⟨_, rfl, ?_⟩
           have hne : ¬ ee93 = 0 := by omega
           rw [hopen, kids_stop he88 hSe (by omega) hr1.1.symm (by rw [(kid_dir (by omega)), ← hrr96.1]; exact hne), (kid_dir (by omega))]
           exact ⟨zz92, ee93, fun h => absurd h hne, htt95.trans htl1, hrr96, H.sub (.cons _ (.cons _ (.cons_cons _ (.cons_cons _ (.cons_cons _ (.cons_cons _ (List.Sublist.refl _)))))))⟩
          ·
           repeat refine c_seq ?_
           refine c_no (by exact congrArg Value.bool (decide_eq_false hc97)) ?_; refine c_skip ?_; repeat refine c_seq ?_
           refine c_region ?_; refine l_op (o_val (r_bin (a := (i : Int)) (b := 1) rfl rfl (fun _ => b_add (by omega) (by omega))) ?_); refine l_op (o_val r_mv ?_); first | refine l_end ?_ | refine l_nil ?_
           have he0 : ee93 = 0 := by omega
           subst he0
           refine round_end (i + 1, zz92) ?_ ?_ ?_
           · exact ⟨rfl, rfl, rfl, rfl, rfl, show VI ((i : Int) + 1) = VI ((i + 1 : Nat) : Int) from congrArg VI (by omega), trivial⟩
           · refine ⟨?_, ?_⟩
             · try dsimp only
               exact ⟨by omega, hzz94 rfl, htt95.trans htl1, by rw [kids_next he88 hSe (by omega) hr1.1.symm, (kid_dir (by omega))]; exact hrr96⟩
             · exact H.sub (.cons _ (.cons_cons _ (.cons_cons _ (.cons_cons _ (.cons_cons _ (.cons_cons _ (List.Sublist.refl _)))))))
           · show l11.length - (i + 1 : Nat) < l11.length - i; omega
         ·
          repeat refine c_seq ?_
          refine c_no (by exact congrArg Value.bool (decide_eq_false hc91)) ?_; repeat refine c_seq ?_
          refine c_region ?_; refine l_op (o_val r_mv ?_); refine l_op (o_val (r_ldA (C := ([.string ⟨(e87.name).toArray⟩, VI e87.kind] : List Value) ++ ((e87.of.1).map V8 ++ (([VI e87.size] : List Value)))) H (i := 0) rfl rfl rt54 (by simp only [List.length_append, List.length_map, List.length_cons, List.length_nil, (show (e87.of.1).length = 32 from e87.of.2)])) ?_); refine l_op (o_val r_mv ?_); refine l_op (o_callR Try.func48 rfl rfl rfl (wfile_ret _ l wb z1 (H.ownT (L := [.blk b90 (([.string ⟨(e87.name).toArray⟩, VI e87.kind] : List Value) ++ ((e87.of.1).map V8 ++ (([VI e87.size] : List Value)))) 54, .own a9 l11.length c10 ((l11).flatMap itE) 54 35, .blk wb ([.map (some z1.mo), .map (some z1.mm), VI (z1.n : Int), .bool z1.tl, .slice (hd z1.fa) z1.fs.length z1.fc, VI 0]) 70, .obj z1.mo (mobj kA z1.Mo z1.co), .obj z1.mm (mobj kA z1.Mm z1.cm), .own z1.fa z1.fs.length z1.fc ((z1.fs).flatMap flE) 48 3]) (L1 := [.blk wb ([.map (some z1.mo), .map (some z1.mm), VI (z1.n : Int), .bool z1.tl, .slice (hd z1.fa) z1.fs.length z1.fc, VI 0]) 70, .obj z1.mo (mobj kA z1.Mo z1.co), .obj z1.mm (mobj kA z1.Mm z1.cm), .own z1.fa z1.fs.length z1.fc ((z1.fs).flatMap flE) 48 3]) (Lr := ([.blk b90 (([.string ⟨(e87.name).toArray⟩, VI e87.kind] : List Value) ++ ((e87.of.1).map V8 ++ (([VI e87.size] : List Value)))) 54, .own a9 l11.length c10 ((l11).flatMap itE) 54 35] : List Ch)) (T := z1.T) ((perm_front (j := 2) rfl).trans (.cons _ ((perm_front (j := 2) rfl).trans (.cons _ ((perm_front (j := 2) rfl).trans (.cons _ ((perm_front (j := 2) rfl).trans (.cons _ (.refl _)))))))))) hz1 (ho_up ho hap H) (ap_turn hap ho H (L := [.blk b90 (([.string ⟨(e87.name).toArray⟩, VI e87.kind] : List Value) ++ ((e87.of.1).map V8 ++ (([VI e87.size] : List Value)))) 54, .own a9 l11.length c10 ((l11).flatMap itE) 54 35, .blk wb ([.map (some z1.mo), .map (some z1.mm), VI (z1.n : Int), .bool z1.tl, .slice (hd z1.fa) z1.fs.length z1.fc, VI 0]) 70, .obj z1.mo (mobj kA z1.Mo z1.co), .obj z1.mm (mobj kA z1.Mm z1.cm), .own z1.fa z1.fs.length z1.fc ((z1.fs).flatMap flE) 48 3]) (L1 := [.blk wb ([.map (some z1.mo), .map (some z1.mm), VI (z1.n : Int), .bool z1.tl, .slice (hd z1.fa) z1.fs.length z1.fc, VI 0]) 70, .obj z1.mo (mobj kA z1.Mo z1.co), .obj z1.mm (mobj kA z1.Mm z1.cm), .own z1.fa z1.fs.length z1.fc ((z1.fs).flatMap flE) 48 3]) (Lr := ([.blk b90 (([.string ⟨(e87.name).toArray⟩, VI e87.kind] : List Value) ++ ((e87.of.1).map V8 ++ (([VI e87.size] : List Value)))) 54, .own a9 l11.length c10 ((l11).flatMap itE) 54 35] : List Ch)) (T := z1.T) ((perm_front (j := 2) rfl).trans (.cons _ ((perm_front (j := 2) rfl).trans (.cons _ ((perm_front (j := 2) rfl).trans (.cons _ ((perm_front (j := 2) rfl).trans (.cons _ (.refl _)))))))))) _ hr1 e87 p (dp + 1) (by have := hnm.1; omega)) ?_); rintro _ w ⟨zz98, ee99, hzz100, htt101, hrr102, Hc⟩
          replace H := H.callT (L1' := [.blk wb ([.map (some zz98.mo), .map (some zz98.mm), VI (zz98.n : Int), .bool zz98.tl, .slice (hd zz98.fa) zz98.fs.length zz98.fc, VI ee99]) 70, .obj zz98.mo (mobj kA zz98.Mo zz98.co), .obj zz98.mm (mobj kA zz98.Mm zz98.cm), .own zz98.fa zz98.fs.length zz98.fc ((zz98.fs).flatMap flE) 48 3]) (T' := zz98.T) (L := [.blk b90 (([.string ⟨(e87.name).toArray⟩, VI e87.kind] : List Value) ++ ((e87.of.1).map V8 ++ (([VI e87.size] : List Value)))) 54, .own a9 l11.length c10 ((l11).flatMap itE) 54 35, .blk wb ([.map (some z1.mo), .map (some z1.mm), VI (z1.n : Int), .bool z1.tl, .slice (hd z1.fa) z1.fs.length z1.fc, VI 0]) 70, .obj z1.mo (mobj kA z1.Mo z1.co), .obj z1.mm (mobj kA z1.Mm z1.cm), .own z1.fa z1.fs.length z1.fc ((z1.fs).flatMap flE) 48 3]) (L1 := [.blk wb ([.map (some z1.mo), .map (some z1.mm), VI (z1.n : Int), .bool z1.tl, .slice (hd z1.fa) z1.fs.length z1.fc, VI 0]) 70, .obj z1.mo (mobj kA z1.Mo z1.co), .obj z1.mm (mobj kA z1.Mm z1.cm), .own z1.fa z1.fs.length z1.fc ((z1.fs).flatMap flE) 48 3]) (Lr := ([.blk b90 (([.string ⟨(e87.name).toArray⟩, VI e87.kind] : List Value) ++ ((e87.of.1).map V8 ++ (([VI e87.size] : List Value)))) 54, .own a9 l11.length c10 ((l11).flatMap itE) 54 35] : List Ch)) (T := z1.T) ((perm_front (j := 2) rfl).trans (.cons _ ((perm_front (j := 2) rfl).trans (.cons _ ((perm_front (j := 2) rfl).trans (.cons _ ((perm_front (j := 2) rfl).trans (.cons _ (.refl _))))))))) Hc (.refl _)
          clear Hc
          replace H : Hp _ w _ (Ch.blk b90 (([.string ⟨(e87.name).toArray⟩, VI e87.kind] : List Value) ++ ((e87.of.1).map V8 ++ (([VI e87.size] : List Value)))) 54 :: Ch.own a9 l11.length c10 ((l11).flatMap itE) 54 35 :: Ch.blk wb ([.map (some zz98.mo), .map (some zz98.mm), VI (zz98.n : Int), .bool zz98.tl, .slice (hd zz98.fa) zz98.fs.length zz98.fc, VI ee99]) 70 :: Ch.obj zz98.mo (mobj kA zz98.Mo zz98.co) :: Ch.obj zz98.mm (mobj kA zz98.Mm zz98.cm) :: Ch.own zz98.fa zz98.fs.length zz98.fc ((zz98.fs).flatMap flE) 48 3 :: zz98.T) := H
          first | refine l_end ?_ | refine l_nil ?_
          repeat refine c_seq ?_
          refine c_region ?_; refine l_op (o_val r_mv ?_); refine l_op (o_val (r_nilc rfl) ?_); refine l_op (o_val (r_fa rfl fo70_5) ?_); refine l_op (o_val (r_ld (v := VI ee99) H (i := 2) rfl rfl ct37 rfl) ?_); refine l_op (o_val (r_bin (a := ee99) (b := 0) rfl rfl (fun _ => b_neq)) ?_); first | refine l_end ?_ | refine l_nil ?_
          by_cases hc103 : ee99 ≠ 0
          ·
           repeat refine c_seq ?_
           refine c_yes (by exact congrArg Value.bool (decide_eq_true hc103)) ?_; refine c_ret ?_; try dsimp only [Exit.then, Exit.inBlock]
           refine e_ret0 Try.results31 ?_
           refine ⟨_, rfl, ?_⟩
           have hne : ¬ ee99 = 0 := by omega
           rw [hopen, kids_stop he88 hSe (by omega) hr1.1.symm (by rw [(kid_file hpp (by omega)), ← hrr102.1]; exact hne), (kid_file hpp (by omega))]
           exact ⟨zz98, ee99, fun h => absurd h hne, htt101.trans htl1, hrr102, H.sub (.cons _ (.cons _ (.cons_cons _ (.cons_cons _ (.cons_cons _ (.cons_cons _ (List.Sublist.refl _)))))))⟩
          ·
           repeat refine c_seq ?_
           refine c_no (by exact congrArg Value.bool (decide_eq_false hc103)) ?_; refine c_skip ?_; repeat refine c_seq ?_
           refine c_region ?_; refine l_op (o_val (r_bin (a := (i : Int)) (b := 1) rfl rfl (fun _ => b_add (by omega) (by omega))) ?_); refine l_op (o_val r_mv ?_); first | refine l_end ?_ | refine l_nil ?_
           have he0 : ee99 = 0 := by omega
           subst he0
           refine round_end (i + 1, zz98) ?_ ?_ ?_
           · exact ⟨rfl, rfl, rfl, rfl, rfl, show VI ((i : Int) + 1) = VI ((i + 1 : Nat) : Int) from congrArg VI (by omega), trivial⟩
           · refine ⟨?_, ?_⟩
             · try dsimp only
               exact ⟨by omega, hzz100 rfl, htt101.trans htl1, by rw [kids_next he88 hSe (by omega) hr1.1.symm, (kid_file hpp (by omega))]; exact hrr102⟩
             · exact H.sub (.cons _ (.cons_cons _ (.cons_cons _ (.cons_cons _ (.cons_cons _ (.cons_cons _ (List.Sublist.refl _)))))))
           · show l11.length - (i + 1 : Nat) < l11.length - i; omega
        ·
         repeat refine c_seq ?_
         refine c_no (by exact congrArg Value.bool (decide_eq_false hc84)) ?_; refine c_exit ?_; try simp only [Exit.then, Exit.inBlock, ↓reduceIte]
         refine e_norm ?_; refine e_ret0 Try.results31 ?_
         refine ⟨_, rfl, ?_⟩
         rw [List.take_of_length_le (by omega)] at hr1
         rw [hopen]
         exact ⟨z1, 0, fun _ => hz1, htl1, hr1, H.sub (.cons _ (.cons_cons _ (.cons_cons _ (.cons_cons _ (.cons_cons _ (List.Sublist.refl _))))))⟩
      ·
       refine l_no rfl rfl (by exact congrArg Value.bool (decide_eq_false hc15)) rfl ?_; refine l_no rfl rfl (by exact congrArg Value.bool (decide_eq_false hc15)) rfl ?_; refine l_op (o_val (r_pick (b := false) (congrArg Value.bool (decide_eq_false hc15))) ?_); refine l_op (o_val r_mv ?_); refine l_no rfl rfl rfl rfl ?_; refine l_no rfl rfl rfl rfl ?_; refine l_no rfl rfl rfl rfl ?_; refine l_no rfl rfl rfl rfl ?_; refine l_op (o_val (r_pick rfl) ?_); first | refine l_end ?_ | refine l_nil ?_
       repeat refine c_seq ?_
       refine c_no rfl ?_; refine c_skip ?_; repeat refine c_seq ?_
       refine c_region ?_; refine l_op (o_val r_mv ?_); refine l_op (o_val (r_lens el52 rfl) ?_); refine l_op (o_val r_mv ?_); first | refine l_end ?_ | refine l_nil ?_
       repeat refine c_seq ?_
       refine c_block ?_; repeat refine c_seq ?_
       refine c_loop2 (fun (i : Nat) (z1 : WY) => [(0, .pointer (some ⟨wb, 0, none⟩)), (2, .string ⟨(p).toArray⟩), (3, VI (dp : Int)), (64, .slice (hd a9) l11.length c10), (65, VI (l11.length : Int)), (66, VI (i : Int))])
         (fun (i : Nat) (z1 : WY) w => (i ≤ l11.length ∧ z1.ok l ∧ z1.tl = z.tl ∧ Rel z1 0 (wlkAll (obL l) ((l11.take i).map (wkid (⟨2, k, sz, dp, tp⟩ : Todo))) S0)) ∧ Hp w0 w (keys (wch wb z 0)) (Ch.own a9 l11.length c10 ((l11).flatMap itE) 54 35 :: Ch.blk wb ([.map (some z1.mo), .map (some z1.mm), VI (z1.n : Int), .bool z1.tl, .slice (hd z1.fa) z1.fs.length z1.fc, VI 0]) 70 :: Ch.obj z1.mo (mobj kA z1.Mo z1.co) :: Ch.obj z1.mm (mobj kA z1.Mm z1.cm) :: Ch.own z1.fa z1.fs.length z1.fc ((z1.fs).flatMap flE) 48 3 :: z1.T))
         (fun (i : Nat) (z1 : WY) => l11.length - i) 0 (⟨z.mo, z.Mo, z.co, z.mm, mm5, mc6, fput z.G k ((z.G k).getD 0 + 1), (z.n + 1), z.tl, z.fa, z.fc, z.fs⟩ : WY) ⟨rfl, rfl, rfl, rfl, rfl, rfl, trivial⟩ ⟨⟨Nat.zero_le _, ⟨hz.hO, hz.hOk, hmf7, hmo8, bd_put hz.bd k, by show z.n + 1 ≤ 1024; omega, hz.fat, by show z.fs.length ≤ z.n + 1; omega⟩, rfl, by rw [List.take_zero, List.map_nil, wlkAll_nil]; exact ⟨hSe.symm, fun _ => ⟨by rw [hSm]; exact congrArg (· + 1) hrn, by rw [hSn]; exact keys_put hrg k, fun ht => by rw [hSf, if_neg (by rintro ⟨h1, h2⟩; first | (have h3 := congrArg List.length h1; rw [List.length_nil] at h3; omega) | omega), List.append_nil]; exact hrf ht⟩⟩⟩, (H.sub (.cons_cons _ (.cons _ (.cons_cons _ (.cons_cons _ (.cons_cons _ (.cons_cons _ (List.Sublist.refl _))))))))⟩ ?_
       clear H
       rintro i z1 τ w ⟨⟨hil, hz1, htl1, hr1⟩, H⟩
       repeat refine c_seq ?_
       refine c_region ?_; refine l_op (o_val (r_bin (a := (i : Int)) (b := (l11.length : Int)) rfl rfl (fun _ => b_lss)) ?_); first | refine l_end ?_ | refine l_nil ?_
       by_cases hc104 : (i : Int) < (l11.length : Int)
       ·
        repeat refine c_seq ?_
        refine c_yes (by exact congrArg Value.bool (decide_eq_true hc104)) ?_; refine c_skip ?_; repeat refine c_seq ?_
        refine c_block ?_; repeat refine c_seq ?_
        refine c_region ?_; have ah106 := H.ownAddr (i := 0) rfl (by omega)
        obtain ⟨ab105, ah106⟩ := ah106
        refine l_op (o_val (r_isN i rfl rfl el52 ah106 (by omega) (by (try simp only [Sl.cut]); omega)) ?_); have he108 : ∃ c, (l11)[i]? = some c := ⟨_, List.getElem?_eq_getElem (by have := ((H.glOwn (i := 0) rfl (by decide) (fun c _ => itE_len c))).ln; (try dsimp only at this ⊢); omega)⟩
        obtain ⟨e107, he108⟩ := he108
        have hez109 := ((H.glOwn (i := 0) rfl (by decide) (fun c _ => itE_len c))).sz e107 (List.mem_of_getElem? he108)
        refine l_op (o_val (r_ldRow (s := (⟨hd a9, l11.length, c10, l11⟩ : Gl It)) (k := i) (H.glOwn (i := 0) rfl (by decide) (fun c _ => itE_len c)) ah106 rfl rt54 (by decide) he108) ?_); refine l_op (o_alloc H zc54 (fun b110 w H hb110 => ?_)); replace H := H.rot
        replace H : Hp _ w _ (Ch.blk b110 (([.string ⟨(([] : List UInt8)).toArray⟩, VI 0] : List Value) ++ ((List.replicate 32 (0 : UInt8)).map V8 ++ (([VI 0] : List Value)))) 54 :: Ch.own a9 l11.length c10 ((l11).flatMap itE) 54 35 :: Ch.blk wb ([.map (some z1.mo), .map (some z1.mm), VI (z1.n : Int), .bool z1.tl, .slice (hd z1.fa) z1.fs.length z1.fc, VI 0]) 70 :: Ch.obj z1.mo (mobj kA z1.Mo z1.co) :: Ch.obj z1.mm (mobj kA z1.Mm z1.cm) :: Ch.own z1.fa z1.fs.length z1.fc ((z1.fs).flatMap flE) 48 3 :: z1.T) := H
        refine l_op (o_stW (C' := ([.string ⟨(e107.name).toArray⟩, VI e107.kind] : List Value) ++ ((e107.of.1).map V8 ++ (([VI e107.size] : List Value)))) H (i := 0) rfl rfl rfl cs54 (by first | (simp [Value.oneCell', List.all_append, List.all_map]; done) | (simp only [List.all_append, List.all_cons, List.all_nil, List.all_map]; simp [Value.oneCell', Function.comp_def])) (by simp only [List.length_append, List.length_map, List.length_cons, List.length_nil, (show (List.replicate 32 (0 : UInt8)).length = 32 from (List.length_replicate ..))]) (by simp only [List.length_append, List.length_map, List.length_cons, List.length_nil, (show (e107.of.1).length = 32 from e107.of.2)]) (fun w H => ?_)); replace H : Hp _ w _ (Ch.blk b110 (([.string ⟨(e107.name).toArray⟩, VI e107.kind] : List Value) ++ ((e107.of.1).map V8 ++ (([VI e107.size] : List Value)))) 54 :: Ch.own a9 l11.length c10 ((l11).flatMap itE) 54 35 :: Ch.blk wb ([.map (some z1.mo), .map (some z1.mm), VI (z1.n : Int), .bool z1.tl, .slice (hd z1.fa) z1.fs.length z1.fc, VI 0]) 70 :: Ch.obj z1.mo (mobj kA z1.Mo z1.co) :: Ch.obj z1.mm (mobj kA z1.Mm z1.cm) :: Ch.own z1.fa z1.fs.length z1.fc ((z1.fs).flatMap flE) 48 3 :: z1.T) := H
        first | refine l_end ?_ | refine l_nil ?_
        have hnm := hitf e107 (List.mem_of_getElem? he108)
        have hpx : (p ++ e107.name).length = p.length + e107.name.length := List.length_append
        repeat refine c_seq ?_
        refine c_region ?_; refine l_op (o_val (r_fa rfl fo54_1) ?_); refine l_op (o_val (r_l1 (v := VI e107.kind) H (i := 0) rfl rfl ct3 (show Cut3 (([.string ⟨(e107.name).toArray⟩, VI e107.kind] : List Value) ++ ((e107.of.1).map V8 ++ (([VI e107.size] : List Value)))) (([.string ⟨(e107.name).toArray⟩] : List Value)) (([VI e107.kind] : List Value)) ((e107.of.1).map V8 ++ (([VI e107.size] : List Value))) 1 1 from ⟨(show ([.string ⟨(e107.name).toArray⟩, VI e107.kind] : List Value) ++ ((e107.of.1).map V8 ++ (([VI e107.size] : List Value))) = ([.string ⟨(e107.name).toArray⟩] : List Value) ++ ((([VI e107.kind] : List Value)) ++ ((e107.of.1).map V8 ++ (([VI e107.size] : List Value)))) from by simp only [List.cons_append, List.nil_append]), (by rfl), (by rfl)⟩)) ?_); refine l_op (o_val (r_bin (a := e107.kind) (b := 2) rfl rfl (fun _ => b_eql)) ?_); first | refine l_end ?_ | refine l_nil ?_
        by_cases hc111 : e107.kind = 2
        ·
         repeat refine c_seq ?_
         refine c_yes (by exact congrArg Value.bool (decide_eq_true hc111)) ?_; repeat refine c_seq ?_
         refine c_region ?_; refine l_op (o_val r_mv ?_); refine l_op (o_val (r_fa rfl fo54_2) ?_); refine l_op (o_val (r_lk H (i := 0) rfl rfl rt29 (show Cut3 (([.string ⟨(e107.name).toArray⟩, VI e107.kind] : List Value) ++ ((e107.of.1).map V8 ++ (([VI e107.size] : List Value)))) (([.string ⟨(e107.name).toArray⟩, VI e107.kind] : List Value)) ((e107.of.1).map V8) (([VI e107.size] : List Value)) 2 32 from ⟨(show ([.string ⟨(e107.name).toArray⟩, VI e107.kind] : List Value) ++ ((e107.of.1).map V8 ++ (([VI e107.size] : List Value))) = ([.string ⟨(e107.name).toArray⟩, VI e107.kind] : List Value) ++ (((e107.of.1).map V8) ++ (([VI e107.size] : List Value))) from by simp only [List.cons_append, List.nil_append]), (by rfl), (by simp only [List.length_map, (show (e107.of.1).length = 32 from e107.of.2)])⟩)) ?_); refine l_op (o_val r_mv ?_); refine l_op (o_val (r_fa rfl fo54_0) ?_); refine l_op (o_val (r_l1 (v := .string ⟨(e107.name).toArray⟩) H (i := 0) rfl rfl ct9 (show Cut3 (([.string ⟨(e107.name).toArray⟩, VI e107.kind] : List Value) ++ ((e107.of.1).map V8 ++ (([VI e107.size] : List Value)))) (([] : List Value)) (([.string ⟨(e107.name).toArray⟩] : List Value)) (([VI e107.kind] : List Value) ++ ((e107.of.1).map V8 ++ (([VI e107.size] : List Value)))) 0 1 from ⟨(show ([.string ⟨(e107.name).toArray⟩, VI e107.kind] : List Value) ++ ((e107.of.1).map V8 ++ (([VI e107.size] : List Value))) = ([] : List Value) ++ ((([.string ⟨(e107.name).toArray⟩] : List Value)) ++ (([VI e107.kind] : List Value) ++ ((e107.of.1).map V8 ++ (([VI e107.size] : List Value))))) from by simp only [List.cons_append, List.nil_append]), (by rfl), (by rfl)⟩)) ?_); refine l_op (o_val (r_stradd (a := p) (b := e107.name) rfl rfl (by (try simp only [List.length_cons, List.length_nil]); omega)) ?_); refine l_op (o_val (r_stradd (a := p ++ e107.name) (b := ([47] : List UInt8)) rfl rfl (by (try simp only [List.length_cons, List.length_nil]); omega)) ?_); refine l_op (o_val r_mv ?_); refine l_op (o_val (r_bin (a := (dp : Int)) (b := 1) rfl rfl (fun _ => b_add (by omega) (by omega))) ?_); refine l_op (o_callR Try.func31 rfl rfl rfl (hi (by omega) _ wb z1 (H.ownT (L := [.blk b110 (([.string ⟨(e107.name).toArray⟩, VI e107.kind] : List Value) ++ ((e107.of.1).map V8 ++ (([VI e107.size] : List Value)))) 54, .own a9 l11.length c10 ((l11).flatMap itE) 54 35, .blk wb ([.map (some z1.mo), .map (some z1.mm), VI (z1.n : Int), .bool z1.tl, .slice (hd z1.fa) z1.fs.length z1.fc, VI 0]) 70, .obj z1.mo (mobj kA z1.Mo z1.co), .obj z1.mm (mobj kA z1.Mm z1.cm), .own z1.fa z1.fs.length z1.fc ((z1.fs).flatMap flE) 48 3]) (L1 := [.blk wb ([.map (some z1.mo), .map (some z1.mm), VI (z1.n : Int), .bool z1.tl, .slice (hd z1.fa) z1.fs.length z1.fc, VI 0]) 70, .obj z1.mo (mobj kA z1.Mo z1.co), .obj z1.mm (mobj kA z1.Mm z1.cm), .own z1.fa z1.fs.length z1.fc ((z1.fs).flatMap flE) 48 3]) (Lr := ([.blk b110 (([.string ⟨(e107.name).toArray⟩, VI e107.kind] : List Value) ++ ((e107.of.1).map V8 ++ (([VI e107.size] : List Value)))) 54, .own a9 l11.length c10 ((l11).flatMap itE) 54 35] : List Ch)) (T := z1.T) ((perm_front (j := 2) rfl).trans (.cons _ ((perm_front (j := 2) rfl).trans (.cons _ ((perm_front (j := 2) rfl).trans (.cons _ ((perm_front (j := 2) rfl).trans (.cons _ (.refl _)))))))))) hz1 (ho_up ho hap H) (ap_turn hap ho H (L := [.blk b110 (([.string ⟨(e107.name).toArray⟩, VI e107.kind] : List Value) ++ ((e107.of.1).map V8 ++ (([VI e107.size] : List Value)))) 54, .own a9 l11.length c10 ((l11).flatMap itE) 54 35, .blk wb ([.map (some z1.mo), .map (some z1.mm), VI (z1.n : Int), .bool z1.tl, .slice (hd z1.fa) z1.fs.length z1.fc, VI 0]) 70, .obj z1.mo (mobj kA z1.Mo z1.co), .obj z1.mm (mobj kA z1.Mm z1.cm), .own z1.fa z1.fs.length z1.fc ((z1.fs).flatMap flE) 48 3]) (L1 := [.blk wb ([.map (some z1.mo), .map (some z1.mm), VI (z1.n : Int), .bool z1.tl, .slice (hd z1.fa) z1.fs.length z1.fc, VI 0]) 70, .obj z1.mo (mobj kA z1.Mo z1.co), .obj z1.mm (mobj kA z1.Mm z1.cm), .own z1.fa z1.fs.length z1.fc ((z1.fs).flatMap flE) 48 3]) (Lr := ([.blk b110 (([.string ⟨(e107.name).toArray⟩, VI e107.kind] : List Value) ++ ((e107.of.1).map V8 ++ (([VI e107.size] : List Value)))) 54, .own a9 l11.length c10 ((l11).flatMap itE) 54 35] : List Ch)) (T := z1.T) ((perm_front (j := 2) rfl).trans (.cons _ ((perm_front (j := 2) rfl).trans (.cons _ ((perm_front (j := 2) rfl).trans (.cons _ ((perm_front (j := 2) rfl).trans (.cons _ (.refl _)))))))))) _ hr1 e107.of e107.size (wkid (⟨2, k, sz, dp, tp⟩ : Todo) e107).path ((p ++ e107.name) ++ ([47] : List UInt8)) (kid_path hpp h1) (by have := hnm.1; simp only [List.length_append, List.length_singleton]; omega)) ?_)
         rintro _ w ⟨zz112, ee113, hzz114, htt115, hrr116, Hc⟩
         replace H := H.callT (L1' := [.blk wb ([.map (some zz112.mo), .map (some zz112.mm), VI (zz112.n : Int), .bool zz112.tl, .slice (hd zz112.fa) zz112.fs.length zz112.fc, VI ee113]) 70, .obj zz112.mo (mobj kA zz112.Mo zz112.co), .obj zz112.mm (mobj kA zz112.Mm zz112.cm), .own zz112.fa zz112.fs.length zz112.fc ((zz112.fs).flatMap flE) 48 3]) (T' := zz112.T) (L := [.blk b110 (([.string ⟨(e107.name).toArray⟩, VI e107.kind] : List Value) ++ ((e107.of.1).map V8 ++ (([VI e107.size] : List Value)))) 54, .own a9 l11.length c10 ((l11).flatMap itE) 54 35, .blk wb ([.map (some z1.mo), .map (some z1.mm), VI (z1.n : Int), .bool z1.tl, .slice (hd z1.fa) z1.fs.length z1.fc, VI 0]) 70, .obj z1.mo (mobj kA z1.Mo z1.co), .obj z1.mm (mobj kA z1.Mm z1.cm), .own z1.fa z1.fs.length z1.fc ((z1.fs).flatMap flE) 48 3]) (L1 := [.blk wb ([.map (some z1.mo), .map (some z1.mm), VI (z1.n : Int), .bool z1.tl, .slice (hd z1.fa) z1.fs.length z1.fc, VI 0]) 70, .obj z1.mo (mobj kA z1.Mo z1.co), .obj z1.mm (mobj kA z1.Mm z1.cm), .own z1.fa z1.fs.length z1.fc ((z1.fs).flatMap flE) 48 3]) (Lr := ([.blk b110 (([.string ⟨(e107.name).toArray⟩, VI e107.kind] : List Value) ++ ((e107.of.1).map V8 ++ (([VI e107.size] : List Value)))) 54, .own a9 l11.length c10 ((l11).flatMap itE) 54 35] : List Ch)) (T := z1.T) ((perm_front (j := 2) rfl).trans (.cons _ ((perm_front (j := 2) rfl).trans (.cons _ ((perm_front (j := 2) rfl).trans (.cons _ ((perm_front (j := 2) rfl).trans (.cons _ (.refl _))))))))) Hc (.refl _)
         clear Hc
         replace H : Hp _ w _ (Ch.blk b110 (([.string ⟨(e107.name).toArray⟩, VI e107.kind] : List Value) ++ ((e107.of.1).map V8 ++ (([VI e107.size] : List Value)))) 54 :: Ch.own a9 l11.length c10 ((l11).flatMap itE) 54 35 :: Ch.blk wb ([.map (some zz112.mo), .map (some zz112.mm), VI (zz112.n : Int), .bool zz112.tl, .slice (hd zz112.fa) zz112.fs.length zz112.fc, VI ee113]) 70 :: Ch.obj zz112.mo (mobj kA zz112.Mo zz112.co) :: Ch.obj zz112.mm (mobj kA zz112.Mm zz112.cm) :: Ch.own zz112.fa zz112.fs.length zz112.fc ((zz112.fs).flatMap flE) 48 3 :: zz112.T) := H
         first | refine l_end ?_ | refine l_nil ?_
         repeat refine c_seq ?_
         refine c_region ?_; refine l_op (o_val r_mv ?_); refine l_op (o_val (r_nilc rfl) ?_); refine l_op (o_val (r_fa rfl fo70_5) ?_); refine l_op (o_val (r_ld (v := VI ee113) H (i := 2) rfl rfl ct37 rfl) ?_); refine l_op (o_val (r_bin (a := ee113) (b := 0) rfl rfl (fun _ => b_neq)) ?_); first | refine l_end ?_ | refine l_nil ?_
         by_cases hc117 : ee113 ≠ 0
         ·
          repeat refine c_seq ?_
          refine c_yes (by exact congrArg Value.bool (decide_eq_true hc117)) ?_; refine c_ret ?_; try dsimp only [Exit.then, Exit.inBlock]
          refine e_ret0 Try.results31 ?_
          refine ⟨_, rfl, ?_⟩
          have hne : ¬ ee113 = 0 := by omega
          rw [hopen, kids_stop he108 hSe (by omega) hr1.1.symm (by rw [(kid_dir (by omega)), ← hrr116.1]; exact hne), (kid_dir (by omega))]
          exact ⟨zz112, ee113, fun h => absurd h hne, htt115.trans htl1, hrr116, H.sub (.cons _ (.cons _ (.cons_cons _ (.cons_cons _ (.cons_cons _ (.cons_cons _ (List.Sublist.refl _)))))))⟩
         ·
          repeat refine c_seq ?_
          refine c_no (by exact congrArg Value.bool (decide_eq_false hc117)) ?_; refine c_skip ?_; repeat refine c_seq ?_
          refine c_region ?_; refine l_op (o_val (r_bin (a := (i : Int)) (b := 1) rfl rfl (fun _ => b_add (by omega) (by omega))) ?_); refine l_op (o_val r_mv ?_); first | refine l_end ?_ | refine l_nil ?_
          have he0 : ee113 = 0 := by omega
          subst he0
          refine round_end (i + 1, zz112) ?_ ?_ ?_
          · exact ⟨rfl, rfl, rfl, rfl, rfl, show VI ((i : Int) + 1) = VI ((i + 1 : Nat) : Int) from congrArg VI (by omega), trivial⟩
          · refine ⟨?_, ?_⟩
            · try dsimp only
              exact ⟨by omega, hzz114 rfl, htt115.trans htl1, by rw [kids_next he108 hSe (by omega) hr1.1.symm, (kid_dir (by omega))]; exact hrr116⟩
            · exact H.sub (.cons _ (.cons_cons _ (.cons_cons _ (.cons_cons _ (.cons_cons _ (.cons_cons _ (List.Sublist.refl _)))))))
          · show l11.length - (i + 1 : Nat) < l11.length - i; omega
        ·
         repeat refine c_seq ?_
         refine c_no (by exact congrArg Value.bool (decide_eq_false hc111)) ?_; repeat refine c_seq ?_
         refine c_region ?_; refine l_op (o_val r_mv ?_); refine l_op (o_val (r_ldA (C := ([.string ⟨(e107.name).toArray⟩, VI e107.kind] : List Value) ++ ((e107.of.1).map V8 ++ (([VI e107.size] : List Value)))) H (i := 0) rfl rfl rt54 (by simp only [List.length_append, List.length_map, List.length_cons, List.length_nil, (show (e107.of.1).length = 32 from e107.of.2)])) ?_); refine l_op (o_val r_mv ?_); refine l_op (o_callR Try.func48 rfl rfl rfl (wfile_ret _ l wb z1 (H.ownT (L := [.blk b110 (([.string ⟨(e107.name).toArray⟩, VI e107.kind] : List Value) ++ ((e107.of.1).map V8 ++ (([VI e107.size] : List Value)))) 54, .own a9 l11.length c10 ((l11).flatMap itE) 54 35, .blk wb ([.map (some z1.mo), .map (some z1.mm), VI (z1.n : Int), .bool z1.tl, .slice (hd z1.fa) z1.fs.length z1.fc, VI 0]) 70, .obj z1.mo (mobj kA z1.Mo z1.co), .obj z1.mm (mobj kA z1.Mm z1.cm), .own z1.fa z1.fs.length z1.fc ((z1.fs).flatMap flE) 48 3]) (L1 := [.blk wb ([.map (some z1.mo), .map (some z1.mm), VI (z1.n : Int), .bool z1.tl, .slice (hd z1.fa) z1.fs.length z1.fc, VI 0]) 70, .obj z1.mo (mobj kA z1.Mo z1.co), .obj z1.mm (mobj kA z1.Mm z1.cm), .own z1.fa z1.fs.length z1.fc ((z1.fs).flatMap flE) 48 3]) (Lr := ([.blk b110 (([.string ⟨(e107.name).toArray⟩, VI e107.kind] : List Value) ++ ((e107.of.1).map V8 ++ (([VI e107.size] : List Value)))) 54, .own a9 l11.length c10 ((l11).flatMap itE) 54 35] : List Ch)) (T := z1.T) ((perm_front (j := 2) rfl).trans (.cons _ ((perm_front (j := 2) rfl).trans (.cons _ ((perm_front (j := 2) rfl).trans (.cons _ ((perm_front (j := 2) rfl).trans (.cons _ (.refl _)))))))))) hz1 (ho_up ho hap H) (ap_turn hap ho H (L := [.blk b110 (([.string ⟨(e107.name).toArray⟩, VI e107.kind] : List Value) ++ ((e107.of.1).map V8 ++ (([VI e107.size] : List Value)))) 54, .own a9 l11.length c10 ((l11).flatMap itE) 54 35, .blk wb ([.map (some z1.mo), .map (some z1.mm), VI (z1.n : Int), .bool z1.tl, .slice (hd z1.fa) z1.fs.length z1.fc, VI 0]) 70, .obj z1.mo (mobj kA z1.Mo z1.co), .obj z1.mm (mobj kA z1.Mm z1.cm), .own z1.fa z1.fs.length z1.fc ((z1.fs).flatMap flE) 48 3]) (L1 := [.blk wb ([.map (some z1.mo), .map (some z1.mm), VI (z1.n : Int), .bool z1.tl, .slice (hd z1.fa) z1.fs.length z1.fc, VI 0]) 70, .obj z1.mo (mobj kA z1.Mo z1.co), .obj z1.mm (mobj kA z1.Mm z1.cm), .own z1.fa z1.fs.length z1.fc ((z1.fs).flatMap flE) 48 3]) (Lr := ([.blk b110 (([.string ⟨(e107.name).toArray⟩, VI e107.kind] : List Value) ++ ((e107.of.1).map V8 ++ (([VI e107.size] : List Value)))) 54, .own a9 l11.length c10 ((l11).flatMap itE) 54 35] : List Ch)) (T := z1.T) ((perm_front (j := 2) rfl).trans (.cons _ ((perm_front (j := 2) rfl).trans (.cons _ ((perm_front (j := 2) rfl).trans (.cons _ ((perm_front (j := 2) rfl).trans (.cons _ (.refl _)))))))))) _ hr1 e107 p (dp + 1) (by have := hnm.1; omega)) ?_); rintro _ w ⟨zz118, ee119, hzz120, htt121, hrr122, Hc⟩
         replace H := H.callT (L1' := [.blk wb ([.map (some zz118.mo), .map (some zz118.mm), VI (zz118.n : Int), .bool zz118.tl, .slice (hd zz118.fa) zz118.fs.length zz118.fc, VI ee119]) 70, .obj zz118.mo (mobj kA zz118.Mo zz118.co), .obj zz118.mm (mobj kA zz118.Mm zz118.cm), .own zz118.fa zz118.fs.length zz118.fc ((zz118.fs).flatMap flE) 48 3]) (T' := zz118.T) (L := [.blk b110 (([.string ⟨(e107.name).toArray⟩, VI e107.kind] : List Value) ++ ((e107.of.1).map V8 ++ (([VI e107.size] : List Value)))) 54, .own a9 l11.length c10 ((l11).flatMap itE) 54 35, .blk wb ([.map (some z1.mo), .map (some z1.mm), VI (z1.n : Int), .bool z1.tl, .slice (hd z1.fa) z1.fs.length z1.fc, VI 0]) 70, .obj z1.mo (mobj kA z1.Mo z1.co), .obj z1.mm (mobj kA z1.Mm z1.cm), .own z1.fa z1.fs.length z1.fc ((z1.fs).flatMap flE) 48 3]) (L1 := [.blk wb ([.map (some z1.mo), .map (some z1.mm), VI (z1.n : Int), .bool z1.tl, .slice (hd z1.fa) z1.fs.length z1.fc, VI 0]) 70, .obj z1.mo (mobj kA z1.Mo z1.co), .obj z1.mm (mobj kA z1.Mm z1.cm), .own z1.fa z1.fs.length z1.fc ((z1.fs).flatMap flE) 48 3]) (Lr := ([.blk b110 (([.string ⟨(e107.name).toArray⟩, VI e107.kind] : List Value) ++ ((e107.of.1).map V8 ++ (([VI e107.size] : List Value)))) 54, .own a9 l11.length c10 ((l11).flatMap itE) 54 35] : List Ch)) (T := z1.T) ((perm_front (j := 2) rfl).trans (.cons _ ((perm_front (j := 2) rfl).trans (.cons _ ((perm_front (j := 2) rfl).trans (.cons _ ((perm_front (j := 2) rfl).trans (.cons _ (.refl _))))))))) Hc (.refl _)
         clear Hc
         replace H : Hp _ w _ (Ch.blk b110 (([.string ⟨(e107.name).toArray⟩, VI e107.kind] : List Value) ++ ((e107.of.1).map V8 ++ (([VI e107.size] : List Value)))) 54 :: Ch.own a9 l11.length c10 ((l11).flatMap itE) 54 35 :: Ch.blk wb ([.map (some zz118.mo), .map (some zz118.mm), VI (zz118.n : Int), .bool zz118.tl, .slice (hd zz118.fa) zz118.fs.length zz118.fc, VI ee119]) 70 :: Ch.obj zz118.mo (mobj kA zz118.Mo zz118.co) :: Ch.obj zz118.mm (mobj kA zz118.Mm zz118.cm) :: Ch.own zz118.fa zz118.fs.length zz118.fc ((zz118.fs).flatMap flE) 48 3 :: zz118.T) := H
         first | refine l_end ?_ | refine l_nil ?_
         repeat refine c_seq ?_
         refine c_region ?_; refine l_op (o_val r_mv ?_); refine l_op (o_val (r_nilc rfl) ?_); refine l_op (o_val (r_fa rfl fo70_5) ?_); refine l_op (o_val (r_ld (v := VI ee119) H (i := 2) rfl rfl ct37 rfl) ?_); refine l_op (o_val (r_bin (a := ee119) (b := 0) rfl rfl (fun _ => b_neq)) ?_); first | refine l_end ?_ | refine l_nil ?_
         by_cases hc123 : ee119 ≠ 0
         ·
          repeat refine c_seq ?_
          refine c_yes (by exact congrArg Value.bool (decide_eq_true hc123)) ?_; refine c_ret ?_; try dsimp only [Exit.then, Exit.inBlock]
          refine e_ret0 Try.results31 ?_
          refine ⟨_, rfl, ?_⟩
          have hne : ¬ ee119 = 0 := by omega
          rw [hopen, kids_stop he108 hSe (by omega) hr1.1.symm (by rw [(kid_file hpp (by omega)), ← hrr122.1]; exact hne), (kid_file hpp (by omega))]
          exact ⟨zz118, ee119, fun h => absurd h hne, htt121.trans htl1, hrr122, H.sub (.cons _ (.cons _ (.cons_cons _ (.cons_cons _ (.cons_cons _ (.cons_cons _ (List.Sublist.refl _)))))))⟩
         ·
          repeat refine c_seq ?_
          refine c_no (by exact congrArg Value.bool (decide_eq_false hc123)) ?_; refine c_skip ?_; repeat refine c_seq ?_
          refine c_region ?_; refine l_op (o_val (r_bin (a := (i : Int)) (b := 1) rfl rfl (fun _ => b_add (by omega) (by omega))) ?_); refine l_op (o_val r_mv ?_); first | refine l_end ?_ | refine l_nil ?_
          have he0 : ee119 = 0 := by omega
          subst he0
          refine round_end (i + 1, zz118) ?_ ?_ ?_
          · exact ⟨rfl, rfl, rfl, rfl, rfl, show VI ((i : Int) + 1) = VI ((i + 1 : Nat) : Int) from congrArg VI (by omega), trivial⟩
          · refine ⟨?_, ?_⟩
            · try dsimp only
              exact ⟨by omega, hzz120 rfl, htt121.trans htl1, by rw [kids_next he108 hSe (by omega) hr1.1.symm, (kid_file hpp (by omega))]; exact hrr122⟩
            · exact H.sub (.cons _ (.cons_cons _ (.cons_cons _ (.cons_cons _ (.cons_cons _ (.cons_cons _ (List.Sublist.refl _)))))))
          · show l11.length - (i + 1 : Nat) < l11.length - i; omega
       ·
        repeat refine c_seq ?_
        refine c_no (by exact congrArg Value.bool (decide_eq_false hc104)) ?_; refine c_exit ?_; try simp only [Exit.then, Exit.inBlock, ↓reduceIte]
        refine e_norm ?_; refine e_ret0 Try.results31 ?_
        refine ⟨_, rfl, ?_⟩
        rw [List.take_of_length_le (by omega)] at hr1
        rw [hopen]
        exact ⟨z1, 0, fun _ => hz1, htl1, hr1, H.sub (.cons _ (.cons_cons _ (.cons_cons _ (.cons_cons _ (.cons_cons _ (List.Sublist.refl _))))))⟩
    ·
     refine l_op (o_callR Try.func47 rfl rfl rfl (wobj_miss _ l wb z.mo z.co z.mm z.cm z.n z.fs.length z.fc z.Mo z.Mm z.G (hd z.fa) z.tl hz.hO hz.hOk hz.hM hz.hMk (by omega) k (by omega) hc4 (H.ownU (L := [.blk b1 ((k.1).map V8) 29, .blk wb ([.map (some z.mo), .map (some z.mm), VI (z.n : Int), .bool z.tl, .slice (hd z.fa) z.fs.length z.fc, VI 0]) 70, .obj z.mo (mobj kA z.Mo z.co), .obj z.mm (mobj kA z.Mm z.cm), .own z.fa z.fs.length z.fc ((z.fs).flatMap flE) 48 3]) (L1 := [.blk wb ([.map (some z.mo), .map (some z.mm), VI (z.n : Int), .bool z.tl, .slice (hd z.fa) z.fs.length z.fc, VI 0]) 70, .obj z.mo (mobj kA z.Mo z.co), .obj z.mm (mobj kA z.Mm z.cm)]) (Lr := ([.blk b1 ((k.1).map V8) 29, .own z.fa z.fs.length z.fc ((z.fs).flatMap flE) 48 3] : List Ch)) (T := z.T) ((perm_front (j := 1) rfl).trans (.cons _ ((perm_front (j := 1) rfl).trans (.cons _ ((perm_front (j := 1) rfl).trans (.cons _ (.refl _))))))))) ?_); rintro _ w ⟨rfl, Hc⟩
     replace H := H.callU (L1' := [.blk wb ([.map (some z.mo), .map (some z.mm), VI ((z.n + 1 : Nat) : Int), .bool z.tl, .slice (hd z.fa) z.fs.length z.fc, VI 15]) 70, .obj z.mo (mobj kA z.Mo z.co), .obj z.mm (mobj kA z.Mm z.cm)]) (L := [.blk b1 ((k.1).map V8) 29, .blk wb ([.map (some z.mo), .map (some z.mm), VI (z.n : Int), .bool z.tl, .slice (hd z.fa) z.fs.length z.fc, VI 0]) 70, .obj z.mo (mobj kA z.Mo z.co), .obj z.mm (mobj kA z.Mm z.cm), .own z.fa z.fs.length z.fc ((z.fs).flatMap flE) 48 3]) (L1 := [.blk wb ([.map (some z.mo), .map (some z.mm), VI (z.n : Int), .bool z.tl, .slice (hd z.fa) z.fs.length z.fc, VI 0]) 70, .obj z.mo (mobj kA z.Mo z.co), .obj z.mm (mobj kA z.Mm z.cm)]) (Lr := ([.blk b1 ((k.1).map V8) 29, .own z.fa z.fs.length z.fc ((z.fs).flatMap flE) 48 3] : List Ch)) (T := z.T) ((perm_front (j := 1) rfl).trans (.cons _ ((perm_front (j := 1) rfl).trans (.cons _ ((perm_front (j := 1) rfl).trans (.cons _ (.refl _))))))) Hc ((perm_front (j := 0) rfl).trans (.cons _ ((perm_front (j := 1) rfl).trans (.cons _ ((perm_front (j := 1) rfl).trans (.cons _ ((perm_front (j := 1) rfl).trans (.cons _ (.refl _)))))))))
     clear Hc
     replace H : Hp _ w _ (Ch.blk b1 ((k.1).map V8) 29 :: Ch.blk wb ([.map (some z.mo), .map (some z.mm), VI ((z.n + 1 : Nat) : Int), .bool z.tl, .slice (hd z.fa) z.fs.length z.fc, VI 15]) 70 :: Ch.obj z.mo (mobj kA z.Mo z.co) :: Ch.obj z.mm (mobj kA z.Mm z.cm) :: Ch.own z.fa z.fs.length z.fc ((z.fs).flatMap flE) 48 3 :: z.T) := H
     refine l_op (o_val r_mv ?_); refine l_op (o_val (r_ext rfl rfl) ?_); refine l_op (o_val (r_ext rfl rfl) ?_); refine l_op (o_val r_as ?_); refine l_op (o_val r_as ?_); first | refine l_end ?_ | refine l_nil ?_
     repeat refine c_seq ?_
     refine c_region ?_; refine l_op (o_val r_mv ?_); refine l_op (o_val (r_not rfl) ?_); first | refine l_end ?_ | refine l_nil ?_
     repeat refine c_seq ?_
     refine c_yes rfl ?_; refine c_ret ?_; try dsimp only [Exit.then, Exit.inBlock]
     refine e_ret0 Try.results31 ?_
     refine ⟨_, rfl, ?_⟩
     have hst := step_miss (L := obL l) (t := (⟨2, k, sz, dp, tp⟩ : Todo)) (s := s) (by intro h; rcases h with ⟨_, h⟩ | h <;> (try dsimp only at h) <;> omega) (look_none hc4)
     have hw : wlkAll (obL l) [(⟨2, k, sz, dp, tp⟩ : Todo)] s = { s with err := 15 } := by rw [wlkAll_one (by rw [hst]), hst]
     rw [hw]
     exact ⟨(⟨z.mo, z.Mo, z.co, z.mm, z.Mm, z.cm, z.G, (z.n + 1), z.tl, z.fa, z.fc, z.fs⟩ : WY), 15, fun h => absurd h (by decide), rfl, ⟨rfl, fun h => absurd (show (15 : Int) = 0 from h) (by decide)⟩, H.sub (.cons _ (.cons_cons _ (.cons_cons _ (.cons_cons _ (.cons_cons _ (List.Sublist.refl _))))))⟩
theorem wenter_step {l : List Ob} {dp : Nat} (h1 : 1 ≤ dp) (h9 : dp ≤ 9) (hi : dp ≤ 8 → EnterAt l (dp + 1)) : EnterAt l dp := fun w0 wb z hO hz ho hap s hr k sz tp p hpp hpl => wenter_at l dp h1 h9 hi w0 wb z hO hz ho hap s hr k sz tp p hpp hpl
theorem wenter_all (l : List Ob) : EnterAt l 1 :=
  wenter_step (by omega) (by omega) fun _ => wenter_step (by omega) (by omega) fun _ => wenter_step (by omega) (by omega) fun _ => wenter_step (by omega) (by omega) fun _ => wenter_step (by omega) (by omega) fun _ =>
    wenter_step (by omega) (by omega) fun _ => wenter_step (by omega) (by omega) fun _ => wenter_step (by omega) (by omega) fun _ => wenter_step (by omega) (by omega) fun h => absurd h (by omega)
end Go.Proofs.Ytomjbabllcmodaa
namespace Go.Proofs.Ytomjbabllcmodaa
open Go
set_option maxRecDepth 100000
theorem mkeysInt_ret (w0 : World) (b : Nat) :
    Ret Try.prog 33 [.map (some b)] w0 fun v w' => ∃ bb, v = .func (.func 50) #[] #[.pointer (some ⟨bb, 0, none⟩)] ∧ Hp w0 w' [] [.blk bb [.map (some b)] 68] := by
  refine ret_mk Try.func33 rfl Try.ntmps33 (by simp) ?_
  have H := Hp.refl w0 []
  repeat refine c_seq ?_
  refine c_region ?_; refine l_op (o_box (v := .map (some b)) H rfl (fun b1 w H hb1 => ?_)); replace H : Hp _ w _ ([.blk b1 ([.map (some b)]) 68]) := H
  refine l_op (o_val r_as ?_); first | refine l_end ?_ | refine l_nil ?_
  repeat refine c_seq ?_
  refine c_region ?_; refine l_op (o_val (r_mkfn (vs := [.pointer (some ⟨b1, 0, none⟩)]) rfl) ?_); refine l_op (o_val r_as ?_); first | refine l_end ?_ | refine l_nil ?_
  refine c_ret ?_; try dsimp only [Exit.then, Exit.inBlock]
  refine e_ret1 (v := .func (.func 50) #[] #[.pointer (some ⟨b1, 0, none⟩)]) Try.results33 rfl ?_
  refine ⟨_, rfl, ?_⟩
  exact ⟨_, rfl, H⟩
theorem appseq_ret (w0 : World) (bb b c : Nat) (M : List (Id32 × Value × Nat)) (F : Id32 → Option Int) (hF : MIs VI M F) (hM : MOk M c) (hO : Own w0 [.blk bb [.map (some b)] 68, .obj b (mobj kA M c)]) (hcard : ∀ l : List Id32, l.Nodup → (∀ j ∈ l, (F j).isSome = true) → l.length ≤ 65536) :
    Ret Try.prog 65 [.slice none 0 0, .func (.func 50) #[] #[.pointer (some ⟨bb, 0, none⟩)]] w0 fun v w' => ∃ (a : Option Nat) (k : Nat) (R : List Id32), (R.Nodup ∧ ∀ k, k ∈ R ↔ (F k).isSome = true) ∧ v = .slice (hd a) R.length k ∧ Hp w0 w' (keys [.blk bb [.map (some b)] 68, .obj b (mobj kA M c)]) [.blk bb [.map (some b)] 68, .obj b (mobj kA M c), .own a R.length k (R.flatMap idE) 29 32] := by
  refine ret_mkM Try.func65 rfl Try.ntmps65 (by simp) ?_
  have H : Hp w0 w0 (keys [.blk bb [.map (some b)] 68, .obj b (mobj kA M c)]) [Ch.blk bb ([.map (some b)]) 68, .obj b (mobj kA M c)] := hO.start
  repeat refine c_seq ?_
  refine c_region ?_; refine l_op (o_box (v := .slice none 0 0) H rfl (fun b1 w H hb1 => ?_)); replace H : Hp _ w _ ([.blk bb ([.map (some b)]) 68, .obj b (mobj kA M c), .blk b1 ([.slice none 0 0]) 23]) := H
  refine l_op (o_val r_as ?_); first | refine l_end ?_ | refine l_nil ?_
  repeat refine c_seq ?_
  refine c_region ?_; refine l_op (o_val r_mv ?_); first | refine l_end ?_ | refine l_nil ?_
  repeat refine c_seq ?_
  refine c_block ?_; replace H := H.nilEnd 29 32
  refine c_rangeK (FX := [.blk bb ([.map (some b)]) 68, .obj b (mobj kA M c)]) (Got := fun kk aa => F kk = some aa) (All := fun vis => vis.Nodup ∧ ∀ j, j ∈ vis ↔ (F j).isSome = true) (I := fun (vis : List Id32) (x : List Id32 × Option Nat × Nat) => match x with | (vis0, a, k) => vis0 = vis ∧ vis0.Nodup ∧ (∀ j ∈ vis0, (F j).isSome = true)) (x0 := ([], none, 0)) (itC := fun it vis => Ch.obj it (itO b M c vis)) (kv := kA) Try.func50 rfl rfl (fun Lv l w1 H1 hY => (keysItInt hM hF Lv (fun (vis : List Id32) (x : List Id32 × Option Nat × Nat) => match x with | (vis0, a, k) => vis0 = vis ∧ vis0.Nodup ∧ (∀ j ∈ vis0, (F j).isSome = true)) ([], none, 0) ⟨rfl, List.nodup_nil, fun _ h => (by cases h)⟩ H1 (fun it vis x kk aa W hI hf hk _ _ HW => hY it vis x kk aa W hI hf hk HW)).mono (fun _ _ ⟨vis, x, h1, h2, h3, h4⟩ => ⟨vis, x, h1, ⟨h2, h3⟩, h4⟩)) rfl (fun x : List Id32 × Option Nat × Nat => match x with | (vis0, a, k) => [.blk b1 ([.slice (hd a) vis0.length k]) 23, .own a vis0.length k ((vis0).flatMap idE) 29 32]) H ?_ ?_
  ·
   rintro l T vis x kk aa w hI hgot hk H
   obtain ⟨vis0, a, k⟩ := x
   replace hI : vis0 = vis ∧ vis0.Nodup ∧ (∀ j ∈ vis0, (F j).isSome = true) := hI
   replace H : Hp w0 w (keys [.blk bb [.map (some b)] 68, .obj b (mobj kA M c)]) (Ch.blk bb ([.map (some b)]) 68 :: Ch.obj b (mobj kA M c) :: Ch.blk b1 ([.slice (hd a) vis0.length k]) 23 :: Ch.own a vis0.length k ((vis0).flatMap idE) 29 32 :: T) := H
   repeat refine wpIn_seq ?_
   refine i_region (by rfl) (by rintro ⟨_, _, h⟩; first | exact (show False from h) | cases (And.left h : Exit.outgrown = Exit.normal)) ?_; refine l_op (o_alloc H zc29 (fun b2 w H hb2 => ?_)); replace H := H.rot
   replace H : Hp _ w _ (Ch.blk b2 ((List.replicate 32 (0 : UInt8)).map V8) 29 :: Ch.blk bb ([.map (some b)]) 68 :: Ch.obj b (mobj kA M c) :: Ch.blk b1 ([.slice (hd a) vis0.length k]) 23 :: Ch.own a vis0.length k ((vis0).flatMap idE) 29 32 :: T) := H
   refine l_op (o_stA (l' := kk.1) H (i := 0) rfl rfl rfl cs29 (show (List.replicate 32 (0 : UInt8)).length = 32 from (List.length_replicate ..)) (show (kk.1).length = 32 from kk.2) (fun w H => ?_)); replace H : Hp _ w _ (Ch.blk b2 ((kk.1).map V8) 29 :: Ch.blk bb ([.map (some b)]) 68 :: Ch.obj b (mobj kA M c) :: Ch.blk b1 ([.slice (hd a) vis0.length k]) 23 :: Ch.own a vis0.length k ((vis0).flatMap idE) 29 32 :: T) := H
   first | refine i_end ?_ | refine l_nil ?_
   try dsimp only [Exit.then, Exit.inBlock]
   refine ⟨[.blk b2 ((kk.1).map V8) 29, .blk bb ([.map (some b)]) 68, .obj b (mobj kA M c), .blk b1 ([.slice (hd a) vis0.length k]) 23, .own a vis0.length k ((vis0).flatMap idE) 29 32], H, ?_⟩
   intro T w H
   replace H : Hp w0 w (keys [.blk bb [.map (some b)] 68, .obj b (mobj kA M c)]) (Ch.blk b2 ((kk.1).map V8) 29 :: Ch.blk bb ([.map (some b)]) 68 :: Ch.obj b (mobj kA M c) :: Ch.blk b1 ([.slice (hd a) vis0.length k]) 23 :: Ch.own a vis0.length k ((vis0).flatMap idE) 29 32 :: T) := H
   repeat refine wpIn_seq ?_
   refine i_block ?_; obtain ⟨hv0, hvn, hvs0⟩ := hI
   subst hv0
   have hvs := vis_snoc hvn hvs0 hgot hk
   have hnv : vis0.length ≤ 65536 := hcard vis0 hvn hvs0
   repeat refine wpIn_seq ?_
   refine i_region (by rfl) (by rintro ⟨_, _, h⟩; first | exact (show False from h) | cases (And.left h : Exit.outgrown = Exit.normal)) ?_; refine l_op (o_val (r_ld H (i := 3) rfl rfl ct23 rfl) ?_); refine l_op (o_val (r_ldAA (l := kk.1) H (i := 0) rfl rfl rt29 (show (kk.1).length = 32 from kk.2)) ?_); refine l_op (o_bslG1 (enc := idE) (kk) H sl23 zc29 (by rfl) (by decide) (by decide) rfl (idE_len _) (fun b3 w H hb3 => ?_)); replace H := H.rot
   replace H : Hp _ w _ (Ch.own (some b3) 1 1 (([kk]).flatMap idE) 29 32 :: Ch.blk b2 ((kk.1).map V8) 29 :: Ch.blk bb ([.map (some b)]) 68 :: Ch.obj b (mobj kA M c) :: Ch.blk b1 ([.slice (hd a) vis0.length k]) 23 :: Ch.own a vis0.length k ((vis0).flatMap idE) 29 32 :: T) := H
   refine l_op (o_appG (enc := idE) (s := ⟨hd (some b3), 1, 1, [kk]⟩) (l' := vis0 ++ ([kk])) (len' := vis0.length + 1) rfl rfl H (i := 5) rfl sl23 Try.underlying23 rfl rfl (H.glOwn (i := 0) rfl (by decide) (fun c _ => idE_len c)) (by decide) (fun c _ => idE_all c) (by omega) (by decide) (fun a4 c5 w H => ?_)); replace H : Hp _ w _ (Ch.own (some b3) 1 1 (([kk]).flatMap idE) 29 32 :: Ch.blk b2 ((kk.1).map V8) 29 :: Ch.blk bb ([.map (some b)]) 68 :: Ch.obj b (mobj kA M c) :: Ch.blk b1 ([.slice (hd a) vis0.length k]) 23 :: Ch.own a4 (vis0.length + 1) c5 ((vis0 ++ ([kk])).flatMap idE) 29 32 :: T) := H
   refine l_op (o_st (v := .slice (hd a4) (vis0.length + 1) c5) H (i := 4) rfl rfl rfl cs23 rfl (by first | decide | simp) (fun w H => ?_)); replace H : Hp _ w _ (Ch.own (some b3) 1 1 (([kk]).flatMap idE) 29 32 :: Ch.blk b2 ((kk.1).map V8) 29 :: Ch.blk bb ([.map (some b)]) 68 :: Ch.obj b (mobj kA M c) :: Ch.blk b1 ([.slice (hd a4) (vis0.length + 1) c5]) 23 :: Ch.own a4 (vis0.length + 1) c5 ((vis0 ++ ([kk])).flatMap idE) 29 32 :: T) := H
   first | refine i_end ?_ | refine l_nil ?_
   try dsimp only [Exit.then, Exit.inBlock]
   have hfl2 : vis0.length + 1 = (vis0 ++ [kk]).length := by rw [List.length_append]; rfl
   rw [hfl2] at H
   exact ⟨rfl, (vis0 ++ [kk], a4, c5), ⟨rfl, hvs.1, fun j hj => hvs.2 j hj⟩, H.sub (.cons _ (.cons _ (.cons_cons _ (.cons_cons _ (.cons_cons _ (.cons_cons _ (List.Sublist.refl _)))))))⟩
  ·
   rintro D vis x w hI hA H
   obtain ⟨vis0, a, k⟩ := x
   replace hI : vis0 = vis ∧ vis0.Nodup ∧ (∀ j ∈ vis0, (F j).isSome = true) := hI
   replace H : Hp w0 w (keys [.blk bb [.map (some b)] 68, .obj b (mobj kA M c)]) ([.obj D (.deferred (some [])), .blk bb ([.map (some b)]) 68, .obj b (mobj kA M c), .blk b1 ([.slice (hd a) vis0.length k]) 23, .own a vis0.length k ((vis0).flatMap idE) 29 32]) := H
   obtain ⟨hv0, hvn, hvs0⟩ := hI
   subst hv0
   have hnv : vis0.length ≤ 65536 := hcard vis0 hvn hvs0
   repeat refine c_seq ?_
   refine c_region ?_; refine l_op (d_val (r_ld H (i := 3) rfl rfl ct23 rfl) ?_); refine l_op (d_val (r_as) ?_); first | refine l_end ?_ | refine l_nil ?_
   refine c_ret ?_; try dsimp only [Exit.then, Exit.inBlock]
   refine m_ret1 (v := .slice (hd a) vis0.length k) Try.results65 rfl H (i := 0) rfl ?_
   intro w H
   replace H : Hp w0 w (keys [.blk bb [.map (some b)] 68, .obj b (mobj kA M c)]) ([.blk bb ([.map (some b)]) 68, .obj b (mobj kA M c), .blk b1 ([.slice (hd a) vis0.length k]) 23, .own a vis0.length k ((vis0).flatMap idE) 29 32]) := H
   refine ⟨_, rfl, ?_⟩
   refine ⟨a, k, vis0, hA, rfl, H.sub (.cons_cons _ (.cons_cons _ (.cons _ (.cons_cons _ (List.nil_sublist _)))))⟩
theorem collect_ret (w0 : World) (bb b c : Nat) (M : List (Id32 × Value × Nat)) (F : Id32 → Option Int) (hF : MIs VI M F) (hM : MOk M c) (hO : Own w0 [.blk bb [.map (some b)] 68, .obj b (mobj kA M c)]) (hcard : ∀ l : List Id32, l.Nodup → (∀ j ∈ l, (F j).isSome = true) → l.length ≤ 65536) :
    Ret Try.prog 49 [.func (.func 50) #[] #[.pointer (some ⟨bb, 0, none⟩)]] w0 fun v w' => ∃ (a : Option Nat) (k : Nat) (R : List Id32), (R.Nodup ∧ ∀ k, k ∈ R ↔ (F k).isSome = true) ∧ v = .slice (hd a) R.length k ∧ Hp w0 w' (keys [.blk bb [.map (some b)] 68, .obj b (mobj kA M c)]) [.blk bb [.map (some b)] 68, .obj b (mobj kA M c), .own a R.length k (R.flatMap idE) 29 32] := by
  refine ret_mk Try.func49 rfl Try.ntmps49 (by simp) ?_
  have H : Hp w0 w0 (keys [.blk bb [.map (some b)] 68, .obj b (mobj kA M c)]) [Ch.blk bb ([.map (some b)]) 68, .obj b (mobj kA M c)] := hO.start
  repeat refine c_seq ?_
  refine c_region ?_; refine l_op (o_val r_as ?_); first | refine l_end ?_ | refine l_nil ?_
  repeat refine c_seq ?_
  refine c_region ?_; refine l_op (o_val r_mv ?_); refine l_op (o_callR Try.func65 rfl rfl rfl (appseq_ret _ bb b c M F hF hM (H.ownP (LL := [.blk bb ([.map (some b)]) 68, .obj b (mobj kA M c)]) (L1 := [.blk bb ([.map (some b)]) 68, .obj b (mobj kA M c)]) (Lr := []) (.refl _) rfl) hcard) ?_); rintro _ w ⟨a1, k2, R3, hsq4, rfl, Hc⟩
  replace H := H.callP (L1 := [.blk bb ([.map (some b)]) 68, .obj b (mobj kA M c)]) (Lr := []) (LL := [.blk bb ([.map (some b)]) 68, .obj b (mobj kA M c)]) (.refl _) rfl Hc (.refl _)
  clear Hc
  replace H : Hp _ w _ ([.blk bb ([.map (some b)]) 68, .obj b (mobj kA M c), .own a1 R3.length k2 ((R3).flatMap idE) 29 32]) := H
  refine l_op (o_val r_as ?_); first | refine l_end ?_ | refine l_nil ?_
  refine c_ret ?_; try dsimp only [Exit.then, Exit.inBlock]
  refine e_ret1 (v := .slice (hd a1) R3.length k2) Try.results49 rfl ?_
  refine ⟨_, rfl, ?_⟩
  exact ⟨_, _, _, hsq4, rfl, H.sub (.cons_cons _ (.cons_cons _ (.cons_cons _ (List.nil_sublist _))))⟩
theorem sorted_ret (w0 : World) (bb b c : Nat) (M : List (Id32 × Value × Nat)) (F : Id32 → Option Int) (hF : MIs VI M F) (hM : MOk M c) (hO : Own w0 [.blk bb [.map (some b)] 68, .obj b (mobj kA M c)]) (hcard : ∀ l : List Id32, l.Nodup → (∀ j ∈ l, (F j).isSome = true) → l.length ≤ 65536) :
    Ret Try.prog 32 [.func (.func 50) #[] #[.pointer (some ⟨bb, 0, none⟩)], .func (.func 34) #[] #[]] w0 fun v w' => ∃ (a : Option Nat) (k : Nat) (R : List Id32), (RisA R ∧ ∀ k, k ∈ R ↔ (F k).isSome = true) ∧ v = .slice (hd a) R.length k ∧ Hp w0 w' (keys [.blk bb [.map (some b)] 68, .obj b (mobj kA M c)]) [.blk bb [.map (some b)] 68, .obj b (mobj kA M c), .own a R.length k (R.flatMap idE) 29 32] := by
  refine ret_mk Try.func32 rfl Try.ntmps32 (by simp) ?_
  have H : Hp w0 w0 (keys [.blk bb [.map (some b)] 68, .obj b (mobj kA M c)]) [Ch.blk bb ([.map (some b)]) 68, .obj b (mobj kA M c)] := hO.start
  repeat refine c_seq ?_
  refine c_region ?_; refine l_op (o_val r_as ?_); first | refine l_end ?_ | refine l_nil ?_
  repeat refine c_seq ?_
  refine c_region ?_; refine l_op (o_val r_mv ?_); refine l_op (o_callR Try.func49 rfl rfl rfl (collect_ret _ bb b c M F hF hM (H.ownP (LL := [.blk bb ([.map (some b)]) 68, .obj b (mobj kA M c)]) (L1 := [.blk bb ([.map (some b)]) 68, .obj b (mobj kA M c)]) (Lr := []) (.refl _) rfl) hcard) ?_); rintro _ w ⟨a1, k2, R3, hsq4, rfl, Hc⟩
  replace H := H.callP (L1 := [.blk bb ([.map (some b)]) 68, .obj b (mobj kA M c)]) (Lr := []) (LL := [.blk bb ([.map (some b)]) 68, .obj b (mobj kA M c)]) (.refl _) rfl Hc (.refl _)
  clear Hc
  replace H : Hp _ w _ ([.blk bb ([.map (some b)]) 68, .obj b (mobj kA M c), .own a1 R3.length k2 ((R3).flatMap idE) 29 32]) := H
  refine l_op (o_val r_as ?_); first | refine l_end ?_ | refine l_nil ?_
  have hcl := hcard R3 hsq4.1 (fun j hj => (hsq4.2 j).1 hj)
  repeat refine c_seq ?_
  refine c_region ?_; refine l_op (o_val r_mv ?_); refine l_op (o_val r_mv ?_); refine l_op (o_callR Try.func39 rfl rfl rfl (sortAWlk H (i := 2) rfl rfl (by omega)) ?_); rintro _ w ⟨rfl, Hc⟩
  clear H
  have H := Hc; clear Hc
  replace H : Hp _ w _ ([_, _, .own a1 R3.length k2 ((sortA R3).flatMap idE) 29 32]) := H
  first | refine l_end ?_ | refine l_nil ?_
  repeat refine c_seq ?_
  refine c_region ?_; refine l_op (o_val r_mv ?_); refine l_op (o_val r_as ?_); first | refine l_end ?_ | refine l_nil ?_
  refine c_ret ?_; try dsimp only [Exit.then, Exit.inBlock]
  refine e_ret1 (v := .slice (hd a1) R3.length k2) Try.results32 rfl ?_
  refine ⟨_, rfl, ?_⟩
  have hs := sortA_ris hsq4.1
  refine ⟨a1, k2, sortA R3, ⟨hs.1, fun k => (hs.2 k).trans (hsq4.2 k)⟩, ?_, ?_⟩
  · rw [sortA_len]
  · rw [sortA_len]; exact H.sub (.cons_cons _ (.cons_cons _ (.cons_cons _ (List.nil_sublist _))))
theorem wbegin2_ret (w0 : World) (g : Gl Ob) (hg : g.ok obE 33 w0) (horaw : ∀ o ∈ g.l, o.data.ok w0) (tell : Bool) : Ret Try.prog 30 [g.v, .bool tell] w0 fun v w' => ∃ wb z, v = .pointer (some ⟨wb, 0, none⟩) ∧ z.ok g.l ∧ z.tl = tell ∧ Rel z 0 ⟨0, [], [], 0⟩ ∧ Hp w0 w' [] (wch wb z 0) := by
  refine (wbegin_ret w0 g hg horaw tell).mono fun v w' ⟨wb, mo, mm, Mo, co, hF, hM, hv, H⟩ => ?_
  refine ⟨wb, ⟨mo, Mo, co, mm, [], 0, fun _ => none, 0, tell, none, 0, []⟩, hv, ⟨hF, hM, MIs.nil, MOk.nil, fun k v h => (by cases h), Nat.zero_le _, fun f hf => (by cases hf), Nat.zero_le _⟩, rfl, ⟨rfl, fun _ => ⟨rfl, fun k => ⟨fun h => (by cases h), fun h => (by cases h)⟩, fun _ => rfl⟩⟩, ?_⟩
  have H2 := (H.permL (List.perm_append_comm (l₁ := [_, _]) (l₂ := [_]))).nilEnd 48 3
  exact H2
variable {L : List (Id32 × List UInt8)}
theorem wlkStep_names {s : WS} {t : Todo} (h : (wlkStep L s t).1.err = 0) : (wlkStep L s t).1.names.length = s.names.length + 1 := by
  unfold wlkStep at h ⊢
  split at h
  · simp at h
  · rename_i hc
    rw [if_neg hc]
    cases hd : lookO L t.of with
    | none => rw [hd] at h; simp at h
    | some d =>
      rw [hd] at h
      dsimp only at h ⊢
      by_cases hk : t.kind = 1
      · rw [if_pos hk] at h ⊢
        by_cases hs : (d.length : Int) ≠ t.size
        · rw [if_pos hs] at h; simp at h
        · rw [if_neg hs]; simp
      · rw [if_neg hk] at h ⊢
        cases ht : takeF d with
        | none => rw [ht] at h; simp at h
        | some its => simp
theorem wlkRun_names : ∀ (n : Nat) (a : List Todo) (s : WS), s.names.length = s.met → (wlkRun L n a s).err = 0 → (wlkRun L n a s).names.length = (wlkRun L n a s).met
  | 0, _, s, h, _ => h
  | n + 1, [], s, h, _ => h
  | n + 1, t :: a, s, h0, h => by
    by_cases he : (wlkStep L s t).1.err = 0
    · rw [wlkRun_good he] at h ⊢
      exact wlkRun_names n _ _ (by rw [wlkStep_names he, (wlkStep_met he).1, h0]) h
    · rw [wlkRun_bad he] at h; exact absurd h he
theorem run_card {a : List Todo} {s : WS} {G : Id32 → Option Int} (hs : s.names.length = s.met) (hm : s.met ≤ 1024) (h : (wlkAll L a s).err = 0) (hG : ∀ k, (G k).isSome = true ↔ k ∈ (wlkAll L a s).names) (m : List Id32) (hn : m.Nodup) (hj : ∀ j ∈ m, (G j).isSome = true) : m.length ≤ 1024 := by
  have h1 := nd_le (m := (wlkAll L a s).names) hn (fun x hx => (hG x).1 (hj x hx))
  have h2 : (wlkAll L a s).names.length = (wlkAll L a s).met := wlkRun_names _ _ _ hs h
  have h3 := wlkAll_met hm h
  omega
end Go.Proofs.Ytomjbabllcmodaa
namespace Go.Proofs.Ytomjbabllcmodaa
open Go
set_option maxRecDepth 100000
def FilesOk (W : WS) (fs : List Fl) : Prop := (W.err = 0 → fs.map Fl.key = W.files.map Fil.key) ∧ (W.err ≠ 0 → fs = []) ∧ (∀ f ∈ fs, f.data.a = hd (f.data.a.map (·.block)) ∧ f.data.l.length = f.data.len) ∧ fs.length ≤ 1024
def NamesOk (W : WS) (R : List Id32) : Prop := (W.err = 0 → RisA R ∧ ∀ k, k ∈ R ↔ k ∈ W.names) ∧ (W.err ≠ 0 → R = [])
theorem wfiles_ret (w0 : World) (g : Gl Ob) (hg : g.ok obE 33 w0) (ho : ∀ o ∈ g.l, o.data.ok w0 ∧ o.data.len ≤ 1048576) (k : Id32) :
    Ret Try.prog 19 [g.v, .agg ((k.1).map V8).toArray] w0 fun v w' => ∃ (a : Option Nat) (c : Nat) (fs : List Fl), v = .tuple #[.slice (hd a) fs.length c, VI (wlkAll (obL g.l) [⟨2, k, 0, 1, []⟩] ⟨0, [], [], 0⟩).err] ∧ FilesOk (wlkAll (obL g.l) [⟨2, k, 0, 1, []⟩] ⟨0, [], [], 0⟩) fs ∧ Hp w0 w' [] (.own a fs.length c (fs.flatMap flE) 48 3 :: fs.map fch) := by
  refine ret_mk Try.func19 rfl Try.ntmps19 (by simp) ?_
  have H := Hp.refl w0 []
  have hap : ∀ o ∈ g.l, o.data.l ≠ [] → Apart o.data.a ([] : List Nat) := fun _ _ _ => apart_nil _
  repeat refine c_seq ?_
  refine c_region ?_; refine l_op (o_box (v := .agg ((k.1).map V8).toArray) H rfl (fun b1 w H hb1 => ?_)); replace H : Hp _ w _ ([.blk b1 ((k.1).map V8) 29]) := H
  refine l_op (o_val r_as ?_); refine l_op (o_val r_as ?_); first | refine l_end ?_ | refine l_nil ?_
  repeat refine c_seq ?_
  refine c_region ?_; refine l_op (o_val r_mv ?_); refine l_op (o_callR Try.func30 rfl rfl rfl (wbegin2_ret _ g (hg.up H) (fun o h => (ho_up ho hap H o h).1) true) ?_); rintro _ w ⟨wb2, zz3, rfl, hzz4, htt5, hrr6, Hc⟩
  replace H : Hp _ w _ (Ch.blk b1 ((k.1).map V8) 29 :: Ch.blk wb2 ([.map (some zz3.mo), .map (some zz3.mm), VI (zz3.n : Int), .bool zz3.tl, .slice (hd zz3.fa) zz3.fs.length zz3.fc, VI 0]) 70 :: Ch.obj zz3.mo (mobj kA zz3.Mo zz3.co) :: Ch.obj zz3.mm (mobj kA zz3.Mm zz3.cm) :: Ch.own zz3.fa zz3.fs.length zz3.fc ((zz3.fs).flatMap flE) 48 3 :: zz3.T) := H.call Hc
  clear Hc
  refine l_op (o_val r_as ?_); first | refine l_end ?_ | refine l_nil ?_
  repeat refine c_seq ?_
  refine c_region ?_; refine l_op (o_val r_mv ?_); refine l_op (o_val (r_ldAA (l := k.1) H (i := 0) rfl rfl rt29 (show (k.1).length = 32 from k.2)) ?_); refine l_op (o_callR Try.func31 rfl rfl rfl (wenter_all g.l _ wb2 zz3 (H.ownT (L := [.blk b1 ((k.1).map V8) 29, .blk wb2 ([.map (some zz3.mo), .map (some zz3.mm), VI (zz3.n : Int), .bool zz3.tl, .slice (hd zz3.fa) zz3.fs.length zz3.fc, VI 0]) 70, .obj zz3.mo (mobj kA zz3.Mo zz3.co), .obj zz3.mm (mobj kA zz3.Mm zz3.cm), .own zz3.fa zz3.fs.length zz3.fc ((zz3.fs).flatMap flE) 48 3]) (L1 := [.blk wb2 ([.map (some zz3.mo), .map (some zz3.mm), VI (zz3.n : Int), .bool zz3.tl, .slice (hd zz3.fa) zz3.fs.length zz3.fc, VI 0]) 70, .obj zz3.mo (mobj kA zz3.Mo zz3.co), .obj zz3.mm (mobj kA zz3.Mm zz3.cm), .own zz3.fa zz3.fs.length zz3.fc ((zz3.fs).flatMap flE) 48 3]) (Lr := ([.blk b1 ((k.1).map V8) 29] : List Ch)) (T := zz3.T) ((perm_front (j := 1) rfl).trans (.cons _ ((perm_front (j := 1) rfl).trans (.cons _ ((perm_front (j := 1) rfl).trans (.cons _ ((perm_front (j := 1) rfl).trans (.cons _ (.refl _)))))))))) hzz4 (ho_up ho hap H) (ap_turn hap ho H (L := [.blk b1 ((k.1).map V8) 29, .blk wb2 ([.map (some zz3.mo), .map (some zz3.mm), VI (zz3.n : Int), .bool zz3.tl, .slice (hd zz3.fa) zz3.fs.length zz3.fc, VI 0]) 70, .obj zz3.mo (mobj kA zz3.Mo zz3.co), .obj zz3.mm (mobj kA zz3.Mm zz3.cm), .own zz3.fa zz3.fs.length zz3.fc ((zz3.fs).flatMap flE) 48 3]) (L1 := [.blk wb2 ([.map (some zz3.mo), .map (some zz3.mm), VI (zz3.n : Int), .bool zz3.tl, .slice (hd zz3.fa) zz3.fs.length zz3.fc, VI 0]) 70, .obj zz3.mo (mobj kA zz3.Mo zz3.co), .obj zz3.mm (mobj kA zz3.Mm zz3.cm), .own zz3.fa zz3.fs.length zz3.fc ((zz3.fs).flatMap flE) 48 3]) (Lr := ([.blk b1 ((k.1).map V8) 29] : List Ch)) (T := zz3.T) ((perm_front (j := 1) rfl).trans (.cons _ ((perm_front (j := 1) rfl).trans (.cons _ ((perm_front (j := 1) rfl).trans (.cons _ ((perm_front (j := 1) rfl).trans (.cons _ (.refl _)))))))))) _ hrr6 k 0 [] [] rfl (by simp)) ?_); rintro _ w ⟨zz7, ee8, hzz9, htt10, hrr11, Hc⟩
  replace H := H.callT (L1' := [.blk wb2 ([.map (some zz7.mo), .map (some zz7.mm), VI (zz7.n : Int), .bool zz7.tl, .slice (hd zz7.fa) zz7.fs.length zz7.fc, VI ee8]) 70, .obj zz7.mo (mobj kA zz7.Mo zz7.co), .obj zz7.mm (mobj kA zz7.Mm zz7.cm), .own zz7.fa zz7.fs.length zz7.fc ((zz7.fs).flatMap flE) 48 3]) (T' := zz7.T) (L := [.blk b1 ((k.1).map V8) 29, .blk wb2 ([.map (some zz3.mo), .map (some zz3.mm), VI (zz3.n : Int), .bool zz3.tl, .slice (hd zz3.fa) zz3.fs.length zz3.fc, VI 0]) 70, .obj zz3.mo (mobj kA zz3.Mo zz3.co), .obj zz3.mm (mobj kA zz3.Mm zz3.cm), .own zz3.fa zz3.fs.length zz3.fc ((zz3.fs).flatMap flE) 48 3]) (L1 := [.blk wb2 ([.map (some zz3.mo), .map (some zz3.mm), VI (zz3.n : Int), .bool zz3.tl, .slice (hd zz3.fa) zz3.fs.length zz3.fc, VI 0]) 70, .obj zz3.mo (mobj kA zz3.Mo zz3.co), .obj zz3.mm (mobj kA zz3.Mm zz3.cm), .own zz3.fa zz3.fs.length zz3.fc ((zz3.fs).flatMap flE) 48 3]) (Lr := ([.blk b1 ((k.1).map V8) 29] : List Ch)) (T := zz3.T) ((perm_front (j := 1) rfl).trans (.cons _ ((perm_front (j := 1) rfl).trans (.cons _ ((perm_front (j := 1) rfl).trans (.cons _ ((perm_front (j := 1) rfl).trans (.cons _ (.refl _))))))))) Hc (.refl _)
  clear Hc
  replace H : Hp _ w _ (Ch.blk b1 ((k.1).map V8) 29 :: Ch.blk wb2 ([.map (some zz7.mo), .map (some zz7.mm), VI (zz7.n : Int), .bool zz7.tl, .slice (hd zz7.fa) zz7.fs.length zz7.fc, VI ee8]) 70 :: Ch.obj zz7.mo (mobj kA zz7.Mo zz7.co) :: Ch.obj zz7.mm (mobj kA zz7.Mm zz7.cm) :: Ch.own zz7.fa zz7.fs.length zz7.fc ((zz7.fs).flatMap flE) 48 3 :: zz7.T) := H
  first | refine l_end ?_ | refine l_nil ?_
  repeat refine c_seq ?_
  refine c_region ?_; refine l_op (o_val r_mv ?_); refine l_op (o_val (r_nilc rfl) ?_); refine l_op (o_val (r_fa rfl fo70_5) ?_); refine l_op (o_val (r_ld (v := VI ee8) H (i := 1) rfl rfl ct37 rfl) ?_); refine l_op (o_val (r_bin (a := ee8) (b := 0) rfl rfl (fun _ => b_neq)) ?_); first | refine l_end ?_ | refine l_nil ?_
  by_cases hc12 : ee8 ≠ 0
  ·
   repeat refine c_seq ?_
   refine c_yes (by exact congrArg Value.bool (decide_eq_true hc12)) ?_; repeat refine c_seq ?_
   refine c_still mixed (by kernel_rfl) ?_; replace H := H.drew
   refine s_op (r_mv) ?_; refine s_op (r_nilc rfl) ?_; refine s_op (r_fa rfl fo70_5) ?_; refine s_op (r_ld (v := VI ee8) H (i := 1) rfl rfl ct37 rfl) ?_; refine s_op (r_as) ?_; refine s_op (r_as) ?_; refine s_nil ?_; refine c_ret ?_; try dsimp only [Exit.then, Exit.inBlock]
   refine e_retN (vs := [.slice none 0 0, VI ee8]) _ Try.results19 rfl (resT (v := .slice none 0 0) rfl (resT (v := VI ee8) rfl (resZ))) ?_
   refine ⟨_, rfl, ?_⟩
   have he := hrr11.1
   exact ⟨none, 0, [], by rw [← he]; rfl, ⟨fun h => absurd (he.trans h) (by omega), fun _ => rfl, fun f hf => (by cases hf), Nat.zero_le _⟩, (H.sub (List.nil_sublist _)).nilEnd 48 3⟩
  ·
   repeat refine c_seq ?_
   refine c_no (by exact congrArg Value.bool (decide_eq_false hc12)) ?_; refine c_skip ?_; repeat refine c_seq ?_
   refine c_region ?_; refine l_op (o_val r_mv ?_); refine l_op (o_val (r_nilc rfl) ?_); refine l_op (o_val (r_fa rfl fo70_4) ?_); refine l_op (o_val (r_ld (v := .slice (hd zz7.fa) zz7.fs.length zz7.fc) H (i := 1) rfl rfl ct40 rfl) ?_); refine l_op (o_val r_as ?_); refine l_op (o_val r_as ?_); first | refine l_end ?_ | refine l_nil ?_
   refine c_ret ?_; try dsimp only [Exit.then, Exit.inBlock]
   refine e_retN (vs := [.slice (hd zz7.fa) zz7.fs.length zz7.fc, VI 0]) _ Try.results19 rfl (resT (v := .slice (hd zz7.fa) zz7.fs.length zz7.fc) rfl (resT (v := VI 0) rfl (resZ))) ?_
   refine ⟨_, rfl, ?_⟩
   have he0 : ee8 = 0 := by omega
   subst he0
   exact ⟨zz7.fa, zz7.fc, zz7.fs, by rw [← hrr11.1], ⟨fun h => (hrr11.2 h).2.2 (htt10.trans htt5), fun h => absurd hrr11.1.symm h, (hzz9 rfl).fat, by have h1 := (hzz9 rfl).fl; have h2 := (hzz9 rfl).nn; omega⟩, H.sub (.cons _ (.cons _ (.cons _ (.cons _ (.cons_cons _ (List.Sublist.refl _))))))⟩
theorem wclose_ret (w0 : World) (g : Gl Ob) (hg : g.ok obE 33 w0) (ho : ∀ o ∈ g.l, o.data.ok w0 ∧ o.data.len ≤ 1048576) (k : Id32) :
    Ret Try.prog 18 [g.v, .agg ((k.1).map V8).toArray] w0 fun v w' => ∃ (a : Option Nat) (c : Nat) (R : List Id32), v = .tuple #[.slice (hd a) R.length c, VI (wlkAll (obL g.l) [⟨2, k, 0, 1, []⟩] ⟨0, [], [], 0⟩).err] ∧ NamesOk (wlkAll (obL g.l) [⟨2, k, 0, 1, []⟩] ⟨0, [], [], 0⟩) R ∧ Hp w0 w' [] [.own a R.length c (R.flatMap idE) 29 32] := by
  refine ret_mk Try.func18 rfl Try.ntmps18 (by simp) ?_
  have H := Hp.refl w0 []
  have hap : ∀ o ∈ g.l, o.data.l ≠ [] → Apart o.data.a ([] : List Nat) := fun _ _ _ => apart_nil _
  repeat refine c_seq ?_
  refine c_region ?_; refine l_op (o_box (v := .agg ((k.1).map V8).toArray) H rfl (fun b1 w H hb1 => ?_)); replace H : Hp _ w _ ([.blk b1 ((k.1).map V8) 29]) := H
  refine l_op (o_val r_as ?_); refine l_op (o_val r_as ?_); first | refine l_end ?_ | refine l_nil ?_
  repeat refine c_seq ?_
  refine c_region ?_; refine l_op (o_val r_mv ?_); refine l_op (o_callR Try.func30 rfl rfl rfl (wbegin2_ret _ g (hg.up H) (fun o h => (ho_up ho hap H o h).1) false) ?_); rintro _ w ⟨wb2, zz3, rfl, hzz4, htt5, hrr6, Hc⟩
  replace H : Hp _ w _ (Ch.blk b1 ((k.1).map V8) 29 :: Ch.blk wb2 ([.map (some zz3.mo), .map (some zz3.mm), VI (zz3.n : Int), .bool zz3.tl, .slice (hd zz3.fa) zz3.fs.length zz3.fc, VI 0]) 70 :: Ch.obj zz3.mo (mobj kA zz3.Mo zz3.co) :: Ch.obj zz3.mm (mobj kA zz3.Mm zz3.cm) :: Ch.own zz3.fa zz3.fs.length zz3.fc ((zz3.fs).flatMap flE) 48 3 :: zz3.T) := H.call Hc
  clear Hc
  refine l_op (o_val r_as ?_); first | refine l_end ?_ | refine l_nil ?_
  repeat refine c_seq ?_
  refine c_region ?_; refine l_op (o_val r_mv ?_); refine l_op (o_val (r_ldAA (l := k.1) H (i := 0) rfl rfl rt29 (show (k.1).length = 32 from k.2)) ?_); refine l_op (o_callR Try.func31 rfl rfl rfl (wenter_all g.l _ wb2 zz3 (H.ownT (L := [.blk b1 ((k.1).map V8) 29, .blk wb2 ([.map (some zz3.mo), .map (some zz3.mm), VI (zz3.n : Int), .bool zz3.tl, .slice (hd zz3.fa) zz3.fs.length zz3.fc, VI 0]) 70, .obj zz3.mo (mobj kA zz3.Mo zz3.co), .obj zz3.mm (mobj kA zz3.Mm zz3.cm), .own zz3.fa zz3.fs.length zz3.fc ((zz3.fs).flatMap flE) 48 3]) (L1 := [.blk wb2 ([.map (some zz3.mo), .map (some zz3.mm), VI (zz3.n : Int), .bool zz3.tl, .slice (hd zz3.fa) zz3.fs.length zz3.fc, VI 0]) 70, .obj zz3.mo (mobj kA zz3.Mo zz3.co), .obj zz3.mm (mobj kA zz3.Mm zz3.cm), .own zz3.fa zz3.fs.length zz3.fc ((zz3.fs).flatMap flE) 48 3]) (Lr := ([.blk b1 ((k.1).map V8) 29] : List Ch)) (T := zz3.T) ((perm_front (j := 1) rfl).trans (.cons _ ((perm_front (j := 1) rfl).trans (.cons _ ((perm_front (j := 1) rfl).trans (.cons _ ((perm_front (j := 1) rfl).trans (.cons _ (.refl _)))))))))) hzz4 (ho_up ho hap H) (ap_turn hap ho H (L := [.blk b1 ((k.1).map V8) 29, .blk wb2 ([.map (some zz3.mo), .map (some zz3.mm), VI (zz3.n : Int), .bool zz3.tl, .slice (hd zz3.fa) zz3.fs.length zz3.fc, VI 0]) 70, .obj zz3.mo (mobj kA zz3.Mo zz3.co), .obj zz3.mm (mobj kA zz3.Mm zz3.cm), .own zz3.fa zz3.fs.length zz3.fc ((zz3.fs).flatMap flE) 48 3]) (L1 := [.blk wb2 ([.map (some zz3.mo), .map (some zz3.mm), VI (zz3.n : Int), .bool zz3.tl, .slice (hd zz3.fa) zz3.fs.length zz3.fc, VI 0]) 70, .obj zz3.mo (mobj kA zz3.Mo zz3.co), .obj zz3.mm (mobj kA zz3.Mm zz3.cm), .own zz3.fa zz3.fs.length zz3.fc ((zz3.fs).flatMap flE) 48 3]) (Lr := ([.blk b1 ((k.1).map V8) 29] : List Ch)) (T := zz3.T) ((perm_front (j := 1) rfl).trans (.cons _ ((perm_front (j := 1) rfl).trans (.cons _ ((perm_front (j := 1) rfl).trans (.cons _ ((perm_front (j := 1) rfl).trans (.cons _ (.refl _)))))))))) _ hrr6 k 0 [] [] rfl (by simp)) ?_); rintro _ w ⟨zz7, ee8, hzz9, htt10, hrr11, Hc⟩
  replace H := H.callT (L1' := [.blk wb2 ([.map (some zz7.mo), .map (some zz7.mm), VI (zz7.n : Int), .bool zz7.tl, .slice (hd zz7.fa) zz7.fs.length zz7.fc, VI ee8]) 70, .obj zz7.mo (mobj kA zz7.Mo zz7.co), .obj zz7.mm (mobj kA zz7.Mm zz7.cm), .own zz7.fa zz7.fs.length zz7.fc ((zz7.fs).flatMap flE) 48 3]) (T' := zz7.T) (L := [.blk b1 ((k.1).map V8) 29, .blk wb2 ([.map (some zz3.mo), .map (some zz3.mm), VI (zz3.n : Int), .bool zz3.tl, .slice (hd zz3.fa) zz3.fs.length zz3.fc, VI 0]) 70, .obj zz3.mo (mobj kA zz3.Mo zz3.co), .obj zz3.mm (mobj kA zz3.Mm zz3.cm), .own zz3.fa zz3.fs.length zz3.fc ((zz3.fs).flatMap flE) 48 3]) (L1 := [.blk wb2 ([.map (some zz3.mo), .map (some zz3.mm), VI (zz3.n : Int), .bool zz3.tl, .slice (hd zz3.fa) zz3.fs.length zz3.fc, VI 0]) 70, .obj zz3.mo (mobj kA zz3.Mo zz3.co), .obj zz3.mm (mobj kA zz3.Mm zz3.cm), .own zz3.fa zz3.fs.length zz3.fc ((zz3.fs).flatMap flE) 48 3]) (Lr := ([.blk b1 ((k.1).map V8) 29] : List Ch)) (T := zz3.T) ((perm_front (j := 1) rfl).trans (.cons _ ((perm_front (j := 1) rfl).trans (.cons _ ((perm_front (j := 1) rfl).trans (.cons _ ((perm_front (j := 1) rfl).trans (.cons _ (.refl _))))))))) Hc (.refl _)
  clear Hc
  replace H : Hp _ w _ (Ch.blk b1 ((k.1).map V8) 29 :: Ch.blk wb2 ([.map (some zz7.mo), .map (some zz7.mm), VI (zz7.n : Int), .bool zz7.tl, .slice (hd zz7.fa) zz7.fs.length zz7.fc, VI ee8]) 70 :: Ch.obj zz7.mo (mobj kA zz7.Mo zz7.co) :: Ch.obj zz7.mm (mobj kA zz7.Mm zz7.cm) :: Ch.own zz7.fa zz7.fs.length zz7.fc ((zz7.fs).flatMap flE) 48 3 :: zz7.T) := H
  first | refine l_end ?_ | refine l_nil ?_
  repeat refine c_seq ?_
  refine c_region ?_; refine l_op (o_val r_mv ?_); refine l_op (o_val (r_nilc rfl) ?_); refine l_op (o_val (r_fa rfl fo70_5) ?_); refine l_op (o_val (r_ld (v := VI ee8) H (i := 1) rfl rfl ct37 rfl) ?_); refine l_op (o_val (r_bin (a := ee8) (b := 0) rfl rfl (fun _ => b_neq)) ?_); first | refine l_end ?_ | refine l_nil ?_
  by_cases hc12 : ee8 ≠ 0
  ·
   repeat refine c_seq ?_
   refine c_yes (by exact congrArg Value.bool (decide_eq_true hc12)) ?_; repeat refine c_seq ?_
   refine c_still mixed (by kernel_rfl) ?_; replace H := H.drew
   refine s_op (r_mv) ?_; refine s_op (r_nilc rfl) ?_; refine s_op (r_fa rfl fo70_5) ?_; refine s_op (r_ld (v := VI ee8) H (i := 1) rfl rfl ct37 rfl) ?_; refine s_op (r_as) ?_; refine s_op (r_as) ?_; refine s_nil ?_; refine c_ret ?_; try dsimp only [Exit.then, Exit.inBlock]
   refine e_retN (vs := [.slice none 0 0, VI ee8]) _ Try.results18 rfl (resT (v := .slice none 0 0) rfl (resT (v := VI ee8) rfl (resZ))) ?_
   refine ⟨_, rfl, ?_⟩
   have he := hrr11.1
   exact ⟨none, 0, [], by rw [← he]; rfl, ⟨fun h => absurd (he.trans h) (by omega), fun _ => rfl⟩, (H.sub (List.nil_sublist _)).nilEnd 29 32⟩
  ·
   repeat refine c_seq ?_
   refine c_no (by exact congrArg Value.bool (decide_eq_false hc12)) ?_; refine c_skip ?_; have he0 : ee8 = 0 := by omega
   subst he0
   replace H := H.sub (.cons _ (.cons_cons _ (.cons _ (.cons_cons _ (List.nil_sublist _)))))
   replace H : Hp _ w _ ([.blk wb2 ([.map (some zz7.mo), .map (some zz7.mm), VI (zz7.n : Int), .bool zz7.tl, .slice (hd zz7.fa) zz7.fs.length zz7.fc, VI 0]) 70, _]) := H
   repeat refine c_seq ?_
   refine c_region ?_; refine l_op (o_val r_mv ?_); refine l_op (o_val (r_nilc rfl) ?_); refine l_op (o_val (r_fa rfl fo70_1) ?_); refine l_op (o_val (r_ld (v := .map (some zz7.mm)) H (i := 0) rfl rfl ct68 rfl) ?_); refine l_op (o_callR Try.func33 rfl rfl rfl (mkeysInt_ret _ zz7.mm) ?_); rintro _ w ⟨bb13, rfl, Hc⟩
   replace H : Hp _ w _ ([_, _, .blk bb13 ([.map (some zz7.mm)]) 68]) := H.call Hc
   clear Hc
   refine l_op (o_callR Try.func32 rfl rfl rfl (sorted_ret _ bb13 zz7.mm zz7.cm zz7.Mm zz7.G (hzz9 rfl).hM (hzz9 rfl).hMk (H.ownP (LL := [.blk bb13 ([.map (some zz7.mm)]) 68, .obj zz7.mm (mobj kA zz7.Mm zz7.cm), .blk wb2 ([.map (some zz7.mo), .map (some zz7.mm), VI (zz7.n : Int), .bool zz7.tl, .slice (hd zz7.fa) zz7.fs.length zz7.fc, VI 0]) 70]) (L1 := [.blk bb13 ([.map (some zz7.mm)]) 68, .obj zz7.mm (mobj kA zz7.Mm zz7.cm)]) (Lr := [.blk wb2 ([.map (some zz7.mo), .map (some zz7.mm), VI (zz7.n : Int), .bool zz7.tl, .slice (hd zz7.fa) zz7.fs.length zz7.fc, VI 0]) 70]) ((perm_front (j := 2) rfl).trans (.cons _ ((perm_front (j := 1) rfl).trans (.cons _ (.refl _))))) rfl) (fun m hn hj => Nat.le_trans (run_card rfl (Nat.zero_le _) hrr11.1.symm (hrr11.2 hrr11.1.symm).2.1 m hn hj) (by decide))) ?_); rintro _ w ⟨a14, k15, R16, hsq17, rfl, Hc⟩
   replace H := H.callP (L1 := [.blk bb13 ([.map (some zz7.mm)]) 68, .obj zz7.mm (mobj kA zz7.Mm zz7.cm)]) (Lr := [.blk wb2 ([.map (some zz7.mo), .map (some zz7.mm), VI (zz7.n : Int), .bool zz7.tl, .slice (hd zz7.fa) zz7.fs.length zz7.fc, VI 0]) 70]) (LL := [.blk bb13 ([.map (some zz7.mm)]) 68, .obj zz7.mm (mobj kA zz7.Mm zz7.cm), .blk wb2 ([.map (some zz7.mo), .map (some zz7.mm), VI (zz7.n : Int), .bool zz7.tl, .slice (hd zz7.fa) zz7.fs.length zz7.fc, VI 0]) 70]) ((perm_front (j := 2) rfl).trans (.cons _ ((perm_front (j := 1) rfl).trans (.cons _ (.refl _))))) rfl Hc ((perm_front (j := 0) rfl).trans (.cons _ ((perm_front (j := 1) rfl).trans (.cons _ (.refl _)))))
   clear Hc
   replace H : Hp _ w _ ([_, _, _, .own a14 R16.length k15 ((R16).flatMap idE) 29 32]) := H
   refine l_op (o_val r_as ?_); refine l_op (o_val r_as ?_); first | refine l_end ?_ | refine l_nil ?_
   refine c_ret ?_; try dsimp only [Exit.then, Exit.inBlock]
   refine e_retN (vs := [.slice (hd a14) R16.length k15, VI 0]) _ Try.results18 rfl (resT (v := .slice (hd a14) R16.length k15) rfl (resT (v := VI 0) rfl (resZ))) ?_
   refine ⟨_, rfl, ?_⟩
   exact ⟨_, _, R16, by rw [← hrr11.1], ⟨fun h => ⟨hsq17.1, fun k => (hsq17.2 k).trans ((hrr11.2 h).2.1 k)⟩, fun h => absurd hrr11.1.symm h⟩, H.sub (.cons _ (.cons _ (.cons _ (.cons_cons _ (List.nil_sublist _)))))⟩
end Go.Proofs.Ytomjbabllcmodaa
namespace Go.Proofs.Ytomjbabllcmodaa
open Go
set_option maxRecDepth 100000
section
variable {P : Program} {n : Nat} {σ : Nat → Value} {w : World} {Q : Exit → Act → World → Prop}
theorem c_loop15 {α0 α1 α2 α3 α4 α5 α6 α7 α8 α9 α10 α11 α12 α13 α14 : Type} {c : Code} (pat : α0 → α1 → α2 → α3 → α4 → α5 → α6 → α7 → α8 → α9 → α10 → α11 → α12 → α13 → α14 → List (Nat × Value)) (A : α0 → α1 → α2 → α3 → α4 → α5 → α6 → α7 → α8 → α9 → α10 → α11 → α12 → α13 → α14 → World → Prop) (μ : α0 → α1 → α2 → α3 → α4 → α5 → α6 → α7 → α8 → α9 → α10 → α11 → α12 → α13 → α14 → Nat) (x0 : α0) (x1 : α1) (x2 : α2) (x3 : α3) (x4 : α4) (x5 : α5) (x6 : α6) (x7 : α7) (x8 : α8) (x9 : α9) (x10 : α10) (x11 : α11) (x12 : α12) (x13 : α13) (x14 : α14) (hp : fits σ (pat x0 x1 x2 x3 x4 x5 x6 x7 x8 x9 x10 x11 x12 x13 x14)) (hA : A x0 x1 x2 x3 x4 x5 x6 x7 x8 x9 x10 x11 x12 x13 x14 w)
    (h : ∀ x0 x1 x2 x3 x4 x5 x6 x7 x8 x9 x10 x11 x12 x13 x14 τ w, A x0 x1 x2 x3 x4 x5 x6 x7 x8 x9 x10 x11 x12 x13 x14 w → c.wp P (Exit.then (Rnd n (fun y : α0 × α1 × α2 × α3 × α4 × α5 × α6 × α7 × α8 × α9 × α10 × α11 × α12 × α13 × α14 => pat y.1 y.2.1 y.2.2.1 y.2.2.2.1 y.2.2.2.2.1 y.2.2.2.2.2.1 y.2.2.2.2.2.2.1 y.2.2.2.2.2.2.2.1 y.2.2.2.2.2.2.2.2.1 y.2.2.2.2.2.2.2.2.2.1 y.2.2.2.2.2.2.2.2.2.2.1 y.2.2.2.2.2.2.2.2.2.2.2.1 y.2.2.2.2.2.2.2.2.2.2.2.2.1 y.2.2.2.2.2.2.2.2.2.2.2.2.2.1 y.2.2.2.2.2.2.2.2.2.2.2.2.2.2) (fun y => A y.1 y.2.1 y.2.2.1 y.2.2.2.1 y.2.2.2.2.1 y.2.2.2.2.2.1 y.2.2.2.2.2.2.1 y.2.2.2.2.2.2.2.1 y.2.2.2.2.2.2.2.2.1 y.2.2.2.2.2.2.2.2.2.1 y.2.2.2.2.2.2.2.2.2.2.1 y.2.2.2.2.2.2.2.2.2.2.2.1 y.2.2.2.2.2.2.2.2.2.2.2.2.1 y.2.2.2.2.2.2.2.2.2.2.2.2.2.1 y.2.2.2.2.2.2.2.2.2.2.2.2.2.2) (fun y => μ y.1 y.2.1 y.2.2.1 y.2.2.2.1 y.2.2.2.2.1 y.2.2.2.2.2.1 y.2.2.2.2.2.2.1 y.2.2.2.2.2.2.2.1 y.2.2.2.2.2.2.2.2.1 y.2.2.2.2.2.2.2.2.2.1 y.2.2.2.2.2.2.2.2.2.2.1 y.2.2.2.2.2.2.2.2.2.2.2.1 y.2.2.2.2.2.2.2.2.2.2.2.2.1 y.2.2.2.2.2.2.2.2.2.2.2.2.2.1 y.2.2.2.2.2.2.2.2.2.2.2.2.2.2) (μ x0 x1 x2 x3 x4 x5 x6 x7 x8 x9 x10 x11 x12 x13 x14)) Q) (mk n (ups τ (pat x0 x1 x2 x3 x4 x5 x6 x7 x8 x9 x10 x11 x12 x13 x14))) w) : (Code.loop c).wp P Q (mk n σ) w :=
  c_loop (fun y : α0 × α1 × α2 × α3 × α4 × α5 × α6 × α7 × α8 × α9 × α10 × α11 × α12 × α13 × α14 => pat y.1 y.2.1 y.2.2.1 y.2.2.2.1 y.2.2.2.2.1 y.2.2.2.2.2.1 y.2.2.2.2.2.2.1 y.2.2.2.2.2.2.2.1 y.2.2.2.2.2.2.2.2.1 y.2.2.2.2.2.2.2.2.2.1 y.2.2.2.2.2.2.2.2.2.2.1 y.2.2.2.2.2.2.2.2.2.2.2.1 y.2.2.2.2.2.2.2.2.2.2.2.2.1 y.2.2.2.2.2.2.2.2.2.2.2.2.2.1 y.2.2.2.2.2.2.2.2.2.2.2.2.2.2) (fun y => A y.1 y.2.1 y.2.2.1 y.2.2.2.1 y.2.2.2.2.1 y.2.2.2.2.2.1 y.2.2.2.2.2.2.1 y.2.2.2.2.2.2.2.1 y.2.2.2.2.2.2.2.2.1 y.2.2.2.2.2.2.2.2.2.1 y.2.2.2.2.2.2.2.2.2.2.1 y.2.2.2.2.2.2.2.2.2.2.2.1 y.2.2.2.2.2.2.2.2.2.2.2.2.1 y.2.2.2.2.2.2.2.2.2.2.2.2.2.1 y.2.2.2.2.2.2.2.2.2.2.2.2.2.2) (fun y => μ y.1 y.2.1 y.2.2.1 y.2.2.2.1 y.2.2.2.2.1 y.2.2.2.2.2.1 y.2.2.2.2.2.2.1 y.2.2.2.2.2.2.2.1 y.2.2.2.2.2.2.2.2.1 y.2.2.2.2.2.2.2.2.2.1 y.2.2.2.2.2.2.2.2.2.2.1 y.2.2.2.2.2.2.2.2.2.2.2.1 y.2.2.2.2.2.2.2.2.2.2.2.2.1 y.2.2.2.2.2.2.2.2.2.2.2.2.2.1 y.2.2.2.2.2.2.2.2.2.2.2.2.2.2) (x0, x1, x2, x3, x4, x5, x6, x7, x8, x9, x10, x11, x12, x13, x14) hp hA fun y τ w hA => h y.1 y.2.1 y.2.2.1 y.2.2.2.1 y.2.2.2.2.1 y.2.2.2.2.2.1 y.2.2.2.2.2.2.1 y.2.2.2.2.2.2.2.1 y.2.2.2.2.2.2.2.2.1 y.2.2.2.2.2.2.2.2.2.1 y.2.2.2.2.2.2.2.2.2.2.1 y.2.2.2.2.2.2.2.2.2.2.2.1 y.2.2.2.2.2.2.2.2.2.2.2.2.1 y.2.2.2.2.2.2.2.2.2.2.2.2.2.1 y.2.2.2.2.2.2.2.2.2.2.2.2.2.2 τ w hA
end
end Go.Proofs.Ytomjbabllcmodaa
