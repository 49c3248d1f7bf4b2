/- Lemmas for the statement WalkWide, part 4: rules of operations, walks through functions, plain laws. -/
import Derived.Test.YtomjbabllcmodaaWalkWideG3
namespace Go.Proofs.Ytomjbabllcmodaa
open Go
set_option maxRecDepth 100000
structure WY where
  mo : Nat
  Mo : List (Id32 × Value × Nat)
  co : Nat
  mm : Nat
  Mm : List (Id32 × Value × Nat)
  cm : Nat
  G : Id32 → Option Int
  n : Nat
  tl : Bool
  fa : Option Nat
  fc : Nat
  fs : List Fl
def fch (f : Fl) : Ch := .own (f.data.a.map (·.block)) f.data.len f.data.cap (f.data.l.map V8) 5 1
abbrev WY.T (z : WY) : List Ch := z.fs.map fch
def wch (wb : Nat) (z : WY) (e : Int) : List Ch := .blk wb [.map (some z.mo), .map (some z.mm), VI z.n, .bool z.tl, .slice (hd z.fa) z.fs.length z.fc, VI e] 70 :: .obj z.mo (mobj kA z.Mo z.co) :: .obj z.mm (mobj kA z.Mm z.cm) :: .own z.fa z.fs.length z.fc (z.fs.flatMap flE) 48 3 :: z.T
structure WY.ok (l : List Ob) (z : WY) : Prop where
  hO : MIs Sl.v z.Mo (lookS l)
  hOk : MOk z.Mo z.co
  hM : MIs VI z.Mm z.G
  hMk : MOk z.Mm z.cm
  bd : ∀ k v, z.G k = some v → 0 ≤ v ∧ v ≤ z.n
  nn : z.n ≤ 1024
  fat : ∀ f ∈ z.fs, f.data.a = hd (f.data.a.map (·.block)) ∧ f.data.l.length = f.data.len
  fl : z.fs.length ≤ z.n
def Fl.key (f : Fl) : List UInt8 × Bool × List UInt8 := (f.path, f.dir, f.data.l)
def Fil.key (f : Fil) : List UInt8 × Bool × List UInt8 := (f.path, f.data.isNone, f.data.getD [])
/-- the program's way and the document's answer so far. -/
def Rel (z : WY) (e : Int) (s : WS) : Prop := e = s.err ∧ (s.err = 0 → z.n = s.met ∧ (∀ k, (z.G k).isSome = true ↔ k ∈ s.names) ∧ (z.tl = true → z.fs.map Fl.key = s.files.map Fil.key))
theorem gd_bd {G : Id32 → Option Int} {n : Nat} (h : ∀ k v, G k = some v → 0 ≤ v ∧ v ≤ n) (hn : n ≤ 1024) (k : Id32) : -1000000 ≤ (G k).getD 0 ∧ (G k).getD 0 ≤ 1000000 := by
  cases hk : G k with
  | none => simp
  | some v => have := h k v hk; simp only [Option.getD_some]; omega
theorem bd_put {G : Id32 → Option Int} {n : Nat} (h : ∀ k v, G k = some v → 0 ≤ v ∧ v ≤ n) (k : Id32) : ∀ j v, fput G k ((G k).getD 0 + 1) j = some v → 0 ≤ v ∧ v ≤ ((n + 1 : Nat) : Int) := fun j v hj => by
  rw [fput] at hj
  by_cases e : j = k
  · rw [if_pos e] at hj
    replace hj := Option.some.inj hj
    subst hj
    cases hk : G k with
    | none => simp only [Option.getD_none]; omega
    | some u => have := h k u hk; simp only [Option.getD_some]; omega
  · rw [if_neg e] at hj
    have := h j v hj; omega
theorem keys_put {G : Id32 → Option Int} {ns : List Id32} {v : Int} (h : ∀ k, (G k).isSome = true ↔ k ∈ ns) (k : Id32) : ∀ j, (fput G k v j).isSome = true ↔ j ∈ ns ++ [k] := fun j => by
  rw [fput, List.mem_append, List.mem_singleton]
  by_cases e : j = k
  · rw [if_pos e]; simp [e]
  · rw [if_neg e, h j]; simp [e]
theorem look_ok {l : List Ob} {w0 w : World} {S : List Nat} {L : List Ch} (ho : ∀ o ∈ l, o.data.ok w0 ∧ o.data.len ≤ 1048576) (hap : ∀ o ∈ l, o.data.l ≠ [] → Apart o.data.a S) (H : Hp w0 w S L) (k : Id32) : ((lookS l k).getD nilS).ok w ∧ True := by
  cases hk : lookS l k with
  | none => exact ⟨Sl.ok_nil _, trivial⟩
  | some x =>
    obtain ⟨o, h1, _, rfl⟩ := lookS_mem hk
    exact ⟨(ho o h1).1.up H (hap o h1), trivial⟩
theorem look_le {l : List Ob} {w0 : World} (ho : ∀ o ∈ l, o.data.ok w0 ∧ o.data.len ≤ 1048576) (k : Id32) : ((lookS l k).getD nilS).len ≤ 1048576 ∧ ((lookS l k).getD nilS).l.length = ((lookS l k).getD nilS).len := by
  cases hk : lookS l k with
  | none => exact ⟨Nat.zero_le _, rfl⟩
  | some x =>
    obtain ⟨o, h1, _, rfl⟩ := lookS_mem hk
    exact ⟨(ho o h1).2, (ho o h1).1.ln⟩
theorem look_some {l : List Ob} {k : Id32} (h : (lookS l k).isSome = true) : lookO (obL l) k = some ((lookS l k).getD nilS).l := by
  rw [lookS_l]
  obtain ⟨x, hx⟩ := Option.isSome_iff_exists.1 h
  rw [hx]; rfl
theorem look_none {l : List Ob} {k : Id32} (h : (lookS l k).isSome = false) : lookO (obL l) k = none := by
  rw [lookS_l]
  cases hk : lookS l k with
  | none => rfl
  | some x => rw [hk] at h; cases h
variable {L : List (Id32 × List UInt8)}
theorem wlkAll_one {t : Todo} {s : WS} (h : (wlkStep L s t).2 = []) : wlkAll L [t] s = (wlkStep L s t).1 := by
  by_cases he : (wlkStep L s t).1.err = 0
  · rw [wlkAll_good he, h, List.nil_append, wlkAll_nil]
  · exact wlkAll_bad he
theorem step_long {t : Todo} {s : WS} (h : (t.kind = 2 ∧ 8 < t.deep) ∨ 1024 ≤ s.met) : wlkStep L s t = ({ s with err := 2 }, []) := by rw [wlkStep, if_pos h]
theorem step_miss {t : Todo} {s : WS} (h : ¬ ((t.kind = 2 ∧ 8 < t.deep) ∨ 1024 ≤ s.met)) (hk : lookO L t.of = none) : wlkStep L s t = ({ s with err := 15 }, []) := by rw [wlkStep, if_neg h, hk]
theorem step_size {t : Todo} {s : WS} {d : List UInt8} (h : ¬ ((t.kind = 2 ∧ 8 < t.deep) ∨ 1024 ≤ s.met)) (hk : lookO L t.of = some d) (h1 : t.kind = 1) (hs : (d.length : Int) ≠ t.size) : wlkStep L s t = ({ s with err := 9 }, []) := by rw [wlkStep, if_neg h, hk]; dsimp only; rw [if_pos h1, if_pos hs]
theorem step_file {t : Todo} {s : WS} {d : List UInt8} (h : ¬ ((t.kind = 2 ∧ 8 < t.deep) ∨ 1024 ≤ s.met)) (hk : lookO L t.of = some d) (h1 : t.kind = 1) (hs : (d.length : Int) = t.size) : wlkStep L s t = ({ s with met := s.met + 1, names := s.names ++ [t.of], files := s.files ++ [⟨t.path, some d⟩] }, []) := by rw [wlkStep, if_neg h, hk]; dsimp only; rw [if_pos h1, if_neg (fun e => e hs)]
theorem step_syn {t : Todo} {s : WS} {d : List UInt8} (h : ¬ ((t.kind = 2 ∧ 8 < t.deep) ∨ 1024 ≤ s.met)) (hk : lookO L t.of = some d) (h1 : ¬ t.kind = 1) (ht : takeF d = none) : wlkStep L s t = ({ s with err := 4 }, []) := by rw [wlkStep, if_neg h, hk]; dsimp only; rw [if_neg h1, ht]
theorem step_dir {t : Todo} {s : WS} {d : List UInt8} {its : List It} (h : ¬ ((t.kind = 2 ∧ 8 < t.deep) ∨ 1024 ≤ s.met)) (hk : lookO L t.of = some d) (h1 : ¬ t.kind = 1) (ht : takeF d = some its) : wlkStep L s t = ({ s with met := s.met + 1, names := s.names ++ [t.of], files := s.files ++ (if its = [] ∧ 1 < t.deep then [⟨t.path, none⟩] else []) }, its.map (wkid t)) := by rw [wlkStep, if_neg h, hk]; dsimp only; rw [if_neg h1, ht]
theorem wfile_step {w0 w : World} {S : List Nat} {a : Option Nat} {n c : Nat} {x : List UInt8} {p : List UInt8} {d : Bool} {b o m f : Ch} {fs : List Fl} (H : Hp w0 w S (.own a n c (x.map V8) 5 1 :: b :: o :: m :: f :: fs.map fch)) : Hp w0 w S (b :: o :: m :: f :: (fs ++ [(⟨p, d, ⟨hd a, n, c, x⟩⟩ : Fl)]).map fch) := by
  have e : fch ⟨p, d, ⟨hd a, n, c, x⟩⟩ = .own a n c (x.map V8) 5 1 := by cases a <;> rfl
  rw [List.map_append, List.map_cons, List.map_nil, e]
  refine H.perm ?_; have := (List.perm_append_singleton (Ch.own a n c (x.map V8) 5 1) (b :: o :: m :: f :: fs.map fch)).symm
  simpa using this
theorem fat_add {fs : List Fl} (h : ∀ f ∈ fs, f.data.a = hd (f.data.a.map (·.block)) ∧ f.data.l.length = f.data.len) {p : List UInt8} {d : Bool} {a : Option Nat} {c : Nat} {x : List UInt8} {n : Nat} (hn : x.length = n) : ∀ f ∈ fs ++ [(⟨p, d, ⟨hd a, n, c, x⟩⟩ : Fl)], f.data.a = hd (f.data.a.map (·.block)) ∧ f.data.l.length = f.data.len := fun f hf => by
  rcases List.mem_append.1 hf with hf | hf
  · exact h f hf
  · rw [List.mem_singleton.1 hf]
    exact ⟨by cases a <;> rfl, hn⟩
theorem wclone_ret (w0 : World) (s : Sl) (hs : s.ok w0) (hm : s.len ≤ 1048576) :
    Ret Try.prog 64 [s.v] w0 fun v w' => ∃ a c, v = .slice (hd a) s.l.length c ∧ Hp w0 w' [] [.own a s.l.length c (s.l.map V8) 5 1] := by
  refine ret_mk Try.func64 rfl Try.ntmps64 (by simp) ?_
  have H := Hp.refl w0 []
  have hsl := hs.ln
  have hle := hs.le
  repeat refine c_seq ?_
  refine c_region ?_; refine l_op (o_val r_as ?_); first | refine l_end ?_ | refine l_nil ?_
  repeat refine c_seq ?_
  refine c_region ?_; refine l_op (o_val r_mv ?_); refine l_op (o_val (r_slnil Try.underlying32 (by kernel_rfl) rfl rfl) ?_); first | refine l_end ?_ | refine l_nil ?_
  have hc10 := Bool.eq_false_or_eq_true (s.a.isNone)
  rcases hc10 with hc1 | hc1
  ·
   repeat refine c_seq ?_
   refine c_yes (by exact congrArg Value.bool hc1) ?_; repeat refine c_seq ?_
   refine c_region ?_; refine l_op (o_val r_as ?_); first | refine l_end ?_ | refine l_nil ?_
   refine c_ret ?_; try dsimp only [Exit.then, Exit.inBlock]
   refine e_ret1 (v := .slice none 0 0) Try.results64 rfl ?_
   refine ⟨_, rfl, ?_⟩
   have h0 : s.a = none := by have := (hc1); simpa using this
   have hr0 : s.l = [] := by rcases hs.rd with h | ⟨b, o, C, T, fr, ha, _⟩; (cases hl : s.l with | nil => rfl | cons x xs => rw [hl] at h; cases h); rw [h0] at ha; cases ha
   rw [hr0]
   exact ⟨none, 0, rfl, H.nilEnd 5 1⟩
  ·
   repeat refine c_seq ?_
   refine c_no (by exact congrArg Value.bool hc1) ?_; refine c_skip ?_; repeat refine c_seq ?_
   refine c_region ?_; refine l_op (o_bslB (([] : List UInt8)) H sl32 zc5 rfl rfl (by decide) (fun b2 w H hb2 => ?_)); replace H : Hp _ w _ ([.own (some b2) 0 0 ((([] : List UInt8)).map V8) 5 1]) := H
   refine l_op (o_val r_mv ?_); refine l_op (o_appB (s := s) (l' := s.l) (len' := s.len) rfl (Nat.zero_add _) H (i := 0) rfl sl32 Try.underlying32 rfl rfl (hs.up H (fun _ => apart_nil _)) (by omega) (fun a3 c4 w H => ?_)); replace H : Hp _ w _ ([.own a3 s.len c4 ((s.l).map V8) 5 1]) := H
   refine l_op (o_val r_as ?_); first | refine l_end ?_ | refine l_nil ?_
   refine c_ret ?_; try dsimp only [Exit.then, Exit.inBlock]
   refine e_ret1 (v := .slice (hd a3) s.len c4) Try.results64 rfl ?_
   refine ⟨_, rfl, ?_⟩
   have e2 : s.len = s.l.length := by rw [hs.ln]
   have e1 : s.l = s.l := by first | rfl | rw [List.nil_append]
   rw [e1, e2] at H
   exact ⟨_, _, (by first | rfl | rw [e2]), H.sub (.cons_cons _ (List.nil_sublist _))⟩
theorem wfile_ret (w0 : World) (l : List Ob) (wb : Nat) (z : WY) (hO : Own w0 (wch wb z 0)) (hz : z.ok l) (ho : ∀ o ∈ l, o.data.ok w0 ∧ o.data.len ≤ 1048576) (hap : ∀ o ∈ l, o.data.l ≠ [] → Apart o.data.a (keys (wch wb z 0))) (s : WS) (hr : Rel z 0 s) (x : It) (p : List UInt8) (dp : Nat) (hp : p.length + x.name.length ≤ 1000000) :
    Ret Try.prog 48 [.pointer (some ⟨wb, 0, none⟩), .agg (([.string ⟨(x.name).toArray⟩, VI x.kind] : List Value) ++ ((x.of.1).map V8 ++ (([VI x.size] : List Value)))).toArray, .string ⟨(p).toArray⟩] w0 fun v w' => ∃ z' e', (e' = 0 → z'.ok l) ∧ z'.tl = z.tl ∧ Rel z' e' (wlkAll (obL l) [⟨1, x.of, x.size, dp, p ++ x.name⟩] s) ∧ Hp w0 w' (keys (wch wb z 0)) (wch wb z' e') := by
  refine ret_mk Try.func48 rfl Try.ntmps48 (by simp) ?_
  have H : Hp w0 w0 (keys (wch wb z 0)) (Ch.blk wb ([.map (some z.mo), .map (some z.mm), VI (z.n : Int), .bool z.tl, .slice (hd z.fa) z.fs.length z.fc, VI 0]) 70 :: Ch.obj z.mo (mobj kA z.Mo z.co) :: Ch.obj z.mm (mobj kA z.Mm z.cm) :: Ch.own z.fa z.fs.length z.fc ((z.fs).flatMap flE) 48 3 :: z.T) := hO.start
  have hnn := hz.nn
  have hfl := hz.fl
  have hs0 : s.err = 0 := hr.1.symm
  obtain ⟨hrn, hrg, hrf⟩ := hr.2 hs0
  have hobd := fun {w : World} {L : List Ch} (H : Hp w0 w (keys (wch wb z 0)) L) k => (look_ok ho hap H k).1
  have hobl := fun k => look_le ho k
  have hob := hobl x.of
  repeat refine c_seq ?_
  refine c_region ?_; refine l_op (o_box (v := .agg (([.string ⟨(x.name).toArray⟩, VI x.kind] : List Value) ++ ((x.of.1).map V8 ++ (([VI x.size] : List Value)))).toArray) H rfl (fun b1 w H hb1 => ?_)); replace H := H.rot
  replace H : Hp _ w _ (Ch.blk b1 (([.string ⟨(x.name).toArray⟩, VI x.kind] : List Value) ++ ((x.of.1).map V8 ++ (([VI x.size] : List Value)))) 54 :: Ch.blk wb ([.map (some z.mo), .map (some z.mm), VI (z.n : Int), .bool z.tl, .slice (hd z.fa) z.fs.length z.fc, VI 0]) 70 :: Ch.obj z.mo (mobj kA z.Mo z.co) :: Ch.obj z.mm (mobj kA z.Mm z.cm) :: Ch.own z.fa z.fs.length z.fc ((z.fs).flatMap flE) 48 3 :: z.T) := H
  first | refine l_end ?_ | refine l_nil ?_
  repeat refine c_seq ?_
  refine c_region ?_; refine l_op (o_val r_mv ?_); refine l_op (o_val (r_fa rfl fo54_2) ?_); refine l_op (o_val (r_lk H (i := 0) rfl rfl rt29 (show Cut3 (([.string ⟨(x.name).toArray⟩, VI x.kind] : List Value) ++ ((x.of.1).map V8 ++ (([VI x.size] : List Value)))) (([.string ⟨(x.name).toArray⟩, VI x.kind] : List Value)) ((x.of.1).map V8) (([VI x.size] : List Value)) 2 32 from ⟨(show ([.string ⟨(x.name).toArray⟩, VI x.kind] : List Value) ++ ((x.of.1).map V8 ++ (([VI x.size] : List Value))) = ([.string ⟨(x.name).toArray⟩, VI x.kind] : List Value) ++ (((x.of.1).map V8) ++ (([VI x.size] : List Value))) from by simp only [List.cons_append, List.nil_append]), (by rfl), (by simp only [List.length_map, (show (x.of.1).length = 32 from x.of.2)])⟩)) ?_)
  by_cases hc2 : 1024 ≤ z.n
  ·
   refine l_op (o_callR Try.func47 rfl rfl rfl (wobj_long _ l wb z.mo z.co z.mm z.cm z.n z.fs.length z.fc z.Mo z.Mm z.G (hd z.fa) z.tl hz.hO hz.hOk hz.hM hz.hMk (by omega) x.of (by omega) (H.ownU (L := [.blk b1 (([.string ⟨(x.name).toArray⟩, VI x.kind] : List Value) ++ ((x.of.1).map V8 ++ (([VI x.size] : List Value)))) 54, .blk wb ([.map (some z.mo), .map (some z.mm), VI (z.n : Int), .bool z.tl, .slice (hd z.fa) z.fs.length z.fc, VI 0]) 70, .obj z.mo (mobj kA z.Mo z.co), .obj z.mm (mobj kA z.Mm z.cm), .own z.fa z.fs.length z.fc ((z.fs).flatMap flE) 48 3]) (L1 := [.blk wb ([.map (some z.mo), .map (some z.mm), VI (z.n : Int), .bool z.tl, .slice (hd z.fa) z.fs.length z.fc, VI 0]) 70, .obj z.mo (mobj kA z.Mo z.co), .obj z.mm (mobj kA z.Mm z.cm)]) (Lr := ([.blk b1 (([.string ⟨(x.name).toArray⟩, VI x.kind] : List Value) ++ ((x.of.1).map V8 ++ (([VI x.size] : List Value)))) 54, .own z.fa z.fs.length z.fc ((z.fs).flatMap flE) 48 3] : List Ch)) (T := z.T) ((perm_front (j := 1) rfl).trans (.cons _ ((perm_front (j := 1) rfl).trans (.cons _ ((perm_front (j := 1) rfl).trans (.cons _ (.refl _))))))))) ?_); rintro _ w ⟨rfl, Hc⟩
   replace H := H.callU (L1' := [.blk wb ([.map (some z.mo), .map (some z.mm), VI ((z.n + 1 : Nat) : Int), .bool z.tl, .slice (hd z.fa) z.fs.length z.fc, VI 2]) 70, .obj z.mo (mobj kA z.Mo z.co), .obj z.mm (mobj kA z.Mm z.cm)]) (L := [.blk b1 (([.string ⟨(x.name).toArray⟩, VI x.kind] : List Value) ++ ((x.of.1).map V8 ++ (([VI x.size] : List Value)))) 54, .blk wb ([.map (some z.mo), .map (some z.mm), VI (z.n : Int), .bool z.tl, .slice (hd z.fa) z.fs.length z.fc, VI 0]) 70, .obj z.mo (mobj kA z.Mo z.co), .obj z.mm (mobj kA z.Mm z.cm), .own z.fa z.fs.length z.fc ((z.fs).flatMap flE) 48 3]) (L1 := [.blk wb ([.map (some z.mo), .map (some z.mm), VI (z.n : Int), .bool z.tl, .slice (hd z.fa) z.fs.length z.fc, VI 0]) 70, .obj z.mo (mobj kA z.Mo z.co), .obj z.mm (mobj kA z.Mm z.cm)]) (Lr := ([.blk b1 (([.string ⟨(x.name).toArray⟩, VI x.kind] : List Value) ++ ((x.of.1).map V8 ++ (([VI x.size] : List Value)))) 54, .own z.fa z.fs.length z.fc ((z.fs).flatMap flE) 48 3] : List Ch)) (T := z.T) ((perm_front (j := 1) rfl).trans (.cons _ ((perm_front (j := 1) rfl).trans (.cons _ ((perm_front (j := 1) rfl).trans (.cons _ (.refl _))))))) Hc ((perm_front (j := 0) rfl).trans (.cons _ ((perm_front (j := 1) rfl).trans (.cons _ ((perm_front (j := 1) rfl).trans (.cons _ ((perm_front (j := 1) rfl).trans (.cons _ (.refl _)))))))))
   clear Hc
   replace H : Hp _ w _ (Ch.blk b1 (([.string ⟨(x.name).toArray⟩, VI x.kind] : List Value) ++ ((x.of.1).map V8 ++ (([VI x.size] : List Value)))) 54 :: Ch.blk wb ([.map (some z.mo), .map (some z.mm), VI ((z.n + 1 : Nat) : Int), .bool z.tl, .slice (hd z.fa) z.fs.length z.fc, VI 2]) 70 :: Ch.obj z.mo (mobj kA z.Mo z.co) :: Ch.obj z.mm (mobj kA z.Mm z.cm) :: Ch.own z.fa z.fs.length z.fc ((z.fs).flatMap flE) 48 3 :: z.T) := H
   refine l_op (o_val r_mv ?_); refine l_op (o_val (r_ext rfl rfl) ?_); refine l_op (o_val (r_ext rfl rfl) ?_); refine l_op (o_val r_as ?_); refine l_op (o_val r_as ?_); first | refine l_end ?_ | refine l_nil ?_
   repeat refine c_seq ?_
   refine c_region ?_; refine l_op (o_val r_mv ?_); refine l_op (o_val (r_not rfl) ?_); first | refine l_end ?_ | refine l_nil ?_
   repeat refine c_seq ?_
   refine c_yes rfl ?_; refine c_ret ?_; try dsimp only [Exit.then, Exit.inBlock]
   refine e_ret0 Try.results48 ?_
   refine ⟨_, rfl, ?_⟩
   have hst := step_long (L := obL l) (t := (⟨1, x.of, x.size, dp, p ++ x.name⟩ : Todo)) (s := s) (.inr (by omega))
   have hw : wlkAll (obL l) [(⟨1, x.of, x.size, dp, p ++ x.name⟩ : Todo)] s = { s with err := 2 } := by rw [wlkAll_one (by rw [hst]), hst]
   rw [hw]
   exact ⟨(⟨z.mo, z.Mo, z.co, z.mm, z.Mm, z.cm, z.G, (z.n + 1), z.tl, z.fa, z.fc, z.fs⟩ : WY), 2, fun h => absurd h (by decide), rfl, ⟨rfl, fun h => absurd (show (2 : Int) = 0 from h) (by decide)⟩, H.sub (.cons _ (.cons_cons _ (.cons_cons _ (.cons_cons _ (.cons_cons _ (List.Sublist.refl _))))))⟩
  ·
   have hc30 := Bool.eq_false_or_eq_true ((lookS l x.of).isSome)
   rcases hc30 with hc3 | hc3
   ·
    refine l_op (o_callR Try.func47 rfl rfl rfl (wobj_ok _ l wb z.mo z.co z.mm z.cm z.n z.fs.length z.fc z.Mo z.Mm z.G (hd z.fa) z.tl hz.hO hz.hOk hz.hM hz.hMk (by omega) x.of (by omega) hc3 (gd_bd hz.bd hz.nn x.of) (H.ownU (L := [.blk b1 (([.string ⟨(x.name).toArray⟩, VI x.kind] : List Value) ++ ((x.of.1).map V8 ++ (([VI x.size] : List Value)))) 54, .blk wb ([.map (some z.mo), .map (some z.mm), VI (z.n : Int), .bool z.tl, .slice (hd z.fa) z.fs.length z.fc, VI 0]) 70, .obj z.mo (mobj kA z.Mo z.co), .obj z.mm (mobj kA z.Mm z.cm), .own z.fa z.fs.length z.fc ((z.fs).flatMap flE) 48 3]) (L1 := [.blk wb ([.map (some z.mo), .map (some z.mm), VI (z.n : Int), .bool z.tl, .slice (hd z.fa) z.fs.length z.fc, VI 0]) 70, .obj z.mo (mobj kA z.Mo z.co), .obj z.mm (mobj kA z.Mm z.cm)]) (Lr := ([.blk b1 (([.string ⟨(x.name).toArray⟩, VI x.kind] : List Value) ++ ((x.of.1).map V8 ++ (([VI x.size] : List Value)))) 54, .own z.fa z.fs.length z.fc ((z.fs).flatMap flE) 48 3] : List Ch)) (T := z.T) ((perm_front (j := 1) rfl).trans (.cons _ ((perm_front (j := 1) rfl).trans (.cons _ ((perm_front (j := 1) rfl).trans (.cons _ (.refl _))))))))) ?_); rintro _ w ⟨rfl, mm4, mc5, hmf6, hmo7, Hc⟩
    replace H := H.callU (L1' := [.blk wb ([.map (some z.mo), .map (some z.mm), VI ((z.n + 1 : Nat) : Int), .bool z.tl, .slice (hd z.fa) z.fs.length z.fc, VI 0]) 70, .obj z.mo (mobj kA z.Mo z.co), .obj z.mm (mobj kA mm4 mc5)]) (L := [.blk b1 (([.string ⟨(x.name).toArray⟩, VI x.kind] : List Value) ++ ((x.of.1).map V8 ++ (([VI x.size] : List Value)))) 54, .blk wb ([.map (some z.mo), .map (some z.mm), VI (z.n : Int), .bool z.tl, .slice (hd z.fa) z.fs.length z.fc, VI 0]) 70, .obj z.mo (mobj kA z.Mo z.co), .obj z.mm (mobj kA z.Mm z.cm), .own z.fa z.fs.length z.fc ((z.fs).flatMap flE) 48 3]) (L1 := [.blk wb ([.map (some z.mo), .map (some z.mm), VI (z.n : Int), .bool z.tl, .slice (hd z.fa) z.fs.length z.fc, VI 0]) 70, .obj z.mo (mobj kA z.Mo z.co), .obj z.mm (mobj kA z.Mm z.cm)]) (Lr := ([.blk b1 (([.string ⟨(x.name).toArray⟩, VI x.kind] : List Value) ++ ((x.of.1).map V8 ++ (([VI x.size] : List Value)))) 54, .own z.fa z.fs.length z.fc ((z.fs).flatMap flE) 48 3] : List Ch)) (T := z.T) ((perm_front (j := 1) rfl).trans (.cons _ ((perm_front (j := 1) rfl).trans (.cons _ ((perm_front (j := 1) rfl).trans (.cons _ (.refl _))))))) Hc ((perm_front (j := 0) rfl).trans (.cons _ ((perm_front (j := 1) rfl).trans (.cons _ ((perm_front (j := 1) rfl).trans (.cons _ ((perm_front (j := 1) rfl).trans (.cons _ (.refl _)))))))))
    clear Hc
    replace H : Hp _ w _ (Ch.blk b1 (([.string ⟨(x.name).toArray⟩, VI x.kind] : List Value) ++ ((x.of.1).map V8 ++ (([VI x.size] : List Value)))) 54 :: Ch.blk wb ([.map (some z.mo), .map (some z.mm), VI ((z.n + 1 : Nat) : Int), .bool z.tl, .slice (hd z.fa) z.fs.length z.fc, VI 0]) 70 :: Ch.obj z.mo (mobj kA z.Mo z.co) :: Ch.obj z.mm (mobj kA mm4 mc5) :: Ch.own z.fa z.fs.length z.fc ((z.fs).flatMap flE) 48 3 :: z.T) := H
    refine l_op (o_val r_mv ?_); refine l_op (o_val (r_ext rfl rfl) ?_); refine l_op (o_val (r_ext rfl rfl) ?_); refine l_op (o_val r_as ?_); refine l_op (o_val r_as ?_); first | refine l_end ?_ | refine l_nil ?_
    repeat refine c_seq ?_
    refine c_region ?_; refine l_op (o_val r_mv ?_); refine l_op (o_val (r_not rfl) ?_); first | refine l_end ?_ | refine l_nil ?_
    repeat refine c_seq ?_
    refine c_no rfl ?_; refine c_skip ?_; repeat refine c_seq ?_
    refine c_region ?_; refine l_op (o_val r_mv ?_); refine l_op (o_val (r_lens el32 rfl) ?_); refine l_op (o_val (r_fa rfl fo54_3) ?_); refine l_op (o_val (r_l1 (v := VI x.size) H (i := 0) rfl rfl ct2 (show Cut3 (([.string ⟨(x.name).toArray⟩, VI x.kind] : List Value) ++ ((x.of.1).map V8 ++ (([VI x.size] : List Value)))) (([.string ⟨(x.name).toArray⟩, VI x.kind] : List Value) ++ ((x.of.1).map V8)) (([VI x.size] : List Value)) (([] : List Value)) 34 1 from ⟨(show ([.string ⟨(x.name).toArray⟩, VI x.kind] : List Value) ++ ((x.of.1).map V8 ++ (([VI x.size] : List Value))) = (([.string ⟨(x.name).toArray⟩, VI x.kind] : List Value) ++ ((x.of.1).map V8)) ++ ((([VI x.size] : List Value)) ++ (([] : List Value))) from by simp only [List.cons_append, List.nil_append]), (by simp only [List.length_append, List.length_map, List.length_cons, List.length_nil, (show (x.of.1).length = 32 from x.of.2)]), (by rfl)⟩)) ?_); refine l_op (o_val (r_bin (a := ((((lookS l x.of).getD nilS).len : Nat) : Int)) (b := x.size) rfl rfl (fun _ => b_neq)) ?_); first | refine l_end ?_ | refine l_nil ?_
    by_cases hc8 : ((((lookS l x.of).getD nilS).len : Nat) : Int) ≠ x.size
    ·
     repeat refine c_seq ?_
     refine c_yes (by exact congrArg Value.bool (decide_eq_true hc8)) ?_; repeat refine c_seq ?_
     refine c_region ?_; refine l_op (o_val r_mv ?_); refine l_op (o_callR Try.func46 rfl rfl rfl (wbad_ret _ _ z.fs.length z.fc (z.n + 1) (hd z.fa) (some z.mo) (some z.mm) z.tl (H.has _ (List.mem_of_getElem? (i := 1) rfl)) 9) ?_); rintro _ w ⟨rfl, Hc⟩
     replace H := (H.callA (i := 1) rfl rfl rfl Hc)
     clear Hc
     replace H : Hp _ w _ (Ch.blk b1 (([.string ⟨(x.name).toArray⟩, VI x.kind] : List Value) ++ ((x.of.1).map V8 ++ (([VI x.size] : List Value)))) 54 :: Ch.blk wb ([.map (some z.mo), .map (some z.mm), VI ((z.n + 1 : Nat) : Int), .bool z.tl, .slice (hd z.fa) z.fs.length z.fc, VI 9]) 70 :: Ch.obj z.mo (mobj kA z.Mo z.co) :: Ch.obj z.mm (mobj kA mm4 mc5) :: Ch.own z.fa z.fs.length z.fc ((z.fs).flatMap flE) 48 3 :: z.T) := H
     first | refine l_end ?_ | refine l_nil ?_
     refine c_ret ?_; try dsimp only [Exit.then, Exit.inBlock]
     refine e_ret0 Try.results48 ?_
     refine ⟨_, rfl, ?_⟩
     have hst := step_size (L := obL l) (t := (⟨1, x.of, x.size, dp, p ++ x.name⟩ : Todo)) (s := s) (fun h => h.elim (fun h => absurd (show (1 : Int) = 2 from h.1) (by decide)) (fun h => by omega)) (look_some hc3) rfl (show (((lookS l x.of).getD nilS).l.length : Int) ≠ x.size by rw [hob.2]; omega)
     have hw : wlkAll (obL l) [(⟨1, x.of, x.size, dp, p ++ x.name⟩ : Todo)] s = { s with err := 9 } := by rw [wlkAll_one (by rw [hst]), hst]
     rw [hw]
     exact ⟨(⟨z.mo, z.Mo, z.co, z.mm, mm4, mc5, fput z.G x.of ((z.G x.of).getD 0 + 1), (z.n + 1), z.tl, z.fa, z.fc, z.fs⟩ : WY), 9, fun h => absurd h (by decide), rfl, ⟨rfl, fun h => absurd (show (9 : Int) = 0 from h) (by decide)⟩, H.sub (.cons _ (.cons_cons _ (.cons_cons _ (.cons_cons _ (.cons_cons _ (List.Sublist.refl _))))))⟩
    ·
     repeat refine c_seq ?_
     refine c_no (by exact congrArg Value.bool (decide_eq_false hc8)) ?_; refine c_skip ?_; repeat refine c_seq ?_
     refine c_region ?_; refine l_op (o_val r_mv ?_); refine l_op (o_val (r_nilc rfl) ?_); refine l_op (o_val (r_fa rfl fo70_3) ?_); refine l_op (o_val (r_ld (v := .bool z.tl) H (i := 1) rfl rfl ct4 rfl) ?_); first | refine l_end ?_ | refine l_nil ?_
     have hc90 := Bool.eq_false_or_eq_true (z.tl)
     rcases hc90 with hc9 | hc9
     ·
      repeat refine c_seq ?_
      refine c_yes (by exact congrArg Value.bool hc9) ?_; repeat refine c_seq ?_
      refine wp_held (fun w => Hp w0 w (keys (wch wb z 0)) [.blk b1 (([.string ⟨(x.name).toArray⟩, VI x.kind] : List Value) ++ ((x.of.1).map V8 ++ (([VI x.size] : List Value)))) 54, .obj z.mo (mobj kA z.Mo z.co), .obj z.mm (mobj kA mm4 mc5)]) mixed ?_; replace H := H.drew
      have HS := H.sub (.cons_cons _ (.cons _ (.cons_cons _ (.cons_cons _ (List.nil_sublist _)))))
      refine t_take 0 rfl (by kernel_rfl) (by kernel_rfl) (by kernel_rfl) (fun _ _ _ h => h) (fun w HS => r_mv) HS ?_; refine t_take 1 rfl (by kernel_rfl) (by kernel_rfl) (by kernel_rfl) (fun _ _ _ h => h) (fun w HS => r_mv) HS ?_; refine t_take 2 rfl (by kernel_rfl) (by kernel_rfl) (by kernel_rfl) (fun _ _ _ h => h) (fun w HS => r_nilc rfl) HS ?_; refine t_take 3 rfl (by kernel_rfl) (by kernel_rfl) (by kernel_rfl) (fun _ _ _ h => h) (fun w HS => r_fa rfl fo70_4) HS ?_; refine t_take 5 rfl (by kernel_rfl) (by kernel_rfl) (by kernel_rfl) (fun _ _ _ h => h) (fun w HS => r_mv) HS ?_; refine t_take 6 rfl (by kernel_rfl) (by kernel_rfl) (by kernel_rfl) (fun _ _ _ h => h) (fun w HS => r_fa rfl fo54_0) HS ?_; refine t_take 7 rfl (by kernel_rfl) (by kernel_rfl) (by kernel_rfl) (fun _ _ _ h => h) (fun w HS => r_l1 (v := .string ⟨(x.name).toArray⟩) HS (i := 0) rfl rfl ct9 (show Cut3 (([.string ⟨(x.name).toArray⟩, VI x.kind] : List Value) ++ ((x.of.1).map V8 ++ (([VI x.size] : List Value)))) (([] : List Value)) (([.string ⟨(x.name).toArray⟩] : List Value)) (([VI x.kind] : List Value) ++ ((x.of.1).map V8 ++ (([VI x.size] : List Value)))) 0 1 from ⟨(show ([.string ⟨(x.name).toArray⟩, VI x.kind] : List Value) ++ ((x.of.1).map V8 ++ (([VI x.size] : List Value))) = ([] : List Value) ++ ((([.string ⟨(x.name).toArray⟩] : List Value)) ++ (([VI x.kind] : List Value) ++ ((x.of.1).map V8 ++ (([VI x.size] : List Value))))) from by simp only [List.cons_append, List.nil_append]), (by rfl), (by rfl)⟩)) HS ?_; refine t_take 8 rfl (by kernel_rfl) (by kernel_rfl) (by kernel_rfl) (fun _ _ _ h => h) (fun w HS => r_stradd (a := p) (b := x.name) rfl rfl (by (try simp only [List.length_cons, List.length_nil]); omega)) HS ?_; refine t_take 9 rfl (by kernel_rfl) (by kernel_rfl) (by kernel_rfl) (fun _ _ _ h => h) (fun w HS => r_mv) HS ?_; refine t_all [4, 10] (by kernel_rfl) (by simp) (all_cons (w_op 4 rfl ?_) (all_cons (w_op 10 rfl ?_) (all_nil)))
      ·
       refine (o_val (r_ld (v := .slice (hd z.fa) z.fs.length z.fc) H (i := 1) rfl rfl ct40 rfl) ?_)
       refine ⟨H.sub (.cons_cons _ (.cons _ (.cons_cons _ (.cons_cons _ (List.nil_sublist _))))), ?_⟩
       replace HS := H.sub (.cons_cons _ (.cons _ (.cons_cons _ (.cons_cons _ (List.nil_sublist _)))))
       refine t_step 10 rfl (by kernel_rfl) (o_callR Try.func64 rfl rfl rfl (wclone_ret _ ((lookS l x.of).getD nilS) (hobd H _) (by (try dsimp only); omega)) ?_); rintro _ w ⟨a10, c11, rfl, Hc⟩
       replace H : Hp _ w _ (Ch.own a10 (((lookS l x.of).getD nilS).l.length) c11 ((((lookS l x.of).getD nilS).l).map V8) 5 1 :: Ch.blk b1 (([.string ⟨(x.name).toArray⟩, VI x.kind] : List Value) ++ ((x.of.1).map V8 ++ (([VI x.size] : List Value)))) 54 :: Ch.blk wb ([.map (some z.mo), .map (some z.mm), VI ((z.n + 1 : Nat) : Int), .bool z.tl, .slice (hd z.fa) z.fs.length z.fc, VI 0]) 70 :: Ch.obj z.mo (mobj kA z.Mo z.co) :: Ch.obj z.mm (mobj kA mm4 mc5) :: Ch.own z.fa z.fs.length z.fc ((z.fs).flatMap flE) 48 3 :: z.T) := (H.call Hc).rot
       clear Hc
       refine ⟨H.sub (.cons _ (.cons_cons _ (.cons _ (.cons_cons _ (.cons_cons _ (List.nil_sublist _)))))), ?_⟩
       replace HS := H.sub (.cons _ (.cons_cons _ (.cons _ (.cons_cons _ (.cons_cons _ (List.nil_sublist _))))))
       refine t_take 11 rfl (by kernel_rfl) (by kernel_rfl) (by kernel_rfl) (fun _ _ _ h => h) (fun w HS => r_bldG (Z := ([.string ⟨(([] : List UInt8)).toArray⟩, .bool false, .slice none 0 0] : List Value)) (E := ([.string ⟨(p ++ x.name).toArray⟩, .bool false, .slice (hd a10) (((lookS l x.of).getD nilS).l.length) c11] : List Value)) (pv := [(0, .string ⟨(p ++ x.name).toArray⟩), (2, .slice (hd a10) (((lookS l x.of).getD nilS).l.length) c11)]) bd48 rfl rfl (.cons (A := ([] : List Value)) (B := ([.string ⟨(([] : List UInt8)).toArray⟩] : List Value)) (D := ([.bool false, .slice none 0 0] : List Value)) (V := ([.string ⟨(p ++ x.name).toArray⟩] : List Value)) (a := 0) (b := 1) rfl (show Cut3 (([.string ⟨(([] : List UInt8)).toArray⟩, .bool false, .slice none 0 0] : List Value)) (([] : List Value)) (([.string ⟨(([] : List UInt8)).toArray⟩] : List Value)) (([.bool false, .slice none 0 0] : List Value)) 0 1 from ⟨(show ([.string ⟨(([] : List UInt8)).toArray⟩, .bool false, .slice none 0 0] : List Value) = ([] : List Value) ++ ((([.string ⟨(([] : List UInt8)).toArray⟩] : List Value)) ++ (([.bool false, .slice none 0 0] : List Value))) from by simp only [List.cons_append, List.nil_append]), (by rfl), (by rfl)⟩) (by rfl) (by rfl) ((show ([.string ⟨(p ++ x.name).toArray⟩, .bool false, .slice none 0 0] : List Value) = ([] : List Value) ++ ((([.string ⟨(p ++ x.name).toArray⟩] : List Value)) ++ (([.bool false, .slice none 0 0] : List Value))) from by simp only [List.cons_append, List.nil_append]) ▸ .cons (A := ([.string ⟨(p ++ x.name).toArray⟩, .bool false] : List Value)) (B := ([.slice none 0 0] : List Value)) (D := ([] : List Value)) (V := ([.slice (hd a10) (((lookS l x.of).getD nilS).l.length) c11] : List Value)) (a := 2) (b := 1) rfl (show Cut3 (([.string ⟨(p ++ x.name).toArray⟩, .bool false, .slice none 0 0] : List Value)) (([.string ⟨(p ++ x.name).toArray⟩, .bool false] : List Value)) (([.slice none 0 0] : List Value)) (([] : List Value)) 2 1 from ⟨(show ([.string ⟨(p ++ x.name).toArray⟩, .bool false, .slice none 0 0] : List Value) = ([.string ⟨(p ++ x.name).toArray⟩, .bool false] : List Value) ++ ((([.slice none 0 0] : List Value)) ++ (([] : List Value))) from by simp only [List.cons_append, List.nil_append]), (by rfl), (by rfl)⟩) (by rfl) (by rfl) ((show ([.string ⟨(p ++ x.name).toArray⟩, .bool false, .slice (hd a10) (((lookS l x.of).getD nilS).l.length) c11] : List Value) = ([.string ⟨(p ++ x.name).toArray⟩, .bool false] : List Value) ++ ((([.slice (hd a10) (((lookS l x.of).getD nilS).l.length) c11] : List Value)) ++ (([] : List Value))) from by simp only [List.cons_append, List.nil_append]) ▸ .nil _)))) HS ?_; refine t_step 12 rfl (by kernel_rfl) (o_bslG1 (enc := flE) ((⟨p ++ x.name, false, ⟨hd a10, ((lookS l x.of).getD nilS).l.length, c11, ((lookS l x.of).getD nilS).l⟩⟩ : Fl)) H sl40 zc48 (by rfl) (by decide) (by decide) rfl (flE_len _) (fun b12 w H hb12 => ?_)); replace H := H.rot
       replace H : Hp _ w _ (Ch.own (some b12) 1 1 (([(⟨p ++ x.name, false, ⟨hd a10, ((lookS l x.of).getD nilS).l.length, c11, ((lookS l x.of).getD nilS).l⟩⟩ : Fl)]).flatMap flE) 48 3 :: Ch.own a10 (((lookS l x.of).getD nilS).l.length) c11 ((((lookS l x.of).getD nilS).l).map V8) 5 1 :: Ch.blk b1 (([.string ⟨(x.name).toArray⟩, VI x.kind] : List Value) ++ ((x.of.1).map V8 ++ (([VI x.size] : List Value)))) 54 :: Ch.blk wb ([.map (some z.mo), .map (some z.mm), VI ((z.n + 1 : Nat) : Int), .bool z.tl, .slice (hd z.fa) z.fs.length z.fc, VI 0]) 70 :: Ch.obj z.mo (mobj kA z.Mo z.co) :: Ch.obj z.mm (mobj kA mm4 mc5) :: Ch.own z.fa z.fs.length z.fc ((z.fs).flatMap flE) 48 3 :: z.T) := H
       refine ⟨H.sub (.cons _ (.cons _ (.cons_cons _ (.cons _ (.cons_cons _ (.cons_cons _ (List.nil_sublist _))))))), ?_⟩
       replace HS := H.sub (.cons _ (.cons _ (.cons_cons _ (.cons _ (.cons_cons _ (.cons_cons _ (List.nil_sublist _)))))))
       refine t_step 13 rfl (by kernel_rfl) (o_appG (enc := flE) (s := ⟨hd (some b12), 1, 1, [(⟨p ++ x.name, false, ⟨hd a10, ((lookS l x.of).getD nilS).l.length, c11, ((lookS l x.of).getD nilS).l⟩⟩ : Fl)]⟩) (l' := z.fs ++ ([(⟨p ++ x.name, false, ⟨hd a10, ((lookS l x.of).getD nilS).l.length, c11, ((lookS l x.of).getD nilS).l⟩⟩ : Fl)])) (len' := z.fs.length + 1) rfl rfl H (i := 6) rfl sl40 Try.underlying40 rfl rfl (H.glOwn (i := 0) rfl (by decide) (fun c _ => flE_len c)) (by decide) (fun c _ => flE_all c) (by omega) (by decide) (fun a13 c14 w H => ?_)); replace H : Hp _ w _ (Ch.own (some b12) 1 1 (([(⟨p ++ x.name, false, ⟨hd a10, ((lookS l x.of).getD nilS).l.length, c11, ((lookS l x.of).getD nilS).l⟩⟩ : Fl)]).flatMap flE) 48 3 :: Ch.own a10 (((lookS l x.of).getD nilS).l.length) c11 ((((lookS l x.of).getD nilS).l).map V8) 5 1 :: Ch.blk b1 (([.string ⟨(x.name).toArray⟩, VI x.kind] : List Value) ++ ((x.of.1).map V8 ++ (([VI x.size] : List Value)))) 54 :: Ch.blk wb ([.map (some z.mo), .map (some z.mm), VI ((z.n + 1 : Nat) : Int), .bool z.tl, .slice (hd z.fa) z.fs.length z.fc, VI 0]) 70 :: Ch.obj z.mo (mobj kA z.Mo z.co) :: Ch.obj z.mm (mobj kA mm4 mc5) :: Ch.own a13 (z.fs.length + 1) c14 ((z.fs ++ ([(⟨p ++ x.name, false, ⟨hd a10, ((lookS l x.of).getD nilS).l.length, c11, ((lookS l x.of).getD nilS).l⟩⟩ : Fl)])).flatMap flE) 48 3 :: z.T) := H
       refine ⟨H.sub (.cons _ (.cons _ (.cons_cons _ (.cons _ (.cons_cons _ (.cons_cons _ (List.nil_sublist _))))))), ?_⟩
       replace HS := H.sub (.cons _ (.cons _ (.cons_cons _ (.cons _ (.cons_cons _ (.cons_cons _ (List.nil_sublist _)))))))
       refine t_take 14 rfl (by kernel_rfl) (by kernel_rfl) (by kernel_rfl) (fun _ _ _ h => h) (fun w HS => r_nilc rfl) HS ?_; refine t_take 15 rfl (by kernel_rfl) (by kernel_rfl) (by kernel_rfl) (fun _ _ _ h => h) (fun w HS => r_fa rfl fo70_4) HS ?_; refine t_step 16 rfl (by kernel_rfl) (o_st (v := .slice (hd a13) (z.fs.length + 1) c14) H (i := 3) rfl rfl rfl cs40 rfl (by simp only [List.length_cons, List.length_nil]; omega) (fun w H => ?_)); replace H : Hp _ w _ (Ch.own (some b12) 1 1 (([(⟨p ++ x.name, false, ⟨hd a10, ((lookS l x.of).getD nilS).l.length, c11, ((lookS l x.of).getD nilS).l⟩⟩ : Fl)]).flatMap flE) 48 3 :: Ch.own a10 (((lookS l x.of).getD nilS).l.length) c11 ((((lookS l x.of).getD nilS).l).map V8) 5 1 :: Ch.blk b1 (([.string ⟨(x.name).toArray⟩, VI x.kind] : List Value) ++ ((x.of.1).map V8 ++ (([VI x.size] : List Value)))) 54 :: Ch.blk wb ([.map (some z.mo), .map (some z.mm), VI ((z.n + 1 : Nat) : Int), .bool z.tl, .slice (hd a13) (z.fs.length + 1) c14, VI 0]) 70 :: Ch.obj z.mo (mobj kA z.Mo z.co) :: Ch.obj z.mm (mobj kA mm4 mc5) :: Ch.own a13 (z.fs.length + 1) c14 ((z.fs ++ ([(⟨p ++ x.name, false, ⟨hd a10, ((lookS l x.of).getD nilS).l.length, c11, ((lookS l x.of).getD nilS).l⟩⟩ : Fl)])).flatMap flE) 48 3 :: z.T) := H
       refine ⟨H.sub (.cons _ (.cons _ (.cons_cons _ (.cons _ (.cons_cons _ (.cons_cons _ (List.nil_sublist _))))))), ?_⟩
       replace HS := H.sub (.cons _ (.cons _ (.cons_cons _ (.cons _ (.cons_cons _ (.cons_cons _ (List.nil_sublist _)))))))
       refine t_done (by kernel_rfl) ?_
       clear HS
       try simp only [Exit.then, Exit.inBlock, ↓reduceIte]
       refine e_norm ?_; refine e_ret0 Try.results48 ?_
       refine ⟨_, rfl, ?_⟩
       have hst := step_file (L := obL l) (t := (⟨1, x.of, x.size, dp, p ++ x.name⟩ : Todo)) (s := s) (fun h => h.elim (fun h => absurd (show (1 : Int) = 2 from h.1) (by decide)) (fun h => by omega)) (look_some hc3) rfl (show (((lookS l x.of).getD nilS).l.length : Int) = x.size by rw [hob.2]; omega)
       have hw := wlkAll_one (L := obL l) (t := (⟨1, x.of, x.size, dp, p ++ x.name⟩ : Todo)) (s := s) (by rw [hst])
       rw [hst] at hw
       rw [hw]
       have hl1 : (z.fs ++ ([(⟨p ++ x.name, false, ⟨hd a10, ((lookS l x.of).getD nilS).l.length, c11, ((lookS l x.of).getD nilS).l⟩⟩ : Fl)])).length = z.fs.length + 1 := by rw [List.length_append]; rfl
       rw [← hl1] at H
       exact ⟨(⟨z.mo, z.Mo, z.co, z.mm, mm4, mc5, fput z.G x.of ((z.G x.of).getD 0 + 1), (z.n + 1), z.tl, a13, c14, z.fs ++ ([(⟨p ++ x.name, false, ⟨hd a10, ((lookS l x.of).getD nilS).l.length, c11, ((lookS l x.of).getD nilS).l⟩⟩ : Fl)])⟩ : WY), 0, fun _ => ⟨hz.hO, hz.hOk, hmf6, hmo7, bd_put hz.bd x.of, by show z.n + 1 ≤ 1024; omega, fat_add hz.fat rfl, by simp only [List.length_append, List.length_singleton]; omega⟩, rfl, ⟨hs0.symm, fun _ => ⟨congrArg (· + 1) hrn, keys_put hrg x.of, fun ht => by rw [List.map_append, List.map_append, hrf ht]; rfl⟩⟩, wfile_step (H.sub (.cons _ (.cons_cons _ (.cons _ (.cons_cons _ (.cons_cons _ (.cons_cons _ (.cons_cons _ (List.Sublist.refl _)))))))))⟩
      ·
       refine (o_callR Try.func64 rfl rfl rfl (wclone_ret _ ((lookS l x.of).getD nilS) (hobd H _) (by (try dsimp only); omega)) ?_)
       rintro _ w ⟨a15, c16, rfl, Hc⟩
       replace H : Hp _ w _ (Ch.own a15 (((lookS l x.of).getD nilS).l.length) c16 ((((lookS l x.of).getD nilS).l).map V8) 5 1 :: Ch.blk b1 (([.string ⟨(x.name).toArray⟩, VI x.kind] : List Value) ++ ((x.of.1).map V8 ++ (([VI x.size] : List Value)))) 54 :: Ch.blk wb ([.map (some z.mo), .map (some z.mm), VI ((z.n + 1 : Nat) : Int), .bool z.tl, .slice (hd z.fa) z.fs.length z.fc, VI 0]) 70 :: Ch.obj z.mo (mobj kA z.Mo z.co) :: Ch.obj z.mm (mobj kA mm4 mc5) :: Ch.own z.fa z.fs.length z.fc ((z.fs).flatMap flE) 48 3 :: z.T) := (H.call Hc).rot
       clear Hc
       refine ⟨H.sub (.cons _ (.cons_cons _ (.cons _ (.cons_cons _ (.cons_cons _ (List.nil_sublist _)))))), ?_⟩
       replace HS := H.sub (.cons _ (.cons_cons _ (.cons _ (.cons_cons _ (.cons_cons _ (List.nil_sublist _))))))
       refine t_take 11 rfl (by kernel_rfl) (by kernel_rfl) (by kernel_rfl) (fun _ _ _ h => h) (fun w HS => r_bldG (Z := ([.string ⟨(([] : List UInt8)).toArray⟩, .bool false, .slice none 0 0] : List Value)) (E := ([.string ⟨(p ++ x.name).toArray⟩, .bool false, .slice (hd a15) (((lookS l x.of).getD nilS).l.length) c16] : List Value)) (pv := [(0, .string ⟨(p ++ x.name).toArray⟩), (2, .slice (hd a15) (((lookS l x.of).getD nilS).l.length) c16)]) bd48 rfl rfl (.cons (A := ([] : List Value)) (B := ([.string ⟨(([] : List UInt8)).toArray⟩] : List Value)) (D := ([.bool false, .slice none 0 0] : List Value)) (V := ([.string ⟨(p ++ x.name).toArray⟩] : List Value)) (a := 0) (b := 1) rfl (show Cut3 (([.string ⟨(([] : List UInt8)).toArray⟩, .bool false, .slice none 0 0] : List Value)) (([] : List Value)) (([.string ⟨(([] : List UInt8)).toArray⟩] : List Value)) (([.bool false, .slice none 0 0] : List Value)) 0 1 from ⟨(show ([.string ⟨(([] : List UInt8)).toArray⟩, .bool false, .slice none 0 0] : List Value) = ([] : List Value) ++ ((([.string ⟨(([] : List UInt8)).toArray⟩] : List Value)) ++ (([.bool false, .slice none 0 0] : List Value))) from by simp only [List.cons_append, List.nil_append]), (by rfl), (by rfl)⟩) (by rfl) (by rfl) ((show ([.string ⟨(p ++ x.name).toArray⟩, .bool false, .slice none 0 0] : List Value) = ([] : List Value) ++ ((([.string ⟨(p ++ x.name).toArray⟩] : List Value)) ++ (([.bool false, .slice none 0 0] : List Value))) from by simp only [List.cons_append, List.nil_append]) ▸ .cons (A := ([.string ⟨(p ++ x.name).toArray⟩, .bool false] : List Value)) (B := ([.slice none 0 0] : List Value)) (D := ([] : List Value)) (V := ([.slice (hd a15) (((lookS l x.of).getD nilS).l.length) c16] : List Value)) (a := 2) (b := 1) rfl (show Cut3 (([.string ⟨(p ++ x.name).toArray⟩, .bool false, .slice none 0 0] : List Value)) (([.string ⟨(p ++ x.name).toArray⟩, .bool false] : List Value)) (([.slice none 0 0] : List Value)) (([] : List Value)) 2 1 from ⟨(show ([.string ⟨(p ++ x.name).toArray⟩, .bool false, .slice none 0 0] : List Value) = ([.string ⟨(p ++ x.name).toArray⟩, .bool false] : List Value) ++ ((([.slice none 0 0] : List Value)) ++ (([] : List Value))) from by simp only [List.cons_append, List.nil_append]), (by rfl), (by rfl)⟩) (by rfl) (by rfl) ((show ([.string ⟨(p ++ x.name).toArray⟩, .bool false, .slice (hd a15) (((lookS l x.of).getD nilS).l.length) c16] : List Value) = ([.string ⟨(p ++ x.name).toArray⟩, .bool false] : List Value) ++ ((([.slice (hd a15) (((lookS l x.of).getD nilS).l.length) c16] : List Value)) ++ (([] : List Value))) from by simp only [List.cons_append, List.nil_append]) ▸ .nil _)))) HS ?_; refine t_all [4, 12] (by kernel_rfl) (by simp) (all_cons (w_op 4 rfl ?_) (all_cons (w_op 12 rfl ?_) (all_nil)))
       ·
        refine (o_val (r_ld (v := .slice (hd z.fa) z.fs.length z.fc) H (i := 2) rfl rfl ct40 rfl) ?_)
        refine ⟨H.sub (.cons _ (.cons_cons _ (.cons _ (.cons_cons _ (.cons_cons _ (List.nil_sublist _)))))), ?_⟩
        replace HS := H.sub (.cons _ (.cons_cons _ (.cons _ (.cons_cons _ (.cons_cons _ (List.nil_sublist _))))))
        refine t_step 12 rfl (by kernel_rfl) (o_bslG1 (enc := flE) ((⟨p ++ x.name, false, ⟨hd a15, ((lookS l x.of).getD nilS).l.length, c16, ((lookS l x.of).getD nilS).l⟩⟩ : Fl)) H sl40 zc48 (by rfl) (by decide) (by decide) rfl (flE_len _) (fun b17 w H hb17 => ?_)); replace H := H.rot
        replace H : Hp _ w _ (Ch.own (some b17) 1 1 (([(⟨p ++ x.name, false, ⟨hd a15, ((lookS l x.of).getD nilS).l.length, c16, ((lookS l x.of).getD nilS).l⟩⟩ : Fl)]).flatMap flE) 48 3 :: Ch.own a15 (((lookS l x.of).getD nilS).l.length) c16 ((((lookS l x.of).getD nilS).l).map V8) 5 1 :: Ch.blk b1 (([.string ⟨(x.name).toArray⟩, VI x.kind] : List Value) ++ ((x.of.1).map V8 ++ (([VI x.size] : List Value)))) 54 :: Ch.blk wb ([.map (some z.mo), .map (some z.mm), VI ((z.n + 1 : Nat) : Int), .bool z.tl, .slice (hd z.fa) z.fs.length z.fc, VI 0]) 70 :: Ch.obj z.mo (mobj kA z.Mo z.co) :: Ch.obj z.mm (mobj kA mm4 mc5) :: Ch.own z.fa z.fs.length z.fc ((z.fs).flatMap flE) 48 3 :: z.T) := H
        refine ⟨H.sub (.cons _ (.cons _ (.cons_cons _ (.cons _ (.cons_cons _ (.cons_cons _ (List.nil_sublist _))))))), ?_⟩
        replace HS := H.sub (.cons _ (.cons _ (.cons_cons _ (.cons _ (.cons_cons _ (.cons_cons _ (List.nil_sublist _)))))))
        refine t_step 13 rfl (by kernel_rfl) (o_appG (enc := flE) (s := ⟨hd (some b17), 1, 1, [(⟨p ++ x.name, false, ⟨hd a15, ((lookS l x.of).getD nilS).l.length, c16, ((lookS l x.of).getD nilS).l⟩⟩ : Fl)]⟩) (l' := z.fs ++ ([(⟨p ++ x.name, false, ⟨hd a15, ((lookS l x.of).getD nilS).l.length, c16, ((lookS l x.of).getD nilS).l⟩⟩ : Fl)])) (len' := z.fs.length + 1) rfl rfl H (i := 6) rfl sl40 Try.underlying40 rfl rfl (H.glOwn (i := 0) rfl (by decide) (fun c _ => flE_len c)) (by decide) (fun c _ => flE_all c) (by omega) (by decide) (fun a18 c19 w H => ?_)); replace H : Hp _ w _ (Ch.own (some b17) 1 1 (([(⟨p ++ x.name, false, ⟨hd a15, ((lookS l x.of).getD nilS).l.length, c16, ((lookS l x.of).getD nilS).l⟩⟩ : Fl)]).flatMap flE) 48 3 :: Ch.own a15 (((lookS l x.of).getD nilS).l.length) c16 ((((lookS l x.of).getD nilS).l).map V8) 5 1 :: Ch.blk b1 (([.string ⟨(x.name).toArray⟩, VI x.kind] : List Value) ++ ((x.of.1).map V8 ++ (([VI x.size] : List Value)))) 54 :: Ch.blk wb ([.map (some z.mo), .map (some z.mm), VI ((z.n + 1 : Nat) : Int), .bool z.tl, .slice (hd z.fa) z.fs.length z.fc, VI 0]) 70 :: Ch.obj z.mo (mobj kA z.Mo z.co) :: Ch.obj z.mm (mobj kA mm4 mc5) :: Ch.own a18 (z.fs.length + 1) c19 ((z.fs ++ ([(⟨p ++ x.name, false, ⟨hd a15, ((lookS l x.of).getD nilS).l.length, c16, ((lookS l x.of).getD nilS).l⟩⟩ : Fl)])).flatMap flE) 48 3 :: z.T) := H
        refine ⟨H.sub (.cons _ (.cons _ (.cons_cons _ (.cons _ (.cons_cons _ (.cons_cons _ (List.nil_sublist _))))))), ?_⟩
        replace HS := H.sub (.cons _ (.cons _ (.cons_cons _ (.cons _ (.cons_cons _ (.cons_cons _ (List.nil_sublist _)))))))
        refine t_take 14 rfl (by kernel_rfl) (by kernel_rfl) (by kernel_rfl) (fun _ _ _ h => h) (fun w HS => r_nilc rfl) HS ?_; refine t_take 15 rfl (by kernel_rfl) (by kernel_rfl) (by kernel_rfl) (fun _ _ _ h => h) (fun w HS => r_fa rfl fo70_4) HS ?_; refine t_step 16 rfl (by kernel_rfl) (o_st (v := .slice (hd a18) (z.fs.length + 1) c19) H (i := 3) rfl rfl rfl cs40 rfl (by simp only [List.length_cons, List.length_nil]; omega) (fun w H => ?_)); replace H : Hp _ w _ (Ch.own (some b17) 1 1 (([(⟨p ++ x.name, false, ⟨hd a15, ((lookS l x.of).getD nilS).l.length, c16, ((lookS l x.of).getD nilS).l⟩⟩ : Fl)]).flatMap flE) 48 3 :: Ch.own a15 (((lookS l x.of).getD nilS).l.length) c16 ((((lookS l x.of).getD nilS).l).map V8) 5 1 :: Ch.blk b1 (([.string ⟨(x.name).toArray⟩, VI x.kind] : List Value) ++ ((x.of.1).map V8 ++ (([VI x.size] : List Value)))) 54 :: Ch.blk wb ([.map (some z.mo), .map (some z.mm), VI ((z.n + 1 : Nat) : Int), .bool z.tl, .slice (hd a18) (z.fs.length + 1) c19, VI 0]) 70 :: Ch.obj z.mo (mobj kA z.Mo z.co) :: Ch.obj z.mm (mobj kA mm4 mc5) :: Ch.own a18 (z.fs.length + 1) c19 ((z.fs ++ ([(⟨p ++ x.name, false, ⟨hd a15, ((lookS l x.of).getD nilS).l.length, c16, ((lookS l x.of).getD nilS).l⟩⟩ : Fl)])).flatMap flE) 48 3 :: z.T) := H
        refine ⟨H.sub (.cons _ (.cons _ (.cons_cons _ (.cons _ (.cons_cons _ (.cons_cons _ (List.nil_sublist _))))))), ?_⟩
        replace HS := H.sub (.cons _ (.cons _ (.cons_cons _ (.cons _ (.cons_cons _ (.cons_cons _ (List.nil_sublist _)))))))
        refine t_done (by kernel_rfl) ?_
        clear HS
        try simp only [Exit.then, Exit.inBlock, ↓reduceIte]
        refine e_norm ?_; refine e_ret0 Try.results48 ?_
        refine ⟨_, rfl, ?_⟩
        have hst := step_file (L := obL l) (t := (⟨1, x.of, x.size, dp, p ++ x.name⟩ : Todo)) (s := s) (fun h => h.elim (fun h => absurd (show (1 : Int) = 2 from h.1) (by decide)) (fun h => by omega)) (look_some hc3) rfl (show (((lookS l x.of).getD nilS).l.length : Int) = x.size by rw [hob.2]; omega)
        have hw := wlkAll_one (L := obL l) (t := (⟨1, x.of, x.size, dp, p ++ x.name⟩ : Todo)) (s := s) (by rw [hst])
        rw [hst] at hw
        rw [hw]
        have hl1 : (z.fs ++ ([(⟨p ++ x.name, false, ⟨hd a15, ((lookS l x.of).getD nilS).l.length, c16, ((lookS l x.of).getD nilS).l⟩⟩ : Fl)])).length = z.fs.length + 1 := by rw [List.length_append]; rfl
        rw [← hl1] at H
        exact ⟨(⟨z.mo, z.Mo, z.co, z.mm, mm4, mc5, fput z.G x.of ((z.G x.of).getD 0 + 1), (z.n + 1), z.tl, a18, c19, z.fs ++ ([(⟨p ++ x.name, false, ⟨hd a15, ((lookS l x.of).getD nilS).l.length, c16, ((lookS l x.of).getD nilS).l⟩⟩ : Fl)])⟩ : WY), 0, fun _ => ⟨hz.hO, hz.hOk, hmf6, hmo7, bd_put hz.bd x.of, by show z.n + 1 ≤ 1024; omega, fat_add hz.fat rfl, by simp only [List.length_append, List.length_singleton]; omega⟩, rfl, ⟨hs0.symm, fun _ => ⟨congrArg (· + 1) hrn, keys_put hrg x.of, fun ht => by rw [List.map_append, List.map_append, hrf ht]; rfl⟩⟩, wfile_step (H.sub (.cons _ (.cons_cons _ (.cons _ (.cons_cons _ (.cons_cons _ (.cons_cons _ (.cons_cons _ (List.Sublist.refl _)))))))))⟩
       ·
        refine (o_bslG1 (enc := flE) ((⟨p ++ x.name, false, ⟨hd a15, ((lookS l x.of).getD nilS).l.length, c16, ((lookS l x.of).getD nilS).l⟩⟩ : Fl)) H sl40 zc48 (by rfl) (by decide) (by decide) rfl (flE_len _) (fun b20 w H hb20 => ?_))
        replace H := H.rot
        replace H : Hp _ w _ (Ch.own (some b20) 1 1 (([(⟨p ++ x.name, false, ⟨hd a15, ((lookS l x.of).getD nilS).l.length, c16, ((lookS l x.of).getD nilS).l⟩⟩ : Fl)]).flatMap flE) 48 3 :: Ch.own a15 (((lookS l x.of).getD nilS).l.length) c16 ((((lookS l x.of).getD nilS).l).map V8) 5 1 :: Ch.blk b1 (([.string ⟨(x.name).toArray⟩, VI x.kind] : List Value) ++ ((x.of.1).map V8 ++ (([VI x.size] : List Value)))) 54 :: Ch.blk wb ([.map (some z.mo), .map (some z.mm), VI ((z.n + 1 : Nat) : Int), .bool z.tl, .slice (hd z.fa) z.fs.length z.fc, VI 0]) 70 :: Ch.obj z.mo (mobj kA z.Mo z.co) :: Ch.obj z.mm (mobj kA mm4 mc5) :: Ch.own z.fa z.fs.length z.fc ((z.fs).flatMap flE) 48 3 :: z.T) := H
        refine ⟨H.sub (.cons _ (.cons _ (.cons_cons _ (.cons _ (.cons_cons _ (.cons_cons _ (List.nil_sublist _))))))), ?_⟩
        replace HS := H.sub (.cons _ (.cons _ (.cons_cons _ (.cons _ (.cons_cons _ (.cons_cons _ (List.nil_sublist _)))))))
        refine t_step 4 rfl (by kernel_rfl) (o_val (r_ld (v := .slice (hd z.fa) z.fs.length z.fc) H (i := 3) rfl rfl ct40 rfl) ?_); refine ⟨H.sub (.cons _ (.cons _ (.cons_cons _ (.cons _ (.cons_cons _ (.cons_cons _ (List.nil_sublist _))))))), ?_⟩
        replace HS := H.sub (.cons _ (.cons _ (.cons_cons _ (.cons _ (.cons_cons _ (.cons_cons _ (List.nil_sublist _)))))))
        refine t_step 13 rfl (by kernel_rfl) (o_appG (enc := flE) (s := ⟨hd (some b20), 1, 1, [(⟨p ++ x.name, false, ⟨hd a15, ((lookS l x.of).getD nilS).l.length, c16, ((lookS l x.of).getD nilS).l⟩⟩ : Fl)]⟩) (l' := z.fs ++ ([(⟨p ++ x.name, false, ⟨hd a15, ((lookS l x.of).getD nilS).l.length, c16, ((lookS l x.of).getD nilS).l⟩⟩ : Fl)])) (len' := z.fs.length + 1) rfl rfl H (i := 6) rfl sl40 Try.underlying40 rfl rfl (H.glOwn (i := 0) rfl (by decide) (fun c _ => flE_len c)) (by decide) (fun c _ => flE_all c) (by omega) (by decide) (fun a21 c22 w H => ?_)); replace H : Hp _ w _ (Ch.own (some b20) 1 1 (([(⟨p ++ x.name, false, ⟨hd a15, ((lookS l x.of).getD nilS).l.length, c16, ((lookS l x.of).getD nilS).l⟩⟩ : Fl)]).flatMap flE) 48 3 :: Ch.own a15 (((lookS l x.of).getD nilS).l.length) c16 ((((lookS l x.of).getD nilS).l).map V8) 5 1 :: Ch.blk b1 (([.string ⟨(x.name).toArray⟩, VI x.kind] : List Value) ++ ((x.of.1).map V8 ++ (([VI x.size] : List Value)))) 54 :: Ch.blk wb ([.map (some z.mo), .map (some z.mm), VI ((z.n + 1 : Nat) : Int), .bool z.tl, .slice (hd z.fa) z.fs.length z.fc, VI 0]) 70 :: Ch.obj z.mo (mobj kA z.Mo z.co) :: Ch.obj z.mm (mobj kA mm4 mc5) :: Ch.own a21 (z.fs.length + 1) c22 ((z.fs ++ ([(⟨p ++ x.name, false, ⟨hd a15, ((lookS l x.of).getD nilS).l.length, c16, ((lookS l x.of).getD nilS).l⟩⟩ : Fl)])).flatMap flE) 48 3 :: z.T) := H
        refine ⟨H.sub (.cons _ (.cons _ (.cons_cons _ (.cons _ (.cons_cons _ (.cons_cons _ (List.nil_sublist _))))))), ?_⟩
        replace HS := H.sub (.cons _ (.cons _ (.cons_cons _ (.cons _ (.cons_cons _ (.cons_cons _ (List.nil_sublist _)))))))
        refine t_take 14 rfl (by kernel_rfl) (by kernel_rfl) (by kernel_rfl) (fun _ _ _ h => h) (fun w HS => r_nilc rfl) HS ?_; refine t_take 15 rfl (by kernel_rfl) (by kernel_rfl) (by kernel_rfl) (fun _ _ _ h => h) (fun w HS => r_fa rfl fo70_4) HS ?_; refine t_step 16 rfl (by kernel_rfl) (o_st (v := .slice (hd a21) (z.fs.length + 1) c22) H (i := 3) rfl rfl rfl cs40 rfl (by simp only [List.length_cons, List.length_nil]; omega) (fun w H => ?_)); replace H : Hp _ w _ (Ch.own (some b20) 1 1 (([(⟨p ++ x.name, false, ⟨hd a15, ((lookS l x.of).getD nilS).l.length, c16, ((lookS l x.of).getD nilS).l⟩⟩ : Fl)]).flatMap flE) 48 3 :: Ch.own a15 (((lookS l x.of).getD nilS).l.length) c16 ((((lookS l x.of).getD nilS).l).map V8) 5 1 :: Ch.blk b1 (([.string ⟨(x.name).toArray⟩, VI x.kind] : List Value) ++ ((x.of.1).map V8 ++ (([VI x.size] : List Value)))) 54 :: Ch.blk wb ([.map (some z.mo), .map (some z.mm), VI ((z.n + 1 : Nat) : Int), .bool z.tl, .slice (hd a21) (z.fs.length + 1) c22, VI 0]) 70 :: Ch.obj z.mo (mobj kA z.Mo z.co) :: Ch.obj z.mm (mobj kA mm4 mc5) :: Ch.own a21 (z.fs.length + 1) c22 ((z.fs ++ ([(⟨p ++ x.name, false, ⟨hd a15, ((lookS l x.of).getD nilS).l.length, c16, ((lookS l x.of).getD nilS).l⟩⟩ : Fl)])).flatMap flE) 48 3 :: z.T) := H
        refine ⟨H.sub (.cons _ (.cons _ (.cons_cons _ (.cons _ (.cons_cons _ (.cons_cons _ (List.nil_sublist _))))))), ?_⟩
        replace HS := H.sub (.cons _ (.cons _ (.cons_cons _ (.cons _ (.cons_cons _ (.cons_cons _ (List.nil_sublist _)))))))
        refine t_done (by kernel_rfl) ?_
        clear HS
        try simp only [Exit.then, Exit.inBlock, ↓reduceIte]
        refine e_norm ?_; refine e_ret0 Try.results48 ?_
        refine ⟨_, rfl, ?_⟩
        have hst := step_file (L := obL l) (t := (⟨1, x.of, x.size, dp, p ++ x.name⟩ : Todo)) (s := s) (fun h => h.elim (fun h => absurd (show (1 : Int) = 2 from h.1) (by decide)) (fun h => by omega)) (look_some hc3) rfl (show (((lookS l x.of).getD nilS).l.length : Int) = x.size by rw [hob.2]; omega)
        have hw := wlkAll_one (L := obL l) (t := (⟨1, x.of, x.size, dp, p ++ x.name⟩ : Todo)) (s := s) (by rw [hst])
        rw [hst] at hw
        rw [hw]
        have hl1 : (z.fs ++ ([(⟨p ++ x.name, false, ⟨hd a15, ((lookS l x.of).getD nilS).l.length, c16, ((lookS l x.of).getD nilS).l⟩⟩ : Fl)])).length = z.fs.length + 1 := by rw [List.length_append]; rfl
        rw [← hl1] at H
        exact ⟨(⟨z.mo, z.Mo, z.co, z.mm, mm4, mc5, fput z.G x.of ((z.G x.of).getD 0 + 1), (z.n + 1), z.tl, a21, c22, z.fs ++ ([(⟨p ++ x.name, false, ⟨hd a15, ((lookS l x.of).getD nilS).l.length, c16, ((lookS l x.of).getD nilS).l⟩⟩ : Fl)])⟩ : WY), 0, fun _ => ⟨hz.hO, hz.hOk, hmf6, hmo7, bd_put hz.bd x.of, by show z.n + 1 ≤ 1024; omega, fat_add hz.fat rfl, by simp only [List.length_append, List.length_singleton]; omega⟩, rfl, ⟨hs0.symm, fun _ => ⟨congrArg (· + 1) hrn, keys_put hrg x.of, fun ht => by rw [List.map_append, List.map_append, hrf ht]; rfl⟩⟩, wfile_step (H.sub (.cons _ (.cons_cons _ (.cons _ (.cons_cons _ (.cons_cons _ (.cons_cons _ (.cons_cons _ (List.Sublist.refl _)))))))))⟩
     ·
      repeat refine c_seq ?_
      refine c_no (by exact congrArg Value.bool hc9) ?_; refine c_skip ?_; try simp only [Exit.then, Exit.inBlock, ↓reduceIte]
      refine e_norm ?_; refine e_ret0 Try.results48 ?_
      refine ⟨_, rfl, ?_⟩
      have hst := step_file (L := obL l) (t := (⟨1, x.of, x.size, dp, p ++ x.name⟩ : Todo)) (s := s) (fun h => h.elim (fun h => absurd (show (1 : Int) = 2 from h.1) (by decide)) (fun h => by omega)) (look_some hc3) rfl (show (((lookS l x.of).getD nilS).l.length : Int) = x.size by rw [hob.2]; omega)
      have hw := wlkAll_one (L := obL l) (t := (⟨1, x.of, x.size, dp, p ++ x.name⟩ : Todo)) (s := s) (by rw [hst])
      rw [hst] at hw
      rw [hw]
      exact ⟨(⟨z.mo, z.Mo, z.co, z.mm, mm4, mc5, fput z.G x.of ((z.G x.of).getD 0 + 1), (z.n + 1), z.tl, z.fa, z.fc, z.fs⟩ : WY), 0, fun _ => ⟨hz.hO, hz.hOk, hmf6, hmo7, bd_put hz.bd x.of, by show z.n + 1 ≤ 1024; omega, hz.fat, by show z.fs.length ≤ z.n + 1; omega⟩, rfl, ⟨hs0.symm, fun _ => ⟨congrArg (· + 1) hrn, keys_put hrg x.of, fun ht => absurd (show z.tl = true from ht) (by rw [hc9]; decide)⟩⟩, H.sub (.cons _ (.cons_cons _ (.cons_cons _ (.cons_cons _ (.cons_cons _ (List.Sublist.refl _))))))⟩
   ·
    refine l_op (o_callR Try.func47 rfl rfl rfl (wobj_miss _ l wb z.mo z.co z.mm z.cm z.n z.fs.length z.fc z.Mo z.Mm z.G (hd z.fa) z.tl hz.hO hz.hOk hz.hM hz.hMk (by omega) x.of (by omega) hc3 (H.ownU (L := [.blk b1 (([.string ⟨(x.name).toArray⟩, VI x.kind] : List Value) ++ ((x.of.1).map V8 ++ (([VI x.size] : List Value)))) 54, .blk wb ([.map (some z.mo), .map (some z.mm), VI (z.n : Int), .bool z.tl, .slice (hd z.fa) z.fs.length z.fc, VI 0]) 70, .obj z.mo (mobj kA z.Mo z.co), .obj z.mm (mobj kA z.Mm z.cm), .own z.fa z.fs.length z.fc ((z.fs).flatMap flE) 48 3]) (L1 := [.blk wb ([.map (some z.mo), .map (some z.mm), VI (z.n : Int), .bool z.tl, .slice (hd z.fa) z.fs.length z.fc, VI 0]) 70, .obj z.mo (mobj kA z.Mo z.co), .obj z.mm (mobj kA z.Mm z.cm)]) (Lr := ([.blk b1 (([.string ⟨(x.name).toArray⟩, VI x.kind] : List Value) ++ ((x.of.1).map V8 ++ (([VI x.size] : List Value)))) 54, .own z.fa z.fs.length z.fc ((z.fs).flatMap flE) 48 3] : List Ch)) (T := z.T) ((perm_front (j := 1) rfl).trans (.cons _ ((perm_front (j := 1) rfl).trans (.cons _ ((perm_front (j := 1) rfl).trans (.cons _ (.refl _))))))))) ?_); rintro _ w ⟨rfl, Hc⟩
    replace H := H.callU (L1' := [.blk wb ([.map (some z.mo), .map (some z.mm), VI ((z.n + 1 : Nat) : Int), .bool z.tl, .slice (hd z.fa) z.fs.length z.fc, VI 15]) 70, .obj z.mo (mobj kA z.Mo z.co), .obj z.mm (mobj kA z.Mm z.cm)]) (L := [.blk b1 (([.string ⟨(x.name).toArray⟩, VI x.kind] : List Value) ++ ((x.of.1).map V8 ++ (([VI x.size] : List Value)))) 54, .blk wb ([.map (some z.mo), .map (some z.mm), VI (z.n : Int), .bool z.tl, .slice (hd z.fa) z.fs.length z.fc, VI 0]) 70, .obj z.mo (mobj kA z.Mo z.co), .obj z.mm (mobj kA z.Mm z.cm), .own z.fa z.fs.length z.fc ((z.fs).flatMap flE) 48 3]) (L1 := [.blk wb ([.map (some z.mo), .map (some z.mm), VI (z.n : Int), .bool z.tl, .slice (hd z.fa) z.fs.length z.fc, VI 0]) 70, .obj z.mo (mobj kA z.Mo z.co), .obj z.mm (mobj kA z.Mm z.cm)]) (Lr := ([.blk b1 (([.string ⟨(x.name).toArray⟩, VI x.kind] : List Value) ++ ((x.of.1).map V8 ++ (([VI x.size] : List Value)))) 54, .own z.fa z.fs.length z.fc ((z.fs).flatMap flE) 48 3] : List Ch)) (T := z.T) ((perm_front (j := 1) rfl).trans (.cons _ ((perm_front (j := 1) rfl).trans (.cons _ ((perm_front (j := 1) rfl).trans (.cons _ (.refl _))))))) Hc ((perm_front (j := 0) rfl).trans (.cons _ ((perm_front (j := 1) rfl).trans (.cons _ ((perm_front (j := 1) rfl).trans (.cons _ ((perm_front (j := 1) rfl).trans (.cons _ (.refl _)))))))))
    clear Hc
    replace H : Hp _ w _ (Ch.blk b1 (([.string ⟨(x.name).toArray⟩, VI x.kind] : List Value) ++ ((x.of.1).map V8 ++ (([VI x.size] : List Value)))) 54 :: Ch.blk wb ([.map (some z.mo), .map (some z.mm), VI ((z.n + 1 : Nat) : Int), .bool z.tl, .slice (hd z.fa) z.fs.length z.fc, VI 15]) 70 :: Ch.obj z.mo (mobj kA z.Mo z.co) :: Ch.obj z.mm (mobj kA z.Mm z.cm) :: Ch.own z.fa z.fs.length z.fc ((z.fs).flatMap flE) 48 3 :: z.T) := H
    refine l_op (o_val r_mv ?_); refine l_op (o_val (r_ext rfl rfl) ?_); refine l_op (o_val (r_ext rfl rfl) ?_); refine l_op (o_val r_as ?_); refine l_op (o_val r_as ?_); first | refine l_end ?_ | refine l_nil ?_
    repeat refine c_seq ?_
    refine c_region ?_; refine l_op (o_val r_mv ?_); refine l_op (o_val (r_not rfl) ?_); first | refine l_end ?_ | refine l_nil ?_
    repeat refine c_seq ?_
    refine c_yes rfl ?_; refine c_ret ?_; try dsimp only [Exit.then, Exit.inBlock]
    refine e_ret0 Try.results48 ?_
    refine ⟨_, rfl, ?_⟩
    have hst := step_miss (L := obL l) (t := (⟨1, x.of, x.size, dp, p ++ x.name⟩ : Todo)) (s := s) (fun h => h.elim (fun h => absurd (show (1 : Int) = 2 from h.1) (by decide)) (fun h => by omega)) (look_none hc3)
    have hw : wlkAll (obL l) [(⟨1, x.of, x.size, dp, p ++ x.name⟩ : Todo)] s = { s with err := 15 } := by rw [wlkAll_one (by rw [hst]), hst]
    rw [hw]
    exact ⟨(⟨z.mo, z.Mo, z.co, z.mm, z.Mm, z.cm, z.G, (z.n + 1), z.tl, z.fa, z.fc, z.fs⟩ : WY), 15, fun h => absurd h (by decide), rfl, ⟨rfl, fun h => absurd (show (15 : Int) = 0 from h) (by decide)⟩, H.sub (.cons _ (.cons_cons _ (.cons_cons _ (.cons_cons _ (.cons_cons _ (List.Sublist.refl _))))))⟩
end Go.Proofs.Ytomjbabllcmodaa
namespace Go.Proofs.Ytomjbabllcmodaa
open Go
set_option maxRecDepth 100000
section
variable {P : Program} {n : Nat} {σ : Nat → Value} {w : World} {ty : TypeId} {pos : String} {aft : Array Edge} {g : Option (Nat × Bool)} {d : Nat} {t : TypeId} {x y : Operand}
theorem ext_take (l : List UInt8) (h : Nat) : ByteArray.extract ⟨l.toArray⟩ 0 h = ⟨(l.take h).toArray⟩ := by
  apply ByteArray.ext; simp [ByteArray.data_extract]
theorem r_slstrH {l : List UInt8} {h : Nat} {kk : IntKind} {j : Int} (hu : P.underlying t = some .string) (hx : ev n σ x = .string ⟨l.toArray⟩) (hy : ev n σ y = .int kk j) (hj : j = (h : Int)) (hl : h ≤ l.length) :
    (execOp (ev n σ) ⟨some d, .slice t x none (some y) none, ty, pos, aft, g⟩).run P w = .ok (.value (.string ⟨(l.take h).toArray⟩)) w := by
  rw [← ext_take]
  exact r_sls (m := ByteArray.size ⟨l.toArray⟩) hu hx rfl (congrArg some hy) (fun w => sbh h hj (by simpa [ByteArray.size] using hl) w)
end
end Go.Proofs.Ytomjbabllcmodaa
namespace Go.Proofs.Ytomjbabllcmodaa
open Go
set_option maxRecDepth 100000
def EnterAt (l : List Ob) (dp : Nat) : Prop := ∀ (w0 : World) (wb : Nat) (z : WY) (_hO : Own w0 (wch wb z 0)) (_hz : z.ok l) (_ho : ∀ o ∈ l, o.data.ok w0 ∧ o.data.len ≤ 1048576) (_hap : ∀ o ∈ l, o.data.l ≠ [] → Apart o.data.a (keys (wch wb z 0))) (s : WS) (_hr : Rel z 0 s) (k : Id32) (sz : Int) (tp p : List UInt8) (_hpp : p = if 1 < dp then tp ++ [47] else []) (_hpl : p.length ≤ 100 * dp), Ret Try.prog 31 [.pointer (some ⟨wb, 0, none⟩), .agg (k.1.map V8).toArray, .string ⟨(p).toArray⟩, VI (dp : Int)] w0 fun v w' => ∃ z' e', (e' = 0 → z'.ok l) ∧ z'.tl = z.tl ∧ Rel z' e' (wlkAll (obL l) [⟨2, k, sz, dp, tp⟩] s) ∧ Hp w0 w' (keys (wch wb z 0)) (wch wb z' e')
theorem ho_up {l : List Ob} {w0 w : World} {S : List Nat} {L : List Ch} (ho : ∀ o ∈ l, o.data.ok w0 ∧ o.data.len ≤ 1048576) (hap : ∀ o ∈ l, o.data.l ≠ [] → Apart o.data.a S) (H : Hp w0 w S L) : ∀ o ∈ l, o.data.ok w ∧ o.data.len ≤ 1048576 := fun o h => ⟨(ho o h).1.up H (hap o h), (ho o h).2⟩
theorem ap_turn {l : List Ob} {w0 w : World} {S : List Nat} {L L1 Lr T : List Ch} (hap : ∀ o ∈ l, o.data.l ≠ [] → Apart o.data.a S) (ho : ∀ o ∈ l, o.data.ok w0 ∧ o.data.len ≤ 1048576) (H : Hp w0 w S (L ++ T)) (hp : L.Perm (L1 ++ Lr)) : ∀ o ∈ l, o.data.l ≠ [] → Apart o.data.a (keys (L1 ++ T)) := fun o hm hn x hx hb => by
  obtain ⟨c, hc, hk⟩ := mem_keys.1 hb
  have hm2 : c ∈ L ++ T := by
    rcases List.mem_append.1 hc with h | h
    · exact List.mem_append_left _ (hp.mem_iff.2 (List.mem_append_left _ h))
    · exact List.mem_append_right _ h
  rcases H.fresh c hm2 _ hk with h | h
  · exact hap o hm hn x hx h
  · have := (ho o hm).1.apartK (S := [x.block]) (fun b hb2 => by rw [List.mem_singleton.1 hb2]; exact h) hn x hx
    exact this (List.mem_singleton.2 rfl)
theorem kid_path {k : Id32} {sz : Int} {dp : Nat} {tp p : List UInt8} {x : It} (hpp : p = if 1 < dp then tp ++ [47] else []) (h1 : 1 ≤ dp) : p ++ x.name ++ [47] = if 1 < dp + 1 then (wkid ⟨2, k, sz, dp, tp⟩ x).path ++ [47] else [] := by
  rw [if_pos (by omega), hpp]
  show _ = (if 1 < dp then tp ++ (47 :: x.name) else x.name) ++ [47]
  by_cases h : 1 < dp
  · rw [if_pos h, if_pos h]; simp
  · rw [if_neg h, if_neg h]; simp
theorem path_take {dp : Nat} {tp p : List UInt8} (hpp : p = if 1 < dp then tp ++ [47] else []) (h1 : 1 < dp) : p.take ((p.length : Int) - 1).toNat = tp := by
  rw [if_pos h1] at hpp
  subst hpp
  rw [List.length_append, List.length_singleton, show (((tp.length + 1 : Nat) : Int) - 1).toNat = tp.length by omega, List.take_left]
theorem path_pos {dp : Nat} {tp p : List UInt8} (hpp : p = if 1 < dp then tp ++ [47] else []) (h1 : 1 < dp) : 1 ≤ p.length := by
  rw [if_pos h1] at hpp
  subst hpp
  rw [List.length_append, List.length_singleton]; omega
theorem kid_file {k : Id32} {sz : Int} {dp : Nat} {tp p : List UInt8} {x : It} (hpp : p = if 1 < dp then tp ++ [47] else []) (hk : x.kind = 1) : wkid ⟨2, k, sz, dp, tp⟩ x = ⟨1, x.of, x.size, dp + 1, p ++ x.name⟩ := by
  rw [wkid, hpp, hk]
  by_cases h : 1 < dp
  · rw [if_pos h, if_pos h]; simp
  · rw [if_neg h, if_neg h]; simp
theorem kid_dir {k : Id32} {sz : Int} {dp : Nat} {tp : List UInt8} {x : It} (hk : x.kind = 2) : wkid ⟨2, k, sz, dp, tp⟩ x = ⟨2, x.of, x.size, dp + 1, (wkid ⟨2, k, sz, dp, tp⟩ x).path⟩ := by
  rw [wkid, hk]
theorem it_facts {d : List UInt8} {its : List It} (h : takeF d = some its) : ∀ x ∈ its, x.name.length ≤ 64 ∧ (x.kind = 1 ∨ x.kind = 2) := fun x hx => by
  have := (takeF_of h).1.ok x hx
  exact ⟨this.1.2.2.1, this.2.1.imp id And.left⟩
variable {L : List (Id32 × List UInt8)}
theorem kids_next {its : List It} {f : It → Todo} {i : Nat} {x : It} {s0 : WS} (hx : its[i]? = some x) (he : s0.err = 0) (hm : s0.met ≤ 1024) (h1 : (wlkAll L ((its.take i).map f) s0).err = 0) : wlkAll L ((its.take (i + 1)).map f) s0 = wlkAll L [f x] (wlkAll L ((its.take i).map f) s0) := by
  rw [take_snocG hx, List.map_append]
  exact wlkAll_snoc he hm rfl h1
theorem kids_stop {its : List It} {f : It → Todo} {i : Nat} {x : It} {s0 : WS} (hx : its[i]? = some x) (he : s0.err = 0) (hm : s0.met ≤ 1024) (h1 : (wlkAll L ((its.take i).map f) s0).err = 0) (h2 : ¬ (wlkAll L [f x] (wlkAll L ((its.take i).map f) s0)).err = 0) : wlkAll L (its.map f) s0 = wlkAll L [f x] (wlkAll L ((its.take i).map f) s0) := by
  have e := kids_next hx he hm h1
  have e2 : its.map f = (its.take (i + 1)).map f ++ (its.drop (i + 1)).map f := by rw [← List.map_append, List.take_append_drop]
  rw [e2, wlkAll_stop he hm rfl (by rw [e]; exact h2), e]
theorem wlkAll_open {t : Todo} {s : WS} (h : (wlkStep L s t).1.err = 0) : wlkAll L [t] s = wlkAll L (wlkStep L s t).2 (wlkStep L s t).1 := by rw [wlkAll_good h, List.append_nil]
theorem wdir_step {w0 w : World} {S : List Nat} {p : List UInt8} {b o m f i : Ch} {fs : List Fl} (H : Hp w0 w S (i :: b :: o :: m :: f :: fs.map fch)) : Hp w0 w S (i :: b :: o :: m :: f :: (fs ++ [(⟨p, true, ⟨none, 0, 0, []⟩⟩ : Fl)]).map fch) := by
  rw [List.map_append]; exact H.nilEnd 5 1
set_option maxHeartbeats 2000000 in
theorem wenter_at (l : List Ob) (dp : Nat) (h1 : 1 ≤ dp) (h9 : dp ≤ 9) (hi : dp ≤ 8 → EnterAt l (dp + 1)) (w0 : World) (wb : Nat) (z : WY) (hO : Own w0 (wch wb z 0)) (hz : z.ok l) (ho : ∀ o ∈ l, o.data.ok w0 ∧ o.data.len ≤ 1048576) (hap : ∀ o ∈ l, o.data.l ≠ [] → Apart o.data.a (keys (wch wb z 0))) (s : WS) (hr : Rel z 0 s) (k : Id32) (sz : Int) (tp p : List UInt8) (hpp : p = if 1 < dp then tp ++ [47] else []) (hpl : p.length ≤ 100 * dp) :
    Ret Try.prog 31 [.pointer (some ⟨wb, 0, none⟩), .agg ((k.1).map V8).toArray, .string ⟨(p).toArray⟩, VI (dp : Int)] w0 fun v w' => ∃ z' e', (e' = 0 → z'.ok l) ∧ z'.tl = z.tl ∧ Rel z' e' (wlkAll (obL l) [⟨2, k, sz, dp, tp⟩] s) ∧ Hp w0 w' (keys (wch wb z 0)) (wch wb z' e') := by
  refine ret_mk Try.func31 rfl Try.ntmps31 (by simp) ?_
  have H : Hp w0 w0 (keys (wch wb z 0)) (Ch.blk wb ([.map (some z.mo), .map (some z.mm), VI (z.n : Int), .bool z.tl, .slice (hd z.fa) z.fs.length z.fc, VI 0]) 70 :: Ch.obj z.mo (mobj kA z.Mo z.co) :: Ch.obj z.mm (mobj kA z.Mm z.cm) :: Ch.own z.fa z.fs.length z.fc ((z.fs).flatMap flE) 48 3 :: z.T) := hO.start
  have hnn := hz.nn
  have hfl := hz.fl
  have hs0 : s.err = 0 := hr.1.symm
  obtain ⟨hrn, hrg, hrf⟩ := hr.2 hs0
  have hobd := fun {w : World} {L : List Ch} (H : Hp w0 w (keys (wch wb z 0)) L) k => (look_ok ho hap H k).1
  have hobl := fun k => look_le ho k
  have hob := hobl k
  repeat refine c_seq ?_
  refine c_region ?_; refine l_op (o_box (v := .agg ((k.1).map V8).toArray) H rfl (fun b1 w H hb1 => ?_)); replace H := H.rot
  replace H : Hp _ w _ (Ch.blk b1 ((k.1).map V8) 29 :: Ch.blk wb ([.map (some z.mo), .map (some z.mm), VI (z.n : Int), .bool z.tl, .slice (hd z.fa) z.fs.length z.fc, VI 0]) 70 :: Ch.obj z.mo (mobj kA z.Mo z.co) :: Ch.obj z.mm (mobj kA z.Mm z.cm) :: Ch.own z.fa z.fs.length z.fc ((z.fs).flatMap flE) 48 3 :: z.T) := H
  first | refine l_end ?_ | refine l_nil ?_
  repeat refine c_seq ?_
  refine c_region ?_; refine l_op (o_val r_mv ?_); refine l_op (o_val (r_bin (a := (dp : Int)) (b := 8) rfl rfl (fun _ => b_gtr)) ?_); refine l_op (o_val r_mv ?_)
  by_cases hc2 : 8 < (dp : Int)
  ·
   refine l_yes rfl rfl (by exact congrArg Value.bool (decide_eq_true hc2)) (o_val r_mv ?_); refine l_yes rfl rfl (by exact congrArg Value.bool (decide_eq_true hc2)) (o_callR Try.func46 rfl rfl rfl (wbad_ret _ _ z.fs.length z.fc z.n (hd z.fa) (some z.mo) (some z.mm) z.tl (H.has _ (List.mem_of_getElem? (i := 1) rfl)) 2) ?_); rintro _ w ⟨rfl, Hc⟩
   replace H := (H.callA (i := 1) rfl rfl rfl Hc)
   clear Hc
   replace H : Hp _ w _ (Ch.blk b1 ((k.1).map V8) 29 :: Ch.blk wb ([.map (some z.mo), .map (some z.mm), VI (z.n : Int), .bool z.tl, .slice (hd z.fa) z.fs.length z.fc, VI 2]) 70 :: Ch.obj z.mo (mobj kA z.Mo z.co) :: Ch.obj z.mm (mobj kA z.Mm z.cm) :: Ch.own z.fa z.fs.length z.fc ((z.fs).flatMap flE) 48 3 :: z.T) := H
   refine l_op (o_val (r_pick (b := true) (congrArg Value.bool (decide_eq_true hc2))) ?_); first | refine l_end ?_ | refine l_nil ?_
   repeat refine c_seq ?_
   refine c_yes rfl ?_; refine c_ret ?_; try dsimp only [Exit.then, Exit.inBlock]
   refine e_ret0 Try.results31 ?_
   refine ⟨_, rfl, ?_⟩
   have hst := step_long (L := obL l) (t := (⟨2, k, sz, dp, tp⟩ : Todo)) (s := s) (.inl ⟨rfl, show 8 < dp by omega⟩)
   have hw : wlkAll (obL l) [(⟨2, k, sz, dp, tp⟩ : Todo)] s = { s with err := 2 } := by rw [wlkAll_one (by rw [hst]), hst]
   rw [hw]
   exact ⟨(⟨z.mo, z.Mo, z.co, z.mm, z.Mm, z.cm, z.G, z.n, z.tl, z.fa, z.fc, z.fs⟩ : WY), 2, fun h => absurd h (by decide), rfl, ⟨rfl, fun h => absurd (show (2 : Int) = 0 from h) (by decide)⟩, H.sub (.cons _ (.cons_cons _ (.cons_cons _ (.cons_cons _ (.cons_cons _ (List.Sublist.refl _))))))⟩
  ·
   refine l_no rfl rfl (by exact congrArg Value.bool (decide_eq_false hc2)) rfl ?_; refine l_no rfl rfl (by exact congrArg Value.bool (decide_eq_false hc2)) rfl ?_; refine l_op (o_val (r_pick (b := false) (congrArg Value.bool (decide_eq_false hc2))) ?_); first | refine l_end ?_ | refine l_nil ?_
   repeat refine c_seq ?_
   refine c_no rfl ?_; refine c_skip ?_; repeat refine c_seq ?_
   refine c_region ?_; refine l_op (o_val r_mv ?_); refine l_op (o_val (r_ldAA (l := k.1) H (i := 0) rfl rfl rt29 (show (k.1).length = 32 from k.2)) ?_)
   by_cases hc3 : 1024 ≤ z.n
   ·
    refine l_op (o_callR Try.func47 rfl rfl rfl (wobj_long _ l wb z.mo z.co z.mm z.cm z.n z.fs.length z.fc z.Mo z.Mm z.G (hd z.fa) z.tl hz.hO hz.hOk hz.hM hz.hMk (by omega) k (by omega) (H.ownU (L := [.blk b1 ((k.1).map V8) 29, .blk wb ([.map (some z.mo), .map (some z.mm), VI (z.n : Int), .bool z.tl, .slice (hd z.fa) z.fs.length z.fc, VI 0]) 70, .obj z.mo (mobj kA z.Mo z.co), .obj z.mm (mobj kA z.Mm z.cm), .own z.fa z.fs.length z.fc ((z.fs).flatMap flE) 48 3]) (L1 := [.blk wb ([.map (some z.mo), .map (some z.mm), VI (z.n : Int), .bool z.tl, .slice (hd z.fa) z.fs.length z.fc, VI 0]) 70, .obj z.mo (mobj kA z.Mo z.co), .obj z.mm (mobj kA z.Mm z.cm)]) (Lr := ([.blk b1 ((k.1).map V8) 29, .own z.fa z.fs.length z.fc ((z.fs).flatMap flE) 48 3] : List Ch)) (T := z.T) ((perm_front (j := 1) rfl).trans (.cons _ ((perm_front (j := 1) rfl).trans (.cons _ ((perm_front (j := 1) rfl).trans (.cons _ (.refl _))))))))) ?_); rintro _ w ⟨rfl, Hc⟩
    replace H := H.callU (L1' := [.blk wb ([.map (some z.mo), .map (some z.mm), VI ((z.n + 1 : Nat) : Int), .bool z.tl, .slice (hd z.fa) z.fs.length z.fc, VI 2]) 70, .obj z.mo (mobj kA z.Mo z.co), .obj z.mm (mobj kA z.Mm z.cm)]) (L := [.blk b1 ((k.1).map V8) 29, .blk wb ([.map (some z.mo), .map (some z.mm), VI (z.n : Int), .bool z.tl, .slice (hd z.fa) z.fs.length z.fc, VI 0]) 70, .obj z.mo (mobj kA z.Mo z.co), .obj z.mm (mobj kA z.Mm z.cm), .own z.fa z.fs.length z.fc ((z.fs).flatMap flE) 48 3]) (L1 := [.blk wb ([.map (some z.mo), .map (some z.mm), VI (z.n : Int), .bool z.tl, .slice (hd z.fa) z.fs.length z.fc, VI 0]) 70, .obj z.mo (mobj kA z.Mo z.co), .obj z.mm (mobj kA z.Mm z.cm)]) (Lr := ([.blk b1 ((k.1).map V8) 29, .own z.fa z.fs.length z.fc ((z.fs).flatMap flE) 48 3] : List Ch)) (T := z.T) ((perm_front (j := 1) rfl).trans (.cons _ ((perm_front (j := 1) rfl).trans (.cons _ ((perm_front (j := 1) rfl).trans (.cons _ (.refl _))))))) Hc ((perm_front (j := 0) rfl).trans (.cons _ ((perm_front (j := 1) rfl).trans (.cons _ ((perm_front (j := 1) rfl).trans (.cons _ ((perm_front (j := 1) rfl).trans (.cons _ (.refl _)))))))))
    clear Hc
    replace H : Hp _ w _ (Ch.blk b1 ((k.1).map V8) 29 :: Ch.blk wb ([.map (some z.mo), .map (some z.mm), VI ((z.n + 1 : Nat) : Int), .bool z.tl, .slice (hd z.fa) z.fs.length z.fc, VI 2]) 70 :: Ch.obj z.mo (mobj kA z.Mo z.co) :: Ch.obj z.mm (mobj kA z.Mm z.cm) :: Ch.own z.fa z.fs.length z.fc ((z.fs).flatMap flE) 48 3 :: z.T) := H
    refine l_op (o_val r_mv ?_); refine l_op (o_val (r_ext rfl rfl) ?_); refine l_op (o_val (r_ext rfl rfl) ?_); refine l_op (o_val r_as ?_); refine l_op (o_val r_as ?_); first | refine l_end ?_ | refine l_nil ?_
    repeat refine c_seq ?_
    refine c_region ?_; refine l_op (o_val r_mv ?_); refine l_op (o_val (r_not rfl) ?_); first | refine l_end ?_ | refine l_nil ?_
    repeat refine c_seq ?_
    refine c_yes rfl ?_; refine c_ret ?_; try dsimp only [Exit.then, Exit.inBlock]
    refine e_ret0 Try.results31 ?_
    refine ⟨_, rfl, ?_⟩
    have hst := step_long (L := obL l) (t := (⟨2, k, sz, dp, tp⟩ : Todo)) (s := s) (.inr (by omega))
    have hw : wlkAll (obL l) [(⟨2, k, sz, dp, tp⟩ : Todo)] s = { s with err := 2 } := by rw [wlkAll_one (by rw [hst]), hst]
    rw [hw]
    exact ⟨(⟨z.mo, z.Mo, z.co, z.mm, z.Mm, z.cm, z.G, (z.n + 1), z.tl, z.fa, z.fc, z.fs⟩ : WY), 2, fun h => absurd h (by decide), rfl, ⟨rfl, fun h => absurd (show (2 : Int) = 0 from h) (by decide)⟩, H.sub (.cons _ (.cons_cons _ (.cons_cons _ (.cons_cons _ (.cons_cons _ (List.Sublist.refl _))))))⟩
   ·
    have hc40 := Bool.eq_false_or_eq_true ((lookS l k).isSome)
    rcases hc40 with hc4 | hc4
    ·
     refine l_op (o_callR Try.func47 rfl rfl rfl (wobj_ok _ l wb z.mo z.co z.mm z.cm z.n z.fs.length z.fc z.Mo z.Mm z.G (hd z.fa) z.tl hz.hO hz.hOk hz.hM hz.hMk (by omega) k (by omega) hc4 (gd_bd hz.bd hz.nn k) (H.ownU (L := [.blk b1 ((k.1).map V8) 29, .blk wb ([.map (some z.mo), .map (some z.mm), VI (z.n : Int), .bool z.tl, .slice (hd z.fa) z.fs.length z.fc, VI 0]) 70, .obj z.mo (mobj kA z.Mo z.co), .obj z.mm (mobj kA z.Mm z.cm), .own z.fa z.fs.length z.fc ((z.fs).flatMap flE) 48 3]) (L1 := [.blk wb ([.map (some z.mo), .map (some z.mm), VI (z.n : Int), .bool z.tl, .slice (hd z.fa) z.fs.length z.fc, VI 0]) 70, .obj z.mo (mobj kA z.Mo z.co), .obj z.mm (mobj kA z.Mm z.cm)]) (Lr := ([.blk b1 ((k.1).map V8) 29, .own z.fa z.fs.length z.fc ((z.fs).flatMap flE) 48 3] : List Ch)) (T := z.T) ((perm_front (j := 1) rfl).trans (.cons _ ((perm_front (j := 1) rfl).trans (.cons _ ((perm_front (j := 1) rfl).trans (.cons _ (.refl _))))))))) ?_); rintro _ w ⟨rfl, mm5, mc6, hmf7, hmo8, Hc⟩
     replace H := H.callU (L1' := [.blk wb ([.map (some z.mo), .map (some z.mm), VI ((z.n + 1 : Nat) : Int), .bool z.tl, .slice (hd z.fa) z.fs.length z.fc, VI 0]) 70, .obj z.mo (mobj kA z.Mo z.co), .obj z.mm (mobj kA mm5 mc6)]) (L := [.blk b1 ((k.1).map V8) 29, .blk wb ([.map (some z.mo), .map (some z.mm), VI (z.n : Int), .bool z.tl, .slice (hd z.fa) z.fs.length z.fc, VI 0]) 70, .obj z.mo (mobj kA z.Mo z.co), .obj z.mm (mobj kA z.Mm z.cm), .own z.fa z.fs.length z.fc ((z.fs).flatMap flE) 48 3]) (L1 := [.blk wb ([.map (some z.mo), .map (some z.mm), VI (z.n : Int), .bool z.tl, .slice (hd z.fa) z.fs.length z.fc, VI 0]) 70, .obj z.mo (mobj kA z.Mo z.co), .obj z.mm (mobj kA z.Mm z.cm)]) (Lr := ([.blk b1 ((k.1).map V8) 29, .own z.fa z.fs.length z.fc ((z.fs).flatMap flE) 48 3] : List Ch)) (T := z.T) ((perm_front (j := 1) rfl).trans (.cons _ ((perm_front (j := 1) rfl).trans (.cons _ ((perm_front (j := 1) rfl).trans (.cons _ (.refl _))))))) Hc ((perm_front (j := 0) rfl).trans (.cons _ ((perm_front (j := 1) rfl).trans (.cons _ ((perm_front (j := 1) rfl).trans (.cons _ ((perm_front (j := 1) rfl).trans (.cons _ (.refl _)))))))))
     clear Hc
     replace H : Hp _ w _ (Ch.blk b1 ((k.1).map V8) 29 :: Ch.blk wb ([.map (some z.mo), .map (some z.mm), VI ((z.n + 1 : Nat) : Int), .bool z.tl, .slice (hd z.fa) z.fs.length z.fc, VI 0]) 70 :: Ch.obj z.mo (mobj kA z.Mo z.co) :: Ch.obj z.mm (mobj kA mm5 mc6) :: Ch.own z.fa z.fs.length z.fc ((z.fs).flatMap flE) 48 3 :: z.T) := H
     refine l_op (o_val r_mv ?_); refine l_op (o_val (r_ext rfl rfl) ?_); refine l_op (o_val (r_ext rfl rfl) ?_); refine l_op (o_val r_as ?_); refine l_op (o_val r_as ?_); first | refine l_end ?_ | refine l_nil ?_
     repeat refine c_seq ?_
     refine c_region ?_; refine l_op (o_val r_mv ?_); refine l_op (o_val (r_not rfl) ?_); first | refine l_end ?_ | refine l_nil ?_
     repeat refine c_seq ?_
     refine c_no rfl ?_; refine c_skip ?_; repeat refine c_seq ?_
     refine c_region ?_; refine l_op (o_val r_mv ?_); refine l_op (o_callR Try.func42 rfl rfl rfl (ftake_ret _ ((lookS l k).getD nilS) (hobd H _) (by (try simp only [Sl.cut]); omega)) ?_); rintro _ w ⟨a9, c10, l11, e12, rfl, htk13, Hc⟩
     replace H : Hp _ w _ (Ch.own a9 l11.length c10 ((l11).flatMap itE) 54 35 :: Ch.blk b1 ((k.1).map V8) 29 :: Ch.blk wb ([.map (some z.mo), .map (some z.mm), VI ((z.n + 1 : Nat) : Int), .bool z.tl, .slice (hd z.fa) z.fs.length z.fc, VI 0]) 70 :: Ch.obj z.mo (mobj kA z.Mo z.co) :: Ch.obj z.mm (mobj kA mm5 mc6) :: Ch.own z.fa z.fs.length z.fc ((z.fs).flatMap flE) 48 3 :: z.T) := (H.call Hc).rot
     clear Hc
     have htk13n := takeRes_len htk13
     refine l_op (o_val r_mv ?_); refine l_op (o_val (r_ext rfl rfl) ?_); refine l_op (o_val (r_ext rfl rfl) ?_); refine l_op (o_val r_as ?_); refine l_op (o_val r_as ?_); first | refine l_end ?_ | refine l_nil ?_
     repeat refine c_seq ?_
     refine c_region ?_; refine l_op (o_val r_mv ?_); refine l_op (o_val r_mv ?_); refine l_op (o_callR Try.func46 rfl rfl rfl (wbad_ret _ _ z.fs.length z.fc (z.n + 1) (hd z.fa) (some z.mo) (some z.mm) z.tl (H.has _ (List.mem_of_getElem? (i := 2) rfl)) e12) ?_); rintro _ w ⟨rfl, Hc⟩
     replace H := (H.callA (i := 2) rfl rfl rfl Hc)
     clear Hc
     replace H : Hp _ w _ (Ch.own a9 l11.length c10 ((l11).flatMap itE) 54 35 :: Ch.blk b1 ((k.1).map V8) 29 :: Ch.blk wb ([.map (some z.mo), .map (some z.mm), VI ((z.n + 1 : Nat) : Int), .bool z.tl, .slice (hd z.fa) z.fs.length z.fc, VI e12]) 70 :: Ch.obj z.mo (mobj kA z.Mo z.co) :: Ch.obj z.mm (mobj kA mm5 mc6) :: Ch.own z.fa z.fs.length z.fc ((z.fs).flatMap flE) 48 3 :: z.T) := H
     first | refine l_end ?_ | refine l_nil ?_
     by_cases hc14 : ¬ e12 = 0
     ·
      repeat refine c_seq ?_
      refine c_yes (by exact congrArg Value.bool (decide_eq_true hc14)) ?_; refine c_ret ?_; try dsimp only [Exit.then, Exit.inBlock]
      refine e_ret0 Try.results31 ?_
      refine ⟨_, rfl, ?_⟩
      obtain ⟨he4, htn⟩ : e12 = 4 ∧ takeF ((lookS l k).getD nilS).l = none := by
        rcases htk13 with ⟨h, _⟩ | ⟨h, _, h2⟩
        · exact absurd h (by assumption)
        · exact ⟨h, h2⟩
      subst he4
      have hst := step_syn (L := obL l) (t := (⟨2, k, sz, dp, tp⟩ : Todo)) (s := s) (by intro h; rcases h with ⟨_, h⟩ | h <;> (try dsimp only at h) <;> omega) (look_some hc4) (by show ¬ (2 : Int) = 1; decide) htn
      have hw : wlkAll (obL l) [(⟨2, k, sz, dp, tp⟩ : Todo)] s = { s with err := 4 } := by rw [wlkAll_one (by rw [hst]), hst]
      rw [hw]
      exact ⟨(⟨z.mo, z.Mo, z.co, z.mm, mm5, mc6, fput z.G k ((z.G k).getD 0 + 1), (z.n + 1), z.tl, z.fa, z.fc, z.fs⟩ : WY), 4, fun h => absurd h (by decide), rfl, ⟨rfl, fun h => absurd (show (4 : Int) = 0 from h) (by decide)⟩, H.sub (.cons _ (.cons _ (.cons_cons _ (.cons_cons _ (.cons_cons _ (.cons_cons _ (List.Sublist.refl _)))))))⟩
     ·
      repeat refine c_seq ?_
      refine c_no (by exact congrArg Value.bool (decide_eq_false hc14)) ?_; refine c_skip ?_; have he00 : e12 = 0 := by omega
      subst he00
      have hte : takeF ((lookS l k).getD nilS).l = some l11 := by
        rcases htk13 with ⟨_, h⟩ | ⟨h, _⟩
        · exact h
        · exact absurd h (by decide)
      have hst := step_dir (L := obL l) (t := (⟨2, k, sz, dp, tp⟩ : Todo)) (s := s) (by intro h; rcases h with ⟨_, h⟩ | h <;> (try dsimp only at h) <;> omega) (look_some hc4) (by show ¬ (2 : Int) = 1; decide) hte
      have hopen : (wlkStep (obL l) s (⟨2, k, sz, dp, tp⟩ : Todo)).1.err = 0 → wlkAll (obL l) [(⟨2, k, sz, dp, tp⟩ : Todo)] s = _ := wlkAll_open (L := obL l) (t := (⟨2, k, sz, dp, tp⟩ : Todo)) (s := s)
      rw [hst] at hopen
      replace hopen := hopen hs0
      obtain ⟨S0, hS0⟩ : ∃ S0 : WS, S0 = { s with met := s.met + 1, names := s.names ++ [k], files := s.files ++ (if l11 = [] ∧ 1 < dp then [⟨tp, none⟩] else []) } := ⟨_, rfl⟩
      replace hopen : wlkAll (obL l) [(⟨2, k, sz, dp, tp⟩ : Todo)] s = wlkAll (obL l) (l11.map (wkid (⟨2, k, sz, dp, tp⟩ : Todo))) S0 := by rw [hS0]; exact hopen
      have hSe : S0.err = 0 := by rw [hS0]; exact hs0
      have hSm : S0.met = s.met + 1 := by rw [hS0]
      have hSn : S0.names = s.names ++ [k] := by rw [hS0]
      have hSf : S0.files = s.files ++ (if l11 = [] ∧ 1 < dp then [⟨tp, none⟩] else []) := by rw [hS0]
      have hitf := it_facts hte
      clear hst hS0
      repeat refine c_seq ?_
      refine c_region ?_; refine l_op (o_val r_mv ?_); refine l_op (o_val (r_lens el52 rfl) ?_); refine l_op (o_val (r_bin (a := (l11.length : Int)) (b := 0) rfl rfl (fun _ => b_eql)) ?_); refine l_op (o_val r_mv ?_)
      by_cases hc15 : (l11.length : Int) = 0
      ·
       refine l_yes rfl rfl (by exact congrArg Value.bool (decide_eq_true hc15)) (o_val r_mv ?_); refine l_yes rfl rfl (by exact congrArg Value.bool (decide_eq_true hc15)) (o_val (r_bin (a := (dp : Int)) (b := 1) rfl rfl (fun _ => b_gtr)) ?_); refine l_op (o_val (r_pick (b := true) (congrArg Value.bool (decide_eq_true hc15))) ?_); refine l_op (o_val r_mv ?_)
       by_cases hc16 : 1 < (dp : Int)
       ·
        refine l_yes rfl rfl (by exact congrArg Value.bool (decide_eq_true hc16)) (o_val r_mv ?_); refine l_yes rfl rfl (by exact congrArg Value.bool (decide_eq_true hc16)) (o_val (r_nilc rfl) ?_); refine l_yes rfl rfl (by exact congrArg Value.bool (decide_eq_true hc16)) (o_val (r_fa rfl fo70_3) ?_); refine l_yes rfl rfl (by exact congrArg Value.bool (decide_eq_true hc16)) (o_val (r_ld (v := .bool z.tl) H (i := 2) rfl rfl ct4 rfl) ?_); refine l_op (o_val (r_pick (b := true) (congrArg Value.bool (decide_eq_true hc16))) ?_); first | refine l_end ?_ | refine l_nil ?_
        have hc170 := Bool.eq_false_or_eq_true (z.tl)
        rcases hc170 with hc17 | hc17
        ·
         repeat refine c_seq ?_
         refine c_yes (by exact congrArg Value.bool hc17) ?_; have hp1 := path_pos hpp (by omega)
         repeat refine c_seq ?_
         refine wp_held (fun w => Hp w0 w (keys (wch wb z 0)) [.own a9 l11.length c10 ((l11).flatMap itE) 54 35, .blk b1 ((k.1).map V8) 29, .obj z.mo (mobj kA z.Mo z.co), .obj z.mm (mobj kA mm5 mc6)]) mixed ?_; replace H := H.drew
         have HS := H.sub (.cons_cons _ (.cons_cons _ (.cons _ (.cons_cons _ (.cons_cons _ (List.nil_sublist _))))))
         refine t_take 0 rfl (by kernel_rfl) (by kernel_rfl) (by kernel_rfl) (fun _ _ _ h => h) (fun w HS => r_mv) HS ?_; refine t_take 1 rfl (by kernel_rfl) (by kernel_rfl) (by kernel_rfl) (fun _ _ _ h => h) (fun w HS => r_mv) HS ?_; refine t_take 2 rfl (by kernel_rfl) (by kernel_rfl) (by kernel_rfl) (fun _ _ _ h => h) (fun w HS => r_nilc rfl) HS ?_; refine t_take 3 rfl (by kernel_rfl) (by kernel_rfl) (by kernel_rfl) (fun _ _ _ h => h) (fun w HS => r_fa rfl fo70_4) HS ?_; refine t_take 5 rfl (by kernel_rfl) (by kernel_rfl) (by kernel_rfl) (fun _ _ _ h => h) (fun w HS => r_mv) HS ?_; refine t_take 6 rfl (by kernel_rfl) (by kernel_rfl) (by kernel_rfl) (fun _ _ _ h => h) (fun w HS => r_mv) HS ?_; refine t_take 7 rfl (by kernel_rfl) (by kernel_rfl) (by kernel_rfl) (fun _ _ _ h => h) (fun w HS => r_lenstr (s := ⟨(p).toArray⟩) Try.underlying9 rfl) HS ?_; refine t_take 8 rfl (by kernel_rfl) (by kernel_rfl) (by kernel_rfl) (fun _ _ _ h => h) (fun w HS => r_bin (a := ((p).length : Int)) (b := 1) rfl rfl (fun _ => b_sub (by omega) (by omega))) HS ?_; refine t_take 9 rfl (by kernel_rfl) (by kernel_rfl) (by kernel_rfl) (fun _ _ _ h => h) (fun w HS => r_slstrH (l := p) (h := ((((p).length : Int) - 1).toNat)) (j := ((p).length : Int) - 1) Try.underlying9 rfl rfl (by omega) (by omega)) HS ?_; refine t_take 10 rfl (by kernel_rfl) (by kernel_rfl) (by kernel_rfl) (fun _ _ _ h => h) (fun w HS => r_bldG (Z := ([.string ⟨(([] : List UInt8)).toArray⟩, .bool false, .slice none 0 0] : List Value)) (E := ([.string ⟨((p).take ((((p).length : Int) - 1).toNat)).toArray⟩, .bool true, .slice none 0 0] : List Value)) (pv := [(0, .string ⟨((p).take ((((p).length : Int) - 1).toNat)).toArray⟩), (1, .bool true)]) bd48 rfl rfl (.cons (A := ([] : List Value)) (B := ([.string ⟨(([] : List UInt8)).toArray⟩] : List Value)) (D := ([.bool false, .slice none 0 0] : List Value)) (V := ([.string ⟨((p).take ((((p).length : Int) - 1).toNat)).toArray⟩] : List Value)) (a := 0) (b := 1) rfl (show Cut3 (([.string ⟨(([] : List UInt8)).toArray⟩, .bool false, .slice none 0 0] : List Value)) (([] : List Value)) (([.string ⟨(([] : List UInt8)).toArray⟩] : List Value)) (([.bool false, .slice none 0 0] : List Value)) 0 1 from ⟨(show ([.string ⟨(([] : List UInt8)).toArray⟩, .bool false, .slice none 0 0] : List Value) = ([] : List Value) ++ ((([.string ⟨(([] : List UInt8)).toArray⟩] : List Value)) ++ (([.bool false, .slice none 0 0] : List Value))) from by simp only [List.cons_append, List.nil_append]), (by rfl), (by rfl)⟩) (by rfl) (by rfl) ((show ([.string ⟨((p).take ((((p).length : Int) - 1).toNat)).toArray⟩, .bool false, .slice none 0 0] : List Value) = ([] : List Value) ++ ((([.string ⟨((p).take ((((p).length : Int) - 1).toNat)).toArray⟩] : List Value)) ++ (([.bool false, .slice none 0 0] : List Value))) from by simp only [List.cons_append, List.nil_append]) ▸ .cons (A := ([.string ⟨((p).take ((((p).length : Int) - 1).toNat)).toArray⟩] : List Value)) (B := ([.bool false] : List Value)) (D := ([.slice none 0 0] : List Value)) (V := ([.bool true] : List Value)) (a := 1) (b := 1) rfl (show Cut3 (([.string ⟨((p).take ((((p).length : Int) - 1).toNat)).toArray⟩, .bool false, .slice none 0 0] : List Value)) (([.string ⟨((p).take ((((p).length : Int) - 1).toNat)).toArray⟩] : List Value)) (([.bool false] : List Value)) (([.slice none 0 0] : List Value)) 1 1 from ⟨(show ([.string ⟨((p).take ((((p).length : Int) - 1).toNat)).toArray⟩, .bool false, .slice none 0 0] : List Value) = ([.string ⟨((p).take ((((p).length : Int) - 1).toNat)).toArray⟩] : List Value) ++ ((([.bool false] : List Value)) ++ (([.slice none 0 0] : List Value))) from by simp only [List.cons_append, List.nil_append]), (by rfl), (by rfl)⟩) (by rfl) (by rfl) ((show ([.string ⟨((p).take ((((p).length : Int) - 1).toNat)).toArray⟩, .bool true, .slice none 0 0] : List Value) = ([.string ⟨((p).take ((((p).length : Int) - 1).toNat)).toArray⟩] : List Value) ++ ((([.bool true] : List Value)) ++ (([.slice none 0 0] : List Value))) from by simp only [List.cons_append, List.nil_append]) ▸ .nil _)))) HS ?_
         refine t_all [4, 11] (by kernel_rfl) (by simp) (all_cons (w_op 4 rfl ?_) (all_cons (w_op 11 rfl ?_) (all_nil)))
         ·
          refine (o_val (r_ld (v := .slice (hd z.fa) z.fs.length z.fc) H (i := 2) rfl rfl ct40 rfl) ?_)
          refine ⟨H.sub (.cons_cons _ (.cons_cons _ (.cons _ (.cons_cons _ (.cons_cons _ (List.nil_sublist _)))))), ?_⟩
          replace HS := H.sub (.cons_cons _ (.cons_cons _ (.cons _ (.cons_cons _ (.cons_cons _ (List.nil_sublist _))))))
          refine t_step 11 rfl (by kernel_rfl) (o_bslG1 (enc := flE) ((⟨(p).take ((((p).length : Int) - 1).toNat), true, ⟨none, 0, 0, []⟩⟩ : Fl)) H sl40 zc48 (by rfl) (by decide) (by decide) rfl (flE_len _) (fun b18 w H hb18 => ?_)); replace H := H.rot
          replace H : Hp _ w _ (Ch.own (some b18) 1 1 (([(⟨(p).take ((((p).length : Int) - 1).toNat), true, ⟨none, 0, 0, []⟩⟩ : Fl)]).flatMap flE) 48 3 :: Ch.own a9 l11.length c10 ((l11).flatMap itE) 54 35 :: Ch.blk b1 ((k.1).map V8) 29 :: Ch.blk wb ([.map (some z.mo), .map (some z.mm), VI ((z.n + 1 : Nat) : Int), .bool z.tl, .slice (hd z.fa) z.fs.length z.fc, VI 0]) 70 :: Ch.obj z.mo (mobj kA z.Mo z.co) :: Ch.obj z.mm (mobj kA mm5 mc6) :: Ch.own z.fa z.fs.length z.fc ((z.fs).flatMap flE) 48 3 :: z.T) := H
          refine ⟨H.sub (.cons _ (.cons_cons _ (.cons_cons _ (.cons _ (.cons_cons _ (.cons_cons _ (List.nil_sublist _))))))), ?_⟩
          replace HS := H.sub (.cons _ (.cons_cons _ (.cons_cons _ (.cons _ (.cons_cons _ (.cons_cons _ (List.nil_sublist _)))))))
          refine t_step 12 rfl (by kernel_rfl) (o_appG (enc := flE) (s := ⟨hd (some b18), 1, 1, [(⟨(p).take ((((p).length : Int) - 1).toNat), true, ⟨none, 0, 0, []⟩⟩ : Fl)]⟩) (l' := z.fs ++ ([(⟨(p).take ((((p).length : Int) - 1).toNat), true, ⟨none, 0, 0, []⟩⟩ : Fl)])) (len' := z.fs.length + 1) rfl rfl H (i := 6) rfl sl40 Try.underlying40 rfl rfl (H.glOwn (i := 0) rfl (by decide) (fun c _ => flE_len c)) (by decide) (fun c _ => flE_all c) (by omega) (by decide) (fun a19 c20 w H => ?_)); replace H : Hp _ w _ (Ch.own (some b18) 1 1 (([(⟨(p).take ((((p).length : Int) - 1).toNat), true, ⟨none, 0, 0, []⟩⟩ : Fl)]).flatMap flE) 48 3 :: Ch.own a9 l11.length c10 ((l11).flatMap itE) 54 35 :: Ch.blk b1 ((k.1).map V8) 29 :: Ch.blk wb ([.map (some z.mo), .map (some z.mm), VI ((z.n + 1 : Nat) : Int), .bool z.tl, .slice (hd z.fa) z.fs.length z.fc, VI 0]) 70 :: Ch.obj z.mo (mobj kA z.Mo z.co) :: Ch.obj z.mm (mobj kA mm5 mc6) :: Ch.own a19 (z.fs.length + 1) c20 ((z.fs ++ ([(⟨(p).take ((((p).length : Int) - 1).toNat), true, ⟨none, 0, 0, []⟩⟩ : Fl)])).flatMap flE) 48 3 :: z.T) := H
          refine ⟨H.sub (.cons _ (.cons_cons _ (.cons_cons _ (.cons _ (.cons_cons _ (.cons_cons _ (List.nil_sublist _))))))), ?_⟩
          replace HS := H.sub (.cons _ (.cons_cons _ (.cons_cons _ (.cons _ (.cons_cons _ (.cons_cons _ (List.nil_sublist _)))))))
          refine t_take 13 rfl (by kernel_rfl) (by kernel_rfl) (by kernel_rfl) (fun _ _ _ h => h) (fun w HS => r_nilc rfl) HS ?_; refine t_take 14 rfl (by kernel_rfl) (by kernel_rfl) (by kernel_rfl) (fun _ _ _ h => h) (fun w HS => r_fa rfl fo70_4) HS ?_; refine t_step 15 rfl (by kernel_rfl) (o_st (v := .slice (hd a19) (z.fs.length + 1) c20) H (i := 3) rfl rfl rfl cs40 rfl (by simp only [List.length_cons, List.length_nil]; omega) (fun w H => ?_)); replace H : Hp _ w _ (Ch.own (some b18) 1 1 (([(⟨(p).take ((((p).length : Int) - 1).toNat), true, ⟨none, 0, 0, []⟩⟩ : Fl)]).flatMap flE) 48 3 :: Ch.own a9 l11.length c10 ((l11).flatMap itE) 54 35 :: Ch.blk b1 ((k.1).map V8) 29 :: Ch.blk wb ([.map (some z.mo), .map (some z.mm), VI ((z.n + 1 : Nat) : Int), .bool z.tl, .slice (hd a19) (z.fs.length + 1) c20, VI 0]) 70 :: Ch.obj z.mo (mobj kA z.Mo z.co) :: Ch.obj z.mm (mobj kA mm5 mc6) :: Ch.own a19 (z.fs.length + 1) c20 ((z.fs ++ ([(⟨(p).take ((((p).length : Int) - 1).toNat), true, ⟨none, 0, 0, []⟩⟩ : Fl)])).flatMap flE) 48 3 :: z.T) := H
          refine ⟨H.sub (.cons _ (.cons_cons _ (.cons_cons _ (.cons _ (.cons_cons _ (.cons_cons _ (List.nil_sublist _))))))), ?_⟩
          replace HS := H.sub (.cons _ (.cons_cons _ (.cons_cons _ (.cons _ (.cons_cons _ (.cons_cons _ (List.nil_sublist _)))))))
          refine t_done (by kernel_rfl) ?_
          clear HS
          repeat refine c_seq ?_
          refine c_region ?_; refine l_op (o_val r_mv ?_); refine l_op (o_val (r_lens el52 rfl) ?_); refine l_op (o_val r_mv ?_); first | refine l_end ?_ | refine l_nil ?_
          repeat refine c_seq ?_
          refine c_block ?_; have hl1 : (z.fs ++ ([(⟨(p).take ((((p).length : Int) - 1).toNat), true, ⟨none, 0, 0, []⟩⟩ : Fl)])).length = z.fs.length + 1 := by rw [List.length_append]; rfl
          rw [← hl1] at H
          repeat refine c_seq ?_
          refine c_loop2 (fun (i : Nat) (z1 : WY) => [(0, .pointer (some ⟨wb, 0, none⟩)), (2, .string ⟨(p).toArray⟩), (3, VI (dp : Int)), (64, .slice (hd a9) l11.length c10), (65, VI (l11.length : Int)), (66, VI (i : Int))])
            (fun (i : Nat) (z1 : WY) w => (i ≤ l11.length ∧ z1.ok l ∧ z1.tl = z.tl ∧ Rel z1 0 (wlkAll (obL l) ((l11.take i).map (wkid (⟨2, k, sz, dp, tp⟩ : Todo))) S0)) ∧ Hp w0 w (keys (wch wb z 0)) (Ch.own a9 l11.length c10 ((l11).flatMap itE) 54 35 :: Ch.blk wb ([.map (some z1.mo), .map (some z1.mm), VI (z1.n : Int), .bool z1.tl, .slice (hd z1.fa) z1.fs.length z1.fc, VI 0]) 70 :: Ch.obj z1.mo (mobj kA z1.Mo z1.co) :: Ch.obj z1.mm (mobj kA z1.Mm z1.cm) :: Ch.own z1.fa z1.fs.length z1.fc ((z1.fs).flatMap flE) 48 3 :: z1.T))
            (fun (i : Nat) (z1 : WY) => l11.length - i) 0 (⟨z.mo, z.Mo, z.co, z.mm, mm5, mc6, fput z.G k ((z.G k).getD 0 + 1), (z.n + 1), z.tl, a19, c20, z.fs ++ ([(⟨(p).take ((((p).length : Int) - 1).toNat), true, ⟨none, 0, 0, []⟩⟩ : Fl)])⟩ : WY) ⟨rfl, rfl, rfl, rfl, rfl, rfl, trivial⟩ ⟨⟨Nat.zero_le _, ⟨hz.hO, hz.hOk, hmf7, hmo8, bd_put hz.bd k, by show z.n + 1 ≤ 1024; omega, fat_add (a := none) hz.fat rfl, by simp only [List.length_append, List.length_singleton]; omega⟩, rfl, by rw [List.take_zero, List.map_nil, wlkAll_nil]; exact ⟨hSe.symm, fun _ => ⟨by rw [hSm]; exact congrArg (· + 1) hrn, by rw [hSn]; exact keys_put hrg k, fun ht => by rw [hSf, if_pos ⟨List.eq_nil_of_length_eq_zero (by omega), by omega⟩, List.map_append, List.map_append, hrf ht]; exact congrArg (fun q => s.files.map Fil.key ++ [(q, true, [])]) (path_take hpp (by omega))⟩⟩⟩, (wdir_step (H.sub (.cons _ (.cons_cons _ (.cons _ (.cons_cons _ (.cons_cons _ (.cons_cons _ (.cons_cons _ (List.Sublist.refl _))))))))))⟩ ?_
          clear H
          rintro i z1 τ w ⟨⟨hil, hz1, htl1, hr1⟩, H⟩
          repeat refine c_seq ?_
          refine c_region ?_; refine l_op (o_val (r_bin (a := (i : Int)) (b := (l11.length : Int)) rfl rfl (fun _ => b_lss)) ?_); first | refine l_end ?_ | refine l_nil ?_
          by_cases hc21 : (i : Int) < (l11.length : Int)
          ·
           repeat refine c_seq ?_
           refine c_yes (by exact congrArg Value.bool (decide_eq_true hc21)) ?_; refine c_skip ?_; repeat refine c_seq ?_
           refine c_block ?_; repeat refine c_seq ?_
           refine c_region ?_; have ah23 := H.ownAddr (i := 0) rfl (by omega)
           obtain ⟨ab22, ah23⟩ := ah23
           refine l_op (o_val (r_isN i rfl rfl el52 ah23 (by omega) (by (try simp only [Sl.cut]); omega)) ?_); have he25 : ∃ c, (l11)[i]? = some c := ⟨_, List.getElem?_eq_getElem (by have := ((H.glOwn (i := 0) rfl (by decide) (fun c _ => itE_len c))).ln; (try dsimp only at this ⊢); omega)⟩
           obtain ⟨e24, he25⟩ := he25
           have hez26 := ((H.glOwn (i := 0) rfl (by decide) (fun c _ => itE_len c))).sz e24 (List.mem_of_getElem? he25)
           refine l_op (o_val (r_ldRow (s := (⟨hd a9, l11.length, c10, l11⟩ : Gl It)) (k := i) (H.glOwn (i := 0) rfl (by decide) (fun c _ => itE_len c)) ah23 rfl rt54 (by decide) he25) ?_); refine l_op (o_alloc H zc54 (fun b27 w H hb27 => ?_)); replace H := H.rot
           replace H : Hp _ w _ (Ch.blk b27 (([.string ⟨(([] : List UInt8)).toArray⟩, VI 0] : List Value) ++ ((List.replicate 32 (0 : UInt8)).map V8 ++ (([VI 0] : List Value)))) 54 :: Ch.own a9 l11.length c10 ((l11).flatMap itE) 54 35 :: Ch.blk wb ([.map (some z1.mo), .map (some z1.mm), VI (z1.n : Int), .bool z1.tl, .slice (hd z1.fa) z1.fs.length z1.fc, VI 0]) 70 :: Ch.obj z1.mo (mobj kA z1.Mo z1.co) :: Ch.obj z1.mm (mobj kA z1.Mm z1.cm) :: Ch.own z1.fa z1.fs.length z1.fc ((z1.fs).flatMap flE) 48 3 :: z1.T) := H
           refine l_op (o_stW (C' := ([.string ⟨(e24.name).toArray⟩, VI e24.kind] : List Value) ++ ((e24.of.1).map V8 ++ (([VI e24.size] : List Value)))) H (i := 0) rfl rfl rfl cs54 (by first | (simp [Value.oneCell', List.all_append, List.all_map]; done) | (simp only [List.all_append, List.all_cons, List.all_nil, List.all_map]; simp [Value.oneCell', Function.comp_def])) (by simp only [List.length_append, List.length_map, List.length_cons, List.length_nil, (show (List.replicate 32 (0 : UInt8)).length = 32 from (List.length_replicate ..))]) (by simp only [List.length_append, List.length_map, List.length_cons, List.length_nil, (show (e24.of.1).length = 32 from e24.of.2)]) (fun w H => ?_)); replace H : Hp _ w _ (Ch.blk b27 (([.string ⟨(e24.name).toArray⟩, VI e24.kind] : List Value) ++ ((e24.of.1).map V8 ++ (([VI e24.size] : List Value)))) 54 :: Ch.own a9 l11.length c10 ((l11).flatMap itE) 54 35 :: Ch.blk wb ([.map (some z1.mo), .map (some z1.mm), VI (z1.n : Int), .bool z1.tl, .slice (hd z1.fa) z1.fs.length z1.fc, VI 0]) 70 :: Ch.obj z1.mo (mobj kA z1.Mo z1.co) :: Ch.obj z1.mm (mobj kA z1.Mm z1.cm) :: Ch.own z1.fa z1.fs.length z1.fc ((z1.fs).flatMap flE) 48 3 :: z1.T) := H
           first | refine l_end ?_ | refine l_nil ?_
           have hnm := hitf e24 (List.mem_of_getElem? he25)
           have hpx : (p ++ e24.name).length = p.length + e24.name.length := List.length_append
           repeat refine c_seq ?_
           refine c_region ?_; refine l_op (o_val (r_fa rfl fo54_1) ?_); refine l_op (o_val (r_l1 (v := VI e24.kind) H (i := 0) rfl rfl ct3 (show Cut3 (([.string ⟨(e24.name).toArray⟩, VI e24.kind] : List Value) ++ ((e24.of.1).map V8 ++ (([VI e24.size] : List Value)))) (([.string ⟨(e24.name).toArray⟩] : List Value)) (([VI e24.kind] : List Value)) ((e24.of.1).map V8 ++ (([VI e24.size] : List Value))) 1 1 from ⟨(show ([.string ⟨(e24.name).toArray⟩, VI e24.kind] : List Value) ++ ((e24.of.1).map V8 ++ (([VI e24.size] : List Value))) = ([.string ⟨(e24.name).toArray⟩] : List Value) ++ ((([VI e24.kind] : List Value)) ++ ((e24.of.1).map V8 ++ (([VI e24.size] : List Value)))) from by simp only [List.cons_append, List.nil_append]), (by rfl), (by rfl)⟩)) ?_); refine l_op (o_val (r_bin (a := e24.kind) (b := 2) rfl rfl (fun _ => b_eql)) ?_); first | refine l_end ?_ | refine l_nil ?_
           by_cases hc28 : e24.kind = 2
           ·
            repeat refine c_seq ?_
            refine c_yes (by exact congrArg Value.bool (decide_eq_true hc28)) ?_; repeat refine c_seq ?_
            refine c_region ?_; refine l_op (o_val r_mv ?_); refine l_op (o_val (r_fa rfl fo54_2) ?_); refine l_op (o_val (r_lk H (i := 0) rfl rfl rt29 (show Cut3 (([.string ⟨(e24.name).toArray⟩, VI e24.kind] : List Value) ++ ((e24.of.1).map V8 ++ (([VI e24.size] : List Value)))) (([.string ⟨(e24.name).toArray⟩, VI e24.kind] : List Value)) ((e24.of.1).map V8) (([VI e24.size] : List Value)) 2 32 from ⟨(show ([.string ⟨(e24.name).toArray⟩, VI e24.kind] : List Value) ++ ((e24.of.1).map V8 ++ (([VI e24.size] : List Value))) = ([.string ⟨(e24.name).toArray⟩, VI e24.kind] : List Value) ++ (((e24.of.1).map V8) ++ (([VI e24.size] : List Value))) from by simp only [List.cons_append, List.nil_append]), (by rfl), (by simp only [List.length_map, (show (e24.of.1).length = 32 from e24.of.2)])⟩)) ?_); refine l_op (o_val r_mv ?_); refine l_op (o_val (r_fa rfl fo54_0) ?_); refine l_op (o_val (r_l1 (v := .string ⟨(e24.name).toArray⟩) H (i := 0) rfl rfl ct9 (show Cut3 (([.string ⟨(e24.name).toArray⟩, VI e24.kind] : List Value) ++ ((e24.of.1).map V8 ++ (([VI e24.size] : List Value)))) (([] : List Value)) (([.string ⟨(e24.name).toArray⟩] : List Value)) (([VI e24.kind] : List Value) ++ ((e24.of.1).map V8 ++ (([VI e24.size] : List Value)))) 0 1 from ⟨(show ([.string ⟨(e24.name).toArray⟩, VI e24.kind] : List Value) ++ ((e24.of.1).map V8 ++ (([VI e24.size] : List Value))) = ([] : List Value) ++ ((([.string ⟨(e24.name).toArray⟩] : List Value)) ++ (([VI e24.kind] : List Value) ++ ((e24.of.1).map V8 ++ (([VI e24.size] : List Value))))) from by simp only [List.cons_append, List.nil_append]), (by rfl), (by rfl)⟩)) ?_); refine l_op (o_val (r_stradd (a := p) (b := e24.name) rfl rfl (by (try simp only [List.length_cons, List.length_nil]); omega)) ?_); refine l_op (o_val (r_stradd (a := p ++ e24.name) (b := ([47] : List UInt8)) rfl rfl (by (try simp only [List.length_cons, List.length_nil]); omega)) ?_); refine l_op (o_val r_mv ?_); refine l_op (o_val (r_bin (a := (dp : Int)) (b := 1) rfl rfl (fun _ => b_add (by omega) (by omega))) ?_); refine l_op (o_callR Try.func31 rfl rfl rfl (hi (by omega) _ wb z1 (H.ownT (L := [.blk b27 (([.string ⟨(e24.name).toArray⟩, VI e24.kind] : List Value) ++ ((e24.of.1).map V8 ++ (([VI e24.size] : List Value)))) 54, .own a9 l11.length c10 ((l11).flatMap itE) 54 35, .blk wb ([.map (some z1.mo), .map (some z1.mm), VI (z1.n : Int), .bool z1.tl, .slice (hd z1.fa) z1.fs.length z1.fc, VI 0]) 70, .obj z1.mo (mobj kA z1.Mo z1.co), .obj z1.mm (mobj kA z1.Mm z1.cm), .own z1.fa z1.fs.length z1.fc ((z1.fs).flatMap flE) 48 3]) (L1 := [.blk wb ([.map (some z1.mo), .map (some z1.mm), VI (z1.n : Int), .bool z1.tl, .slice (hd z1.fa) z1.fs.length z1.fc, VI 0]) 70, .obj z1.mo (mobj kA z1.Mo z1.co), .obj z1.mm (mobj kA z1.Mm z1.cm), .own z1.fa z1.fs.length z1.fc ((z1.fs).flatMap flE) 48 3]) (Lr := ([.blk b27 (([.string ⟨(e24.name).toArray⟩, VI e24.kind] : List Value) ++ ((e24.of.1).map V8 ++ (([VI e24.size] : List Value)))) 54, .own a9 l11.length c10 ((l11).flatMap itE) 54 35] : List Ch)) (T := z1.T) ((perm_front (j := 2) rfl).trans (.cons _ ((perm_front (j := 2) rfl).trans (.cons _ ((perm_front (j := 2) rfl).trans (.cons _ ((perm_front (j := 2) rfl).trans (.cons _ (.refl _)))))))))) hz1 (ho_up ho hap H) (ap_turn hap ho H (L := [.blk b27 (([.string ⟨(e24.name).toArray⟩, VI e24.kind] : List Value) ++ ((e24.of.1).map V8 ++ (([VI e24.size] : List Value)))) 54, .own a9 l11.length c10 ((l11).flatMap itE) 54 35, .blk wb ([.map (some z1.mo), .map (some z1.mm), VI (z1.n : Int), .bool z1.tl, .slice (hd z1.fa) z1.fs.length z1.fc, VI 0]) 70, .obj z1.mo (mobj kA z1.Mo z1.co), .obj z1.mm (mobj kA z1.Mm z1.cm), .own z1.fa z1.fs.length z1.fc ((z1.fs).flatMap flE) 48 3]) (L1 := [.blk wb ([.map (some z1.mo), .map (some z1.mm), VI (z1.n : Int), .bool z1.tl, .slice (hd z1.fa) z1.fs.length z1.fc, VI 0]) 70, .obj z1.mo (mobj kA z1.Mo z1.co), .obj z1.mm (mobj kA z1.Mm z1.cm), .own z1.fa z1.fs.length z1.fc ((z1.fs).flatMap flE) 48 3]) (Lr := ([.blk b27 (([.string ⟨(e24.name).toArray⟩, VI e24.kind] : List Value) ++ ((e24.of.1).map V8 ++ (([VI e24.size] : List Value)))) 54, .own a9 l11.length c10 ((l11).flatMap itE) 54 35] : List Ch)) (T := z1.T) ((perm_front (j := 2) rfl).trans (.cons _ ((perm_front (j := 2) rfl).trans (.cons _ ((perm_front (j := 2) rfl).trans (.cons _ ((perm_front (j := 2) rfl).trans (.cons _ (.refl _)))))))))) _ hr1 e24.of e24.size (wkid (⟨2, k, sz, dp, tp⟩ : Todo) e24).path ((p ++ e24.name) ++ ([47] : List UInt8)) (kid_path hpp h1) (by have := hnm.1; simp only [List.length_append, List.length_singleton]; omega)) ?_)
            rintro _ w ⟨zz29, ee30, hzz31, htt32, hrr33, Hc⟩
            replace H := H.callT (L1' := [.blk wb ([.map (some zz29.mo), .map (some zz29.mm), VI (zz29.n : Int), .bool zz29.tl, .slice (hd zz29.fa) zz29.fs.length zz29.fc, VI ee30]) 70, .obj zz29.mo (mobj kA zz29.Mo zz29.co), .obj zz29.mm (mobj kA zz29.Mm zz29.cm), .own zz29.fa zz29.fs.length zz29.fc ((zz29.fs).flatMap flE) 48 3]) (T' := zz29.T) (L := [.blk b27 (([.string ⟨(e24.name).toArray⟩, VI e24.kind] : List Value) ++ ((e24.of.1).map V8 ++ (([VI e24.size] : List Value)))) 54, .own a9 l11.length c10 ((l11).flatMap itE) 54 35, .blk wb ([.map (some z1.mo), .map (some z1.mm), VI (z1.n : Int), .bool z1.tl, .slice (hd z1.fa) z1.fs.length z1.fc, VI 0]) 70, .obj z1.mo (mobj kA z1.Mo z1.co), .obj z1.mm (mobj kA z1.Mm z1.cm), .own z1.fa z1.fs.length z1.fc ((z1.fs).flatMap flE) 48 3]) (L1 := [.blk wb ([.map (some z1.mo), .map (some z1.mm), VI (z1.n : Int), .bool z1.tl, .slice (hd z1.fa) z1.fs.length z1.fc, VI 0]) 70, .obj z1.mo (mobj kA z1.Mo z1.co), .obj z1.mm (mobj kA z1.Mm z1.cm), .own z1.fa z1.fs.length z1.fc ((z1.fs).flatMap flE) 48 3]) (Lr := ([.blk b27 (([.string ⟨(e24.name).toArray⟩, VI e24.kind] : List Value) ++ ((e24.of.1).map V8 ++ (([VI e24.size] : List Value)))) 54, .own a9 l11.length c10 ((l11).flatMap itE) 54 35] : List Ch)) (T := z1.T) ((perm_front (j := 2) rfl).trans (.cons _ ((perm_front (j := 2) rfl).trans (.cons _ ((perm_front (j := 2) rfl).trans (.cons _ ((perm_front (j := 2) rfl).trans (.cons _ (.refl _))))))))) Hc (.refl _)
            clear Hc
            replace H : Hp _ w _ (Ch.blk b27 (([.string ⟨(e24.name).toArray⟩, VI e24.kind] : List Value) ++ ((e24.of.1).map V8 ++ (([VI e24.size] : List Value)))) 54 :: Ch.own a9 l11.length c10 ((l11).flatMap itE) 54 35 :: Ch.blk wb ([.map (some zz29.mo), .map (some zz29.mm), VI (zz29.n : Int), .bool zz29.tl, .slice (hd zz29.fa) zz29.fs.length zz29.fc, VI ee30]) 70 :: Ch.obj zz29.mo (mobj kA zz29.Mo zz29.co) :: Ch.obj zz29.mm (mobj kA zz29.Mm zz29.cm) :: Ch.own zz29.fa zz29.fs.length zz29.fc ((zz29.fs).flatMap flE) 48 3 :: zz29.T) := H
            first | refine l_end ?_ | refine l_nil ?_
            repeat refine c_seq ?_
            refine c_region ?_; refine l_op (o_val r_mv ?_); refine l_op (o_val (r_nilc rfl) ?_); refine l_op (o_val (r_fa rfl fo70_5) ?_); refine l_op (o_val (r_ld (v := VI ee30) H (i := 2) rfl rfl ct37 rfl) ?_); refine l_op (o_val (r_bin (a := ee30) (b := 0) rfl rfl (fun _ => b_neq)) ?_); first | refine l_end ?_ | refine l_nil ?_
            by_cases hc34 : ee30 ≠ 0
            ·
             repeat refine c_seq ?_
             refine c_yes (by exact congrArg Value.bool (decide_eq_true hc34)) ?_; refine c_ret ?_; try dsimp only [Exit.then, Exit.inBlock]
             refine e_ret0 Try.results31 ?_
             refine ⟨_, rfl, ?_⟩
             have hne : ¬ ee30 = 0 := by omega
             rw [hopen, kids_stop he25 hSe (by omega) hr1.1.symm (by rw [(kid_dir (by omega)), ← hrr33.1]; exact hne), (kid_dir (by omega))]
             exact ⟨zz29, ee30, fun h => absurd h hne, htt32.trans htl1, hrr33, H.sub (.cons _ (.cons _ (.cons_cons _ (.cons_cons _ (.cons_cons _ (.cons_cons _ (List.Sublist.refl _)))))))⟩
            ·
             repeat refine c_seq ?_
             refine c_no (by exact congrArg Value.bool (decide_eq_false hc34)) ?_; refine c_skip ?_; repeat refine c_seq ?_
             refine c_region ?_; refine l_op (o_val (r_bin (a := (i : Int)) (b := 1) rfl rfl (fun _ => b_add (by omega) (by omega))) ?_); refine l_op (o_val r_mv ?_); first | refine l_end ?_ | refine l_nil ?_
             have he0 : ee30 = 0 := by omega
             subst he0
             refine round_end (i + 1, zz29) ?_ ?_ ?_
             · exact ⟨rfl, rfl, rfl, rfl, rfl, show VI ((i : Int) + 1) = VI ((i + 1 : Nat) : Int) from congrArg VI (by omega), trivial⟩
             · refine ⟨?_, ?_⟩
               · try dsimp only
                 exact ⟨by omega, hzz31 rfl, htt32.trans htl1, by rw [kids_next he25 hSe (by omega) hr1.1.symm, (kid_dir (by omega))]; exact hrr33⟩
               · exact H.sub (.cons _ (.cons_cons _ (.cons_cons _ (.cons_cons _ (.cons_cons _ (.cons_cons _ (List.Sublist.refl _)))))))
             · show l11.length - (i + 1 : Nat) < l11.length - i; omega
           ·
            repeat refine c_seq ?_
            refine c_no (by exact congrArg Value.bool (decide_eq_false hc28)) ?_; repeat refine c_seq ?_
            refine c_region ?_; refine l_op (o_val r_mv ?_); refine l_op (o_val (r_ldA (C := ([.string ⟨(e24.name).toArray⟩, VI e24.kind] : List Value) ++ ((e24.of.1).map V8 ++ (([VI e24.size] : List Value)))) H (i := 0) rfl rfl rt54 (by simp only [List.length_append, List.length_map, List.length_cons, List.length_nil, (show (e24.of.1).length = 32 from e24.of.2)])) ?_); refine l_op (o_val r_mv ?_); refine l_op (o_callR Try.func48 rfl rfl rfl (wfile_ret _ l wb z1 (H.ownT (L := [.blk b27 (([.string ⟨(e24.name).toArray⟩, VI e24.kind] : List Value) ++ ((e24.of.1).map V8 ++ (([VI e24.size] : List Value)))) 54, .own a9 l11.length c10 ((l11).flatMap itE) 54 35, .blk wb ([.map (some z1.mo), .map (some z1.mm), VI (z1.n : Int), .bool z1.tl, .slice (hd z1.fa) z1.fs.length z1.fc, VI 0]) 70, .obj z1.mo (mobj kA z1.Mo z1.co), .obj z1.mm (mobj kA z1.Mm z1.cm), .own z1.fa z1.fs.length z1.fc ((z1.fs).flatMap flE) 48 3]) (L1 := [.blk wb ([.map (some z1.mo), .map (some z1.mm), VI (z1.n : Int), .bool z1.tl, .slice (hd z1.fa) z1.fs.length z1.fc, VI 0]) 70, .obj z1.mo (mobj kA z1.Mo z1.co), .obj z1.mm (mobj kA z1.Mm z1.cm), .own z1.fa z1.fs.length z1.fc ((z1.fs).flatMap flE) 48 3]) (Lr := ([.blk b27 (([.string ⟨(e24.name).toArray⟩, VI e24.kind] : List Value) ++ ((e24.of.1).map V8 ++ (([VI e24.size] : List Value)))) 54, .own a9 l11.length c10 ((l11).flatMap itE) 54 35] : List Ch)) (T := z1.T) ((perm_front (j := 2) rfl).trans (.cons _ ((perm_front (j := 2) rfl).trans (.cons _ ((perm_front (j := 2) rfl).trans (.cons _ ((perm_front (j := 2) rfl).trans (.cons _ (.refl _)))))))))) hz1 (ho_up ho hap H) (ap_turn hap ho H (L := [.blk b27 (([.string ⟨(e24.name).toArray⟩, VI e24.kind] : List Value) ++ ((e24.of.1).map V8 ++ (([VI e24.size] : List Value)))) 54, .own a9 l11.length c10 ((l11).flatMap itE) 54 35, .blk wb ([.map (some z1.mo), .map (some z1.mm), VI (z1.n : Int), .bool z1.tl, .slice (hd z1.fa) z1.fs.length z1.fc, VI 0]) 70, .obj z1.mo (mobj kA z1.Mo z1.co), .obj z1.mm (mobj kA z1.Mm z1.cm), .own z1.fa z1.fs.length z1.fc ((z1.fs).flatMap flE) 48 3]) (L1 := [.blk wb ([.map (some z1.mo), .map (some z1.mm), VI (z1.n : Int), .bool z1.tl, .slice (hd z1.fa) z1.fs.length z1.fc, VI 0]) 70, .obj z1.mo (mobj kA z1.Mo z1.co), .obj z1.mm (mobj kA z1.Mm z1.cm), .own z1.fa z1.fs.length z1.fc ((z1.fs).flatMap flE) 48 3]) (Lr := ([.blk b27 (([.string ⟨(e24.name).toArray⟩, VI e24.kind] : List Value) ++ ((e24.of.1).map V8 ++ (([VI e24.size] : List Value)))) 54, .own a9 l11.length c10 ((l11).flatMap itE) 54 35] : List Ch)) (T := z1.T) ((perm_front (j := 2) rfl).trans (.cons _ ((perm_front (j := 2) rfl).trans (.cons _ ((perm_front (j := 2) rfl).trans (.cons _ ((perm_front (j := 2) rfl).trans (.cons _ (.refl _)))))))))) _ hr1 e24 p (dp + 1) (by have := hnm.1; omega)) ?_); rintro _ w ⟨zz35, ee36, hzz37, htt38, hrr39, Hc⟩
            replace H := H.callT (L1' := [.blk wb ([.map (some zz35.mo), .map (some zz35.mm), VI (zz35.n : Int), .bool zz35.tl, .slice (hd zz35.fa) zz35.fs.length zz35.fc, VI ee36]) 70, .obj zz35.mo (mobj kA zz35.Mo zz35.co), .obj zz35.mm (mobj kA zz35.Mm zz35.cm), .own zz35.fa zz35.fs.length zz35.fc ((zz35.fs).flatMap flE) 48 3]) (T' := zz35.T) (L := [.blk b27 (([.string ⟨(e24.name).toArray⟩, VI e24.kind] : List Value) ++ ((e24.of.1).map V8 ++ (([VI e24.size] : List Value)))) 54, .own a9 l11.length c10 ((l11).flatMap itE) 54 35, .blk wb ([.map (some z1.mo), .map (some z1.mm), VI (z1.n : Int), .bool z1.tl, .slice (hd z1.fa) z1.fs.length z1.fc, VI 0]) 70, .obj z1.mo (mobj kA z1.Mo z1.co), .obj z1.mm (mobj kA z1.Mm z1.cm), .own z1.fa z1.fs.length z1.fc ((z1.fs).flatMap flE) 48 3]) (L1 := [.blk wb ([.map (some z1.mo), .map (some z1.mm), VI (z1.n : Int), .bool z1.tl, .slice (hd z1.fa) z1.fs.length z1.fc, VI 0]) 70, .obj z1.mo (mobj kA z1.Mo z1.co), .obj z1.mm (mobj kA z1.Mm z1.cm), .own z1.fa z1.fs.length z1.fc ((z1.fs).flatMap flE) 48 3]) (Lr := ([.blk b27 (([.string ⟨(e24.name).toArray⟩, VI e24.kind] : List Value) ++ ((e24.of.1).map V8 ++ (([VI e24.size] : List Value)))) 54, .own a9 l11.length c10 ((l11).flatMap itE) 54 35] : List Ch)) (T := z1.T) ((perm_front (j := 2) rfl).trans (.cons _ ((perm_front (j := 2) rfl).trans (.cons _ ((perm_front (j := 2) rfl).trans (.cons _ ((perm_front (j := 2) rfl).trans (.cons _ (.refl _))))))))) Hc (.refl _)
            clear Hc
            replace H : Hp _ w _ (Ch.blk b27 (([.string ⟨(e24.name).toArray⟩, VI e24.kind] : List Value) ++ ((e24.of.1).map V8 ++ (([VI e24.size] : List Value)))) 54 :: Ch.own a9 l11.length c10 ((l11).flatMap itE) 54 35 :: Ch.blk wb ([.map (some zz35.mo), .map (some zz35.mm), VI (zz35.n : Int), .bool zz35.tl, .slice (hd zz35.fa) zz35.fs.length zz35.fc, VI ee36]) 70 :: Ch.obj zz35.mo (mobj kA zz35.Mo zz35.co) :: Ch.obj zz35.mm (mobj kA zz35.Mm zz35.cm) :: Ch.own zz35.fa zz35.fs.length zz35.fc ((zz35.fs).flatMap flE) 48 3 :: zz35.T) := H
            first | refine l_end ?_ | refine l_nil ?_
            repeat refine c_seq ?_
            refine c_region ?_; refine l_op (o_val r_mv ?_); refine l_op (o_val (r_nilc rfl) ?_); refine l_op (o_val (r_fa rfl fo70_5) ?_); refine l_op (o_val (r_ld (v := VI ee36) H (i := 2) rfl rfl ct37 rfl) ?_); refine l_op (o_val (r_bin (a := ee36) (b := 0) rfl rfl (fun _ => b_neq)) ?_); first | refine l_end ?_ | refine l_nil ?_
            by_cases hc40 : ee36 ≠ 0
            ·
             repeat refine c_seq ?_
             refine c_yes (by exact congrArg Value.bool (decide_eq_true hc40)) ?_; refine c_ret ?_; try dsimp only [Exit.then, Exit.inBlock]
             refine e_ret0 Try.results31 ?_
             refine ⟨_, rfl, ?_⟩
             have hne : ¬ ee36 = 0 := by omega
             rw [hopen, kids_stop he25 hSe (by omega) hr1.1.symm (by rw [(kid_file hpp (by omega)), ← hrr39.1]; exact hne), (kid_file hpp (by omega))]
             exact ⟨zz35, ee36, fun h => absurd h hne, htt38.trans htl1, hrr39, H.sub (.cons _ (.cons _ (.cons_cons _ (.cons_cons _ (.cons_cons _ (.cons_cons _ (List.Sublist.refl _)))))))⟩
            ·
             repeat refine c_seq ?_
             refine c_no (by exact congrArg Value.bool (decide_eq_false hc40)) ?_; refine c_skip ?_; repeat refine c_seq ?_
             refine c_region ?_; refine l_op (o_val (r_bin (a := (i : Int)) (b := 1) rfl rfl (fun _ => b_add (by omega) (by omega))) ?_); refine l_op (o_val r_mv ?_); first | refine l_end ?_ | refine l_nil ?_
             have he0 : ee36 = 0 := by omega
             subst he0
             refine round_end (i + 1, zz35) ?_ ?_ ?_
             · exact ⟨rfl, rfl, rfl, rfl, rfl, show VI ((i : Int) + 1) = VI ((i + 1 : Nat) : Int) from congrArg VI (by omega), trivial⟩
             · refine ⟨?_, ?_⟩
               · try dsimp only
                 exact ⟨by omega, hzz37 rfl, htt38.trans htl1, by rw [kids_next he25 hSe (by omega) hr1.1.symm, (kid_file hpp (by omega))]; exact hrr39⟩
               · exact H.sub (.cons _ (.cons_cons _ (.cons_cons _ (.cons_cons _ (.cons_cons _ (.cons_cons _ (List.Sublist.refl _)))))))
             · show l11.length - (i + 1 : Nat) < l11.length - i; omega
          ·
           repeat refine c_seq ?_
           refine c_no (by exact congrArg Value.bool (decide_eq_false hc21)) ?_; refine c_exit ?_; try simp only [Exit.then, Exit.inBlock, ↓reduceIte]
           refine e_norm ?_; refine e_ret0 Try.results31 ?_
           refine ⟨_, rfl, ?_⟩
           rw [List.take_of_length_le (by omega)] at hr1
           rw [hopen]
           exact ⟨z1, 0, fun _ => hz1, htl1, hr1, H.sub (.cons _ (.cons_cons _ (.cons_cons _ (.cons_cons _ (.cons_cons _ (List.Sublist.refl _))))))⟩
         ·
          refine (o_bslG1 (enc := flE) ((⟨(p).take ((((p).length : Int) - 1).toNat), true, ⟨none, 0, 0, []⟩⟩ : Fl)) H sl40 zc48 (by rfl) (by decide) (by decide) rfl (flE_len _) (fun b41 w H hb41 => ?_))
          replace H := H.rot
          replace H : Hp _ w _ (Ch.own (some b41) 1 1 (([(⟨(p).take ((((p).length : Int) - 1).toNat), true, ⟨none, 0, 0, []⟩⟩ : Fl)]).flatMap flE) 48 3 :: Ch.own a9 l11.length c10 ((l11).flatMap itE) 54 35 :: Ch.blk b1 ((k.1).map V8) 29 :: Ch.blk wb ([.map (some z.mo), .map (some z.mm), VI ((z.n + 1 : Nat) : Int), .bool z.tl, .slice (hd z.fa) z.fs.length z.fc, VI 0]) 70 :: Ch.obj z.mo (mobj kA z.Mo z.co) :: Ch.obj z.mm (mobj kA mm5 mc6) :: Ch.own z.fa z.fs.length z.fc ((z.fs).flatMap flE) 48 3 :: z.T) := H
          refine ⟨H.sub (.cons _ (.cons_cons _ (.cons_cons _ (.cons _ (.cons_cons _ (.cons_cons _ (List.nil_sublist _))))))), ?_⟩
          replace HS := H.sub (.cons _ (.cons_cons _ (.cons_cons _ (.cons _ (.cons_cons _ (.cons_cons _ (List.nil_sublist _)))))))
          refine t_step 4 rfl (by kernel_rfl) (o_val (r_ld (v := .slice (hd z.fa) z.fs.length z.fc) H (i := 3) rfl rfl ct40 rfl) ?_); refine ⟨H.sub (.cons _ (.cons_cons _ (.cons_cons _ (.cons _ (.cons_cons _ (.cons_cons _ (List.nil_sublist _))))))), ?_⟩
          replace HS := H.sub (.cons _ (.cons_cons _ (.cons_cons _ (.cons _ (.cons_cons _ (.cons_cons _ (List.nil_sublist _)))))))
          refine t_step 12 rfl (by kernel_rfl) (o_appG (enc := flE) (s := ⟨hd (some b41), 1, 1, [(⟨(p).take ((((p).length : Int) - 1).toNat), true, ⟨none, 0, 0, []⟩⟩ : Fl)]⟩) (l' := z.fs ++ ([(⟨(p).take ((((p).length : Int) - 1).toNat), true, ⟨none, 0, 0, []⟩⟩ : Fl)])) (len' := z.fs.length + 1) rfl rfl H (i := 6) rfl sl40 Try.underlying40 rfl rfl (H.glOwn (i := 0) rfl (by decide) (fun c _ => flE_len c)) (by decide) (fun c _ => flE_all c) (by omega) (by decide) (fun a42 c43 w H => ?_)); replace H : Hp _ w _ (Ch.own (some b41) 1 1 (([(⟨(p).take ((((p).length : Int) - 1).toNat), true, ⟨none, 0, 0, []⟩⟩ : Fl)]).flatMap flE) 48 3 :: Ch.own a9 l11.length c10 ((l11).flatMap itE) 54 35 :: Ch.blk b1 ((k.1).map V8) 29 :: Ch.blk wb ([.map (some z.mo), .map (some z.mm), VI ((z.n + 1 : Nat) : Int), .bool z.tl, .slice (hd z.fa) z.fs.length z.fc, VI 0]) 70 :: Ch.obj z.mo (mobj kA z.Mo z.co) :: Ch.obj z.mm (mobj kA mm5 mc6) :: Ch.own a42 (z.fs.length + 1) c43 ((z.fs ++ ([(⟨(p).take ((((p).length : Int) - 1).toNat), true, ⟨none, 0, 0, []⟩⟩ : Fl)])).flatMap flE) 48 3 :: z.T) := H
          refine ⟨H.sub (.cons _ (.cons_cons _ (.cons_cons _ (.cons _ (.cons_cons _ (.cons_cons _ (List.nil_sublist _))))))), ?_⟩
          replace HS := H.sub (.cons _ (.cons_cons _ (.cons_cons _ (.cons _ (.cons_cons _ (.cons_cons _ (List.nil_sublist _)))))))
          refine t_take 13 rfl (by kernel_rfl) (by kernel_rfl) (by kernel_rfl) (fun _ _ _ h => h) (fun w HS => r_nilc rfl) HS ?_; refine t_take 14 rfl (by kernel_rfl) (by kernel_rfl) (by kernel_rfl) (fun _ _ _ h => h) (fun w HS => r_fa rfl fo70_4) HS ?_; refine t_step 15 rfl (by kernel_rfl) (o_st (v := .slice (hd a42) (z.fs.length + 1) c43) H (i := 3) rfl rfl rfl cs40 rfl (by simp only [List.length_cons, List.length_nil]; omega) (fun w H => ?_)); replace H : Hp _ w _ (Ch.own (some b41) 1 1 (([(⟨(p).take ((((p).length : Int) - 1).toNat), true, ⟨none, 0, 0, []⟩⟩ : Fl)]).flatMap flE) 48 3 :: Ch.own a9 l11.length c10 ((l11).flatMap itE) 54 35 :: Ch.blk b1 ((k.1).map V8) 29 :: Ch.blk wb ([.map (some z.mo), .map (some z.mm), VI ((z.n + 1 : Nat) : Int), .bool z.tl, .slice (hd a42) (z.fs.length + 1) c43, VI 0]) 70 :: Ch.obj z.mo (mobj kA z.Mo z.co) :: Ch.obj z.mm (mobj kA mm5 mc6) :: Ch.own a42 (z.fs.length + 1) c43 ((z.fs ++ ([(⟨(p).take ((((p).length : Int) - 1).toNat), true, ⟨none, 0, 0, []⟩⟩ : Fl)])).flatMap flE) 48 3 :: z.T) := H
          refine ⟨H.sub (.cons _ (.cons_cons _ (.cons_cons _ (.cons _ (.cons_cons _ (.cons_cons _ (List.nil_sublist _))))))), ?_⟩
          replace HS := H.sub (.cons _ (.cons_cons _ (.cons_cons _ (.cons _ (.cons_cons _ (.cons_cons _ (List.nil_sublist _)))))))
          refine t_done (by kernel_rfl) ?_
          clear HS
          repeat refine c_seq ?_
          refine c_region ?_; refine l_op (o_val r_mv ?_); refine l_op (o_val (r_lens el52 rfl) ?_); refine l_op (o_val r_mv ?_); first | refine l_end ?_ | refine l_nil ?_
          repeat refine c_seq ?_
          refine c_block ?_; have hl1 : (z.fs ++ ([(⟨(p).take ((((p).length : Int) - 1).toNat), true, ⟨none, 0, 0, []⟩⟩ : Fl)])).length = z.fs.length + 1 := by rw [List.length_append]; rfl
          rw [← hl1] at H
          repeat refine c_seq ?_
          refine c_loop2 (fun (i : Nat) (z1 : WY) => [(0, .pointer (some ⟨wb, 0, none⟩)), (2, .string ⟨(p).toArray⟩), (3, VI (dp : Int)), (64, .slice (hd a9) l11.length c10), (65, VI (l11.length : Int)), (66, VI (i : Int))])
            (fun (i : Nat) (z1 : WY) w => (i ≤ l11.length ∧ z1.ok l ∧ z1.tl = z.tl ∧ Rel z1 0 (wlkAll (obL l) ((l11.take i).map (wkid (⟨2, k, sz, dp, tp⟩ : Todo))) S0)) ∧ Hp w0 w (keys (wch wb z 0)) (Ch.own a9 l11.length c10 ((l11).flatMap itE) 54 35 :: Ch.blk wb ([.map (some z1.mo), .map (some z1.mm), VI (z1.n : Int), .bool z1.tl, .slice (hd z1.fa) z1.fs.length z1.fc, VI 0]) 70 :: Ch.obj z1.mo (mobj kA z1.Mo z1.co) :: Ch.obj z1.mm (mobj kA z1.Mm z1.cm) :: Ch.own z1.fa z1.fs.length z1.fc ((z1.fs).flatMap flE) 48 3 :: z1.T))
            (fun (i : Nat) (z1 : WY) => l11.length - i) 0 (⟨z.mo, z.Mo, z.co, z.mm, mm5, mc6, fput z.G k ((z.G k).getD 0 + 1), (z.n + 1), z.tl, a42, c43, z.fs ++ ([(⟨(p).take ((((p).length : Int) - 1).toNat), true, ⟨none, 0, 0, []⟩⟩ : Fl)])⟩ : WY) ⟨rfl, rfl, rfl, rfl, rfl, rfl, trivial⟩ ⟨⟨Nat.zero_le _, ⟨hz.hO, hz.hOk, hmf7, hmo8, bd_put hz.bd k, by show z.n + 1 ≤ 1024; omega, fat_add (a := none) hz.fat rfl, by simp only [List.length_append, List.length_singleton]; omega⟩, rfl, by rw [List.take_zero, List.map_nil, wlkAll_nil]; exact ⟨hSe.symm, fun _ => ⟨by rw [hSm]; exact congrArg (· + 1) hrn, by rw [hSn]; exact keys_put hrg k, fun ht => by rw [hSf, if_pos ⟨List.eq_nil_of_length_eq_zero (by omega), by omega⟩, List.map_append, List.map_append, hrf ht]; exact congrArg (fun q => s.files.map Fil.key ++ [(q, true, [])]) (path_take hpp (by omega))⟩⟩⟩, (wdir_step (H.sub (.cons _ (.cons_cons _ (.cons _ (.cons_cons _ (.cons_cons _ (.cons_cons _ (.cons_cons _ (List.Sublist.refl _))))))))))⟩ ?_
          clear H
          rintro i z1 τ w ⟨⟨hil, hz1, htl1, hr1⟩, H⟩
          repeat refine c_seq ?_
          refine c_region ?_; refine l_op (o_val (r_bin (a := (i : Int)) (b := (l11.length : Int)) rfl rfl (fun _ => b_lss)) ?_); first | refine l_end ?_ | refine l_nil ?_
          by_cases hc44 : (i : Int) < (l11.length : Int)
          ·
           repeat refine c_seq ?_
           refine c_yes (by exact congrArg Value.bool (decide_eq_true hc44)) ?_; refine c_skip ?_; repeat refine c_seq ?_
           refine c_block ?_; repeat refine c_seq ?_
           refine c_region ?_; have ah46 := H.ownAddr (i := 0) rfl (by omega)
           obtain ⟨ab45, ah46⟩ := ah46
           refine l_op (o_val (r_isN i rfl rfl el52 ah46 (by omega) (by (try simp only [Sl.cut]); omega)) ?_); have he48 : ∃ c, (l11)[i]? = some c := ⟨_, List.getElem?_eq_getElem (by have := ((H.glOwn (i := 0) rfl (by decide) (fun c _ => itE_len c))).ln; (try dsimp only at this ⊢); omega)⟩
           obtain ⟨e47, he48⟩ := he48
           have hez49 := ((H.glOwn (i := 0) rfl (by decide) (fun c _ => itE_len c))).sz e47 (List.mem_of_getElem? he48)
           refine l_op (o_val (r_ldRow (s := (⟨hd a9, l11.length, c10, l11⟩ : Gl It)) (k := i) (H.glOwn (i := 0) rfl (by decide) (fun c _ => itE_len c)) ah46 rfl rt54 (by decide) he48) ?_); refine l_op (o_alloc H zc54 (fun b50 w H hb50 => ?_)); replace H := H.rot
           replace H : Hp _ w _ (Ch.blk b50 (([.string ⟨(([] : List UInt8)).toArray⟩, VI 0] : List Value) ++ ((List.replicate 32 (0 : UInt8)).map V8 ++ (([VI 0] : List Value)))) 54 :: Ch.own a9 l11.length c10 ((l11).flatMap itE) 54 35 :: Ch.blk wb ([.map (some z1.mo), .map (some z1.mm), VI (z1.n : Int), .bool z1.tl, .slice (hd z1.fa) z1.fs.length z1.fc, VI 0]) 70 :: Ch.obj z1.mo (mobj kA z1.Mo z1.co) :: Ch.obj z1.mm (mobj kA z1.Mm z1.cm) :: Ch.own z1.fa z1.fs.length z1.fc ((z1.fs).flatMap flE) 48 3 :: z1.T) := H
           refine l_op (o_stW (C' := ([.string ⟨(e47.name).toArray⟩, VI e47.kind] : List Value) ++ ((e47.of.1).map V8 ++ (([VI e47.size] : List Value)))) H (i := 0) rfl rfl rfl cs54 (by first | (simp [Value.oneCell', List.all_append, List.all_map]; done) | (simp only [List.all_append, List.all_cons, List.all_nil, List.all_map]; simp [Value.oneCell', Function.comp_def])) (by simp only [List.length_append, List.length_map, List.length_cons, List.length_nil, (show (List.replicate 32 (0 : UInt8)).length = 32 from (List.length_replicate ..))]) (by simp only [List.length_append, List.length_map, List.length_cons, List.length_nil, (show (e47.of.1).length = 32 from e47.of.2)]) (fun w H => ?_)); replace H : Hp _ w _ (Ch.blk b50 (([.string ⟨(e47.name).toArray⟩, VI e47.kind] : List Value) ++ ((e47.of.1).map V8 ++ (([VI e47.size] : List Value)))) 54 :: Ch.own a9 l11.length c10 ((l11).flatMap itE) 54 35 :: Ch.blk wb ([.map (some z1.mo), .map (some z1.mm), VI (z1.n : Int), .bool z1.tl, .slice (hd z1.fa) z1.fs.length z1.fc, VI 0]) 70 :: Ch.obj z1.mo (mobj kA z1.Mo z1.co) :: Ch.obj z1.mm (mobj kA z1.Mm z1.cm) :: Ch.own z1.fa z1.fs.length z1.fc ((z1.fs).flatMap flE) 48 3 :: z1.T) := H
           first | refine l_end ?_ | refine l_nil ?_
           have hnm := hitf e47 (List.mem_of_getElem? he48)
           have hpx : (p ++ e47.name).length = p.length + e47.name.length := List.length_append
           repeat refine c_seq ?_
           refine c_region ?_; refine l_op (o_val (r_fa rfl fo54_1) ?_); refine l_op (o_val (r_l1 (v := VI e47.kind) H (i := 0) rfl rfl ct3 (show Cut3 (([.string ⟨(e47.name).toArray⟩, VI e47.kind] : List Value) ++ ((e47.of.1).map V8 ++ (([VI e47.size] : List Value)))) (([.string ⟨(e47.name).toArray⟩] : List Value)) (([VI e47.kind] : List Value)) ((e47.of.1).map V8 ++ (([VI e47.size] : List Value))) 1 1 from ⟨(show ([.string ⟨(e47.name).toArray⟩, VI e47.kind] : List Value) ++ ((e47.of.1).map V8 ++ (([VI e47.size] : List Value))) = ([.string ⟨(e47.name).toArray⟩] : List Value) ++ ((([VI e47.kind] : List Value)) ++ ((e47.of.1).map V8 ++ (([VI e47.size] : List Value)))) from by simp only [List.cons_append, List.nil_append]), (by rfl), (by rfl)⟩)) ?_); refine l_op (o_val (r_bin (a := e47.kind) (b := 2) rfl rfl (fun _ => b_eql)) ?_); first | refine l_end ?_ | refine l_nil ?_
           by_cases hc51 : e47.kind = 2
           ·
            repeat refine c_seq ?_
            refine c_yes (by exact congrArg Value.bool (decide_eq_true hc51)) ?_; repeat refine c_seq ?_
            refine c_region ?_; refine l_op (o_val r_mv ?_); refine l_op (o_val (r_fa rfl fo54_2) ?_); refine l_op (o_val (r_lk H (i := 0) rfl rfl rt29 (show Cut3 (([.string ⟨(e47.name).toArray⟩, VI e47.kind] : List Value) ++ ((e47.of.1).map V8 ++ (([VI e47.size] : List Value)))) (([.string ⟨(e47.name).toArray⟩, VI e47.kind] : List Value)) ((e47.of.1).map V8) (([VI e47.size] : List Value)) 2 32 from ⟨(show ([.string ⟨(e47.name).toArray⟩, VI e47.kind] : List Value) ++ ((e47.of.1).map V8 ++ (([VI e47.size] : List Value))) = ([.string ⟨(e47.name).toArray⟩, VI e47.kind] : List Value) ++ (((e47.of.1).map V8) ++ (([VI e47.size] : List Value))) from by simp only [List.cons_append, List.nil_append]), (by rfl), (by simp only [List.length_map, (show (e47.of.1).length = 32 from e47.of.2)])⟩)) ?_); refine l_op (o_val r_mv ?_); refine l_op (o_val (r_fa rfl fo54_0) ?_); refine l_op (o_val (r_l1 (v := .string ⟨(e47.name).toArray⟩) H (i := 0) rfl rfl ct9 (show Cut3 (([.string ⟨(e47.name).toArray⟩, VI e47.kind] : List Value) ++ ((e47.of.1).map V8 ++ (([VI e47.size] : List Value)))) (([] : List Value)) (([.string ⟨(e47.name).toArray⟩] : List Value)) (([VI e47.kind] : List Value) ++ ((e47.of.1).map V8 ++ (([VI e47.size] : List Value)))) 0 1 from ⟨(show ([.string ⟨(e47.name).toArray⟩, VI e47.kind] : List Value) ++ ((e47.of.1).map V8 ++ (([VI e47.size] : List Value))) = ([] : List Value) ++ ((([.string ⟨(e47.name).toArray⟩] : List Value)) ++ (([VI e47.kind] : List Value) ++ ((e47.of.1).map V8 ++ (([VI e47.size] : List Value))))) from by simp only [List.cons_append, List.nil_append]), (by rfl), (by rfl)⟩)) ?_); refine l_op (o_val (r_stradd (a := p) (b := e47.name) rfl rfl (by (try simp only [List.length_cons, List.length_nil]); omega)) ?_); refine l_op (o_val (r_stradd (a := p ++ e47.name) (b := ([47] : List UInt8)) rfl rfl (by (try simp only [List.length_cons, List.length_nil]); omega)) ?_); refine l_op (o_val r_mv ?_); refine l_op (o_val (r_bin (a := (dp : Int)) (b := 1) rfl rfl (fun _ => b_add (by omega) (by omega))) ?_); refine l_op (o_callR Try.func31 rfl rfl rfl (hi (by omega) _ wb z1 (H.ownT (L := [.blk b50 (([.string ⟨(e47.name).toArray⟩, VI e47.kind] : List Value) ++ ((e47.of.1).map V8 ++ (([VI e47.size] : List Value)))) 54, .own a9 l11.length c10 ((l11).flatMap itE) 54 35, .blk wb ([.map (some z1.mo), .map (some z1.mm), VI (z1.n : Int), .bool z1.tl, .slice (hd z1.fa) z1.fs.length z1.fc, VI 0]) 70, .obj z1.mo (mobj kA z1.Mo z1.co), .obj z1.mm (mobj kA z1.Mm z1.cm), .own z1.fa z1.fs.length z1.fc ((z1.fs).flatMap flE) 48 3]) (L1 := [.blk wb ([.map (some z1.mo), .map (some z1.mm), VI (z1.n : Int), .bool z1.tl, .slice (hd z1.fa) z1.fs.length z1.fc, VI 0]) 70, .obj z1.mo (mobj kA z1.Mo z1.co), .obj z1.mm (mobj kA z1.Mm z1.cm), .own z1.fa z1.fs.length z1.fc ((z1.fs).flatMap flE) 48 3]) (Lr := ([.blk b50 (([.string ⟨(e47.name).toArray⟩, VI e47.kind] : List Value) ++ ((e47.of.1).map V8 ++ (([VI e47.size] : List Value)))) 54, .own a9 l11.length c10 ((l11).flatMap itE) 54 35] : List Ch)) (T := z1.T) ((perm_front (j := 2) rfl).trans (.cons _ ((perm_front (j := 2) rfl).trans (.cons _ ((perm_front (j := 2) rfl).trans (.cons _ ((perm_front (j := 2) rfl).trans (.cons _ (.refl _)))))))))) hz1 (ho_up ho hap H) (ap_turn hap ho H (L := [.blk b50 (([.string ⟨(e47.name).toArray⟩, VI e47.kind] : List Value) ++ ((e47.of.1).map V8 ++ (([VI e47.size] : List Value)))) 54, .own a9 l11.length c10 ((l11).flatMap itE) 54 35, .blk wb ([.map (some z1.mo), .map (some z1.mm), VI (z1.n : Int), .bool z1.tl, .slice (hd z1.fa) z1.fs.length z1.fc, VI 0]) 70, .obj z1.mo (mobj kA z1.Mo z1.co), .obj z1.mm (mobj kA z1.Mm z1.cm), .own z1.fa z1.fs.length z1.fc ((z1.fs).flatMap flE) 48 3]) (L1 := [.blk wb ([.map (some z1.mo), .map (some z1.mm), VI (z1.n : Int), .bool z1.tl, .slice (hd z1.fa) z1.fs.length z1.fc, VI 0]) 70, .obj z1.mo (mobj kA z1.Mo z1.co), .obj z1.mm (mobj kA z1.Mm z1.cm), .own z1.fa z1.fs.length z1.fc ((z1.fs).flatMap flE) 48 3]) (Lr := ([.blk b50 (([.string ⟨(e47.name).toArray⟩, VI e47.kind] : List Value) ++ ((e47.of.1).map V8 ++ (([VI e47.size] : List Value)))) 54, .own a9 l11.length c10 ((l11).flatMap itE) 54 35] : List Ch)) (T := z1.T) ((perm_front (j := 2) rfl).trans (.cons _ ((perm_front (j := 2) rfl).trans (.cons _ ((perm_front (j := 2) rfl).trans (.cons _ ((perm_front (j := 2) rfl).trans (.cons _ (.refl _)))))))))) _ hr1 e47.of e47.size (wkid (⟨2, k, sz, dp, tp⟩ : Todo) e47).path ((p ++ e47.name) ++ ([47] : List UInt8)) (kid_path hpp h1) (by have := hnm.1; simp only [List.length_append, List.length_singleton]; omega)) ?_)
            rintro _ w ⟨zz52, ee53, hzz54, htt55, hrr56, Hc⟩
            replace H := H.callT (L1' := [.blk wb ([.map (some zz52.mo), .map (some zz52.mm), VI (zz52.n : Int), .bool zz52.tl, .slice (hd zz52.fa) zz52.fs.length zz52.fc, VI ee53]) 70, .obj zz52.mo (mobj kA zz52.Mo zz52.co), .obj zz52.mm (mobj kA zz52.Mm zz52.cm), .own zz52.fa zz52.fs.length zz52.fc ((zz52.fs).flatMap flE) 48 3]) (T' := zz52.T) (L := [.blk b50 (([.string ⟨(e47.name).toArray⟩, VI e47.kind] : List Value) ++ ((e47.of.1).map V8 ++ (([VI e47.size] : List Value)))) 54, .own a9 l11.length c10 ((l11).flatMap itE) 54 35, .blk wb ([.map (some z1.mo), .map (some z1.mm), VI (z1.n : Int), .bool z1.tl, .slice (hd z1.fa) z1.fs.length z1.fc, VI 0]) 70, .obj z1.mo (mobj kA z1.Mo z1.co), .obj z1.mm (mobj kA z1.Mm z1.cm), .own z1.fa z1.fs.length z1.fc ((z1.fs).flatMap flE) 48 3]) (L1 := [.blk wb ([.map (some z1.mo), .map (some z1.mm), VI (z1.n : Int), .bool z1.tl, .slice (hd z1.fa) z1.fs.length z1.fc, VI 0]) 70, .obj z1.mo (mobj kA z1.Mo z1.co), .obj z1.mm (mobj kA z1.Mm z1.cm), .own z1.fa z1.fs.length z1.fc ((z1.fs).flatMap flE) 48 3]) (Lr := ([.blk b50 (([.string ⟨(e47.name).toArray⟩, VI e47.kind] : List Value) ++ ((e47.of.1).map V8 ++ (([VI e47.size] : List Value)))) 54, .own a9 l11.length c10 ((l11).flatMap itE) 54 35] : List Ch)) (T := z1.T) ((perm_front (j := 2) rfl).trans (.cons _ ((perm_front (j := 2) rfl).trans (.cons _ ((perm_front (j := 2) rfl).trans (.cons _ ((perm_front (j := 2) rfl).trans (.cons _ (.refl _))))))))) Hc (.refl _)
            clear Hc
            replace H : Hp _ w _ (Ch.blk b50 (([.string ⟨(e47.name).toArray⟩, VI e47.kind] : List Value) ++ ((e47.of.1).map V8 ++ (([VI e47.size] : List Value)))) 54 :: Ch.own a9 l11.length c10 ((l11).flatMap itE) 54 35 :: Ch.blk wb ([.map (some zz52.mo), .map (some zz52.mm), VI (zz52.n : Int), .bool zz52.tl, .slice (hd zz52.fa) zz52.fs.length zz52.fc, VI ee53]) 70 :: Ch.obj zz52.mo (mobj kA zz52.Mo zz52.co) :: Ch.obj zz52.mm (mobj kA zz52.Mm zz52.cm) :: Ch.own zz52.fa zz52.fs.length zz52.fc ((zz52.fs).flatMap flE) 48 3 :: zz52.T) := H
            first | refine l_end ?_ | refine l_nil ?_
            repeat refine c_seq ?_
            refine c_region ?_; refine l_op (o_val r_mv ?_); refine l_op (o_val (r_nilc rfl) ?_); refine l_op (o_val (r_fa rfl fo70_5) ?_); refine l_op (o_val (r_ld (v := VI ee53) H (i := 2) rfl rfl ct37 rfl) ?_); refine l_op (o_val (r_bin (a := ee53) (b := 0) rfl rfl (fun _ => b_neq)) ?_); first | refine l_end ?_ | refine l_nil ?_
            by_cases hc57 : ee53 ≠ 0
            ·
             repeat refine c_seq ?_
             refine c_yes (by exact congrArg Value.bool (decide_eq_true hc57)) ?_; refine c_ret ?_; try dsimp only [Exit.then, Exit.inBlock]
             refine e_ret0 Try.results31 ?_
             refine ⟨_, rfl, ?_⟩
             have hne : ¬ ee53 = 0 := by omega
             rw [hopen, kids_stop he48 hSe (by omega) hr1.1.symm (by rw [(kid_dir (by omega)), ← hrr56.1]; exact hne), (kid_dir (by omega))]
             exact ⟨zz52, ee53, fun h => absurd h hne, htt55.trans htl1, hrr56, H.sub (.cons _ (.cons _ (.cons_cons _ (.cons_cons _ (.cons_cons _ (.cons_cons _ (List.Sublist.refl _)))))))⟩
            ·
             repeat refine c_seq ?_
             refine c_no (by exact congrArg Value.bool (decide_eq_false hc57)) ?_; refine c_skip ?_; repeat refine c_seq ?_
             refine c_region ?_; refine l_op (o_val (r_bin (a := (i : Int)) (b := 1) rfl rfl (fun _ => b_add (by omega) (by omega))) ?_); refine l_op (o_val r_mv ?_); first | refine l_end ?_ | refine l_nil ?_
             have he0 : ee53 = 0 := by omega
             subst he0
             refine round_end (i + 1, zz52) ?_ ?_ ?_
             · exact ⟨rfl, rfl, rfl, rfl, rfl, show VI ((i : Int) + 1) = VI ((i + 1 : Nat) : Int) from congrArg VI (by omega), trivial⟩
             · refine ⟨?_, ?_⟩
               · try dsimp only
                 exact ⟨by omega, hzz54 rfl, htt55.trans htl1, by rw [kids_next he48 hSe (by omega) hr1.1.symm, (kid_dir (by omega))]; exact hrr56⟩
               · exact H.sub (.cons _ (.cons_cons _ (.cons_cons _ (.cons_cons _ (.cons_cons _ (.cons_cons _ (List.Sublist.refl _)))))))
             · show l11.length - (i + 1 : Nat) < l11.length - i; omega
           ·
            repeat refine c_seq ?_
            refine c_no (by exact congrArg Value.bool (decide_eq_false hc51)) ?_; repeat refine c_seq ?_
            refine c_region ?_; refine l_op (o_val r_mv ?_); refine l_op (o_val (r_ldA (C := ([.string ⟨(e47.name).toArray⟩, VI e47.kind] : List Value) ++ ((e47.of.1).map V8 ++ (([VI e47.size] : List Value)))) H (i := 0) rfl rfl rt54 (by simp only [List.length_append, List.length_map, List.length_cons, List.length_nil, (show (e47.of.1).length = 32 from e47.of.2)])) ?_); refine l_op (o_val r_mv ?_); refine l_op (o_callR Try.func48 rfl rfl rfl (wfile_ret _ l wb z1 (H.ownT (L := [.blk b50 (([.string ⟨(e47.name).toArray⟩, VI e47.kind] : List Value) ++ ((e47.of.1).map V8 ++ (([VI e47.size] : List Value)))) 54, .own a9 l11.length c10 ((l11).flatMap itE) 54 35, .blk wb ([.map (some z1.mo), .map (some z1.mm), VI (z1.n : Int), .bool z1.tl, .slice (hd z1.fa) z1.fs.length z1.fc, VI 0]) 70, .obj z1.mo (mobj kA z1.Mo z1.co), .obj z1.mm (mobj kA z1.Mm z1.cm), .own z1.fa z1.fs.length z1.fc ((z1.fs).flatMap flE) 48 3]) (L1 := [.blk wb ([.map (some z1.mo), .map (some z1.mm), VI (z1.n : Int), .bool z1.tl, .slice (hd z1.fa) z1.fs.length z1.fc, VI 0]) 70, .obj z1.mo (mobj kA z1.Mo z1.co), .obj z1.mm (mobj kA z1.Mm z1.cm), .own z1.fa z1.fs.length z1.fc ((z1.fs).flatMap flE) 48 3]) (Lr := ([.blk b50 (([.string ⟨(e47.name).toArray⟩, VI e47.kind] : List Value) ++ ((e47.of.1).map V8 ++ (([VI e47.size] : List Value)))) 54, .own a9 l11.length c10 ((l11).flatMap itE) 54 35] : List Ch)) (T := z1.T) ((perm_front (j := 2) rfl).trans (.cons _ ((perm_front (j := 2) rfl).trans (.cons _ ((perm_front (j := 2) rfl).trans (.cons _ ((perm_front (j := 2) rfl).trans (.cons _ (.refl _)))))))))) hz1 (ho_up ho hap H) (ap_turn hap ho H (L := [.blk b50 (([.string ⟨(e47.name).toArray⟩, VI e47.kind] : List Value) ++ ((e47.of.1).map V8 ++ (([VI e47.size] : List Value)))) 54, .own a9 l11.length c10 ((l11).flatMap itE) 54 35, .blk wb ([.map (some z1.mo), .map (some z1.mm), VI (z1.n : Int), .bool z1.tl, .slice (hd z1.fa) z1.fs.length z1.fc, VI 0]) 70, .obj z1.mo (mobj kA z1.Mo z1.co), .obj z1.mm (mobj kA z1.Mm z1.cm), .own z1.fa z1.fs.length z1.fc ((z1.fs).flatMap flE) 48 3]) (L1 := [.blk wb ([.map (some z1.mo), .map (some z1.mm), VI (z1.n : Int), .bool z1.tl, .slice (hd z1.fa) z1.fs.length z1.fc, VI 0]) 70, .obj z1.mo (mobj kA z1.Mo z1.co), .obj z1.mm (mobj kA z1.Mm z1.cm), .own z1.fa z1.fs.length z1.fc ((z1.fs).flatMap flE) 48 3]) (Lr := ([.blk b50 (([.string ⟨(e47.name).toArray⟩, VI e47.kind] : List Value) ++ ((e47.of.1).map V8 ++ (([VI e47.size] : List Value)))) 54, .own a9 l11.length c10 ((l11).flatMap itE) 54 35] : List Ch)) (T := z1.T) ((perm_front (j := 2) rfl).trans (.cons _ ((perm_front (j := 2) rfl).trans (.cons _ ((perm_front (j := 2) rfl).trans (.cons _ ((perm_front (j := 2) rfl).trans (.cons _ (.refl _)))))))))) _ hr1 e47 p (dp + 1) (by have := hnm.1; omega)) ?_); rintro _ w ⟨zz58, ee59, hzz60, htt61, hrr62, Hc⟩
            replace H := H.callT (L1' := [.blk wb ([.map (some zz58.mo), .map (some zz58.mm), VI (zz58.n : Int), .bool zz58.tl, .slice (hd zz58.fa) zz58.fs.length zz58.fc, VI ee59]) 70, .obj zz58.mo (mobj kA zz58.Mo zz58.co), .obj zz58.mm (mobj kA zz58.Mm zz58.cm), .own zz58.fa zz58.fs.length zz58.fc ((zz58.fs).flatMap flE) 48 3]) (T' := zz58.T) (L := [.blk b50 (([.string ⟨(e47.name).toArray⟩, VI e47.kind] : List Value) ++ ((e47.of.1).map V8 ++ (([VI e47.size] : List Value)))) 54, .own a9 l11.length c10 ((l11).flatMap itE) 54 35, .blk wb ([.map (some z1.mo), .map (some z1.mm), VI (z1.n : Int), .bool z1.tl, .slice (hd z1.fa) z1.fs.length z1.fc, VI 0]) 70, .obj z1.mo (mobj kA z1.Mo z1.co), .obj z1.mm (mobj kA z1.Mm z1.cm), .own z1.fa z1.fs.length z1.fc ((z1.fs).flatMap flE) 48 3]) (L1 := [.blk wb ([.map (some z1.mo), .map (some z1.mm), VI (z1.n : Int), .bool z1.tl, .slice (hd z1.fa) z1.fs.length z1.fc, VI 0]) 70, .obj z1.mo (mobj kA z1.Mo z1.co), .obj z1.mm (mobj kA z1.Mm z1.cm), .own z1.fa z1.fs.length z1.fc ((z1.fs).flatMap flE) 48 3]) (Lr := ([.blk b50 (([.string ⟨(e47.name).toArray⟩, VI e47.kind] : List Value) ++ ((e47.of.1).map V8 ++ (([VI e47.size] : List Value)))) 54, .own a9 l11.length c10 ((l11).flatMap itE) 54 35] : List Ch)) (T := z1.T) ((perm_front (j := 2) rfl).trans (.cons _ ((perm_front (j := 2) rfl).trans (.cons _ ((perm_front (j := 2) rfl).trans (.cons _ ((perm_front (j := 2) rfl).trans (.cons _ (.refl _))))))))) Hc (.refl _)
            clear Hc
            replace H : Hp _ w _ (Ch.blk b50 (([.string ⟨(e47.name).toArray⟩, VI e47.kind] : List Value) ++ ((e47.of.1).map V8 ++ (([VI e47.size] : List Value)))) 54 :: Ch.own a9 l11.length c10 ((l11).flatMap itE) 54 35 :: Ch.blk wb ([.map (some zz58.mo), .map (some zz58.mm), VI (zz58.n : Int), .bool zz58.tl, .slice (hd zz58.fa) zz58.fs.length zz58.fc, VI ee59]) 70 :: Ch.obj zz58.mo (mobj kA zz58.Mo zz58.co) :: Ch.obj zz58.mm (mobj kA zz58.Mm zz58.cm) :: Ch.own zz58.fa zz58.fs.length zz58.fc ((zz58.fs).flatMap flE) 48 3 :: zz58.T) := H
            first | refine l_end ?_ | refine l_nil ?_
            repeat refine c_seq ?_
            refine c_region ?_; refine l_op (o_val r_mv ?_); refine l_op (o_val (r_nilc rfl) ?_); refine l_op (o_val (r_fa rfl fo70_5) ?_); refine l_op (o_val (r_ld (v := VI ee59) H (i := 2) rfl rfl ct37 rfl) ?_); refine l_op (o_val (r_bin (a := ee59) (b := 0) rfl rfl (fun _ => b_neq)) ?_); first | refine l_end ?_ | refine l_nil ?_
            by_cases hc63 : ee59 ≠ 0
            ·
             repeat refine c_seq ?_
             refine c_yes (by exact congrArg Value.bool (decide_eq_true hc63)) ?_; refine c_ret ?_; try dsimp only [Exit.then, Exit.inBlock]
             refine e_ret0 Try.results31 ?_
             refine ⟨_, rfl, ?_⟩
             have hne : ¬ ee59 = 0 := by omega
             rw [hopen, kids_stop he48 hSe (by omega) hr1.1.symm (by rw [(kid_file hpp (by omega)), ← hrr62.1]; exact hne), (kid_file hpp (by omega))]
             exact ⟨zz58, ee59, fun h => absurd h hne, htt61.trans htl1, hrr62, H.sub (.cons _ (.cons _ (.cons_cons _ (.cons_cons _ (.cons_cons _ (.cons_cons _ (List.Sublist.refl _)))))))⟩
            ·
             repeat refine c_seq ?_
             refine c_no (by exact congrArg Value.bool (decide_eq_false hc63)) ?_; refine c_skip ?_; repeat refine c_seq ?_
             refine c_region ?_; refine l_op (o_val (r_bin (a := (i : Int)) (b := 1) rfl rfl (fun _ => b_add (by omega) (by omega))) ?_); refine l_op (o_val r_mv ?_); first | refine l_end ?_ | refine l_nil ?_
             have he0 : ee59 = 0 := by omega
             subst he0
             refine round_end (i + 1, zz58) ?_ ?_ ?_
             · exact ⟨rfl, rfl, rfl, rfl, rfl, show VI ((i : Int) + 1) = VI ((i + 1 : Nat) : Int) from congrArg VI (by omega), trivial⟩
             · refine ⟨?_, ?_⟩
               · try dsimp only
                 exact ⟨by omega, hzz60 rfl, htt61.trans htl1, by rw [kids_next he48 hSe (by omega) hr1.1.symm, (kid_file hpp (by omega))]; exact hrr62⟩
               · exact H.sub (.cons _ (.cons_cons _ (.cons_cons _ (.cons_cons _ (.cons_cons _ (.cons_cons _ (List.Sublist.refl _)))))))
             · show l11.length - (i + 1 : Nat) < l11.length - i; omega
          ·
           repeat refine c_seq ?_
           refine c_no (by exact congrArg Value.bool (decide_eq_false hc44)) ?_; refine c_exit ?_; try simp only [Exit.then, Exit.inBlock, ↓reduceIte]
           refine e_norm ?_; refine e_ret0 Try.results31 ?_
           refine ⟨_, rfl, ?_⟩
           rw [List.take_of_length_le (by omega)] at hr1
           rw [hopen]
           exact ⟨z1, 0, fun _ => hz1, htl1, hr1, H.sub (.cons _ (.cons_cons _ (.cons_cons _ (.cons_cons _ (.cons_cons _ (List.Sublist.refl _))))))⟩
        ·
         repeat refine c_seq ?_
         refine c_no (by exact congrArg Value.bool hc17) ?_; refine c_skip ?_; repeat refine c_seq ?_
         refine c_region ?_; refine l_op (o_val r_mv ?_); refine l_op (o_val (r_lens el52 rfl) ?_); refine l_op (o_val r_mv ?_); first | refine l_end ?_ | refine l_nil ?_
         repeat refine c_seq ?_
         refine c_block ?_; repeat refine c_seq ?_
         refine c_loop2 (fun (i : Nat) (z1 : WY) => [(0, .pointer (some ⟨wb, 0, none⟩)), (2, .string ⟨(p).toArray⟩), (3, VI (dp : Int)), (64, .slice (hd a9) l11.length c10), (65, VI (l11.length : Int)), (66, VI (i : Int))])
           (fun (i : Nat) (z1 : WY) w => (i ≤ l11.length ∧ z1.ok l ∧ z1.tl = z.tl ∧ Rel z1 0 (wlkAll (obL l) ((l11.take i).map (wkid (⟨2, k, sz, dp, tp⟩ : Todo))) S0)) ∧ Hp w0 w (keys (wch wb z 0)) (Ch.own a9 l11.length c10 ((l11).flatMap itE) 54 35 :: Ch.blk wb ([.map (some z1.mo), .map (some z1.mm), VI (z1.n : Int), .bool z1.tl, .slice (hd z1.fa) z1.fs.length z1.fc, VI 0]) 70 :: Ch.obj z1.mo (mobj kA z1.Mo z1.co) :: Ch.obj z1.mm (mobj kA z1.Mm z1.cm) :: Ch.own z1.fa z1.fs.length z1.fc ((z1.fs).flatMap flE) 48 3 :: z1.T))
           (fun (i : Nat) (z1 : WY) => l11.length - i) 0 (⟨z.mo, z.Mo, z.co, z.mm, mm5, mc6, fput z.G k ((z.G k).getD 0 + 1), (z.n + 1), z.tl, z.fa, z.fc, z.fs⟩ : WY) ⟨rfl, rfl, rfl, rfl, rfl, rfl, trivial⟩ ⟨⟨Nat.zero_le _, ⟨hz.hO, hz.hOk, hmf7, hmo8, bd_put hz.bd k, by show z.n + 1 ≤ 1024; omega, hz.fat, by show z.fs.length ≤ z.n + 1; omega⟩, rfl, by rw [List.take_zero, List.map_nil, wlkAll_nil]; exact ⟨hSe.symm, fun _ => ⟨by rw [hSm]; exact congrArg (· + 1) hrn, by rw [hSn]; exact keys_put hrg k, fun ht => by rw [hSf, if_neg (by rintro ⟨h1, h2⟩; first | (have h3 := congrArg List.length h1; rw [List.length_nil] at h3; omega) | omega | exact absurd (show z.tl = true from ht) (by rw [hc17]; decide)), List.append_nil]; exact hrf ht⟩⟩⟩, (H.sub (.cons_cons _ (.cons _ (.cons_cons _ (.cons_cons _ (.cons_cons _ (.cons_cons _ (List.Sublist.refl _))))))))⟩ ?_
         clear H
         rintro i z1 τ w ⟨⟨hil, hz1, htl1, hr1⟩, H⟩
         repeat refine c_seq ?_
         refine c_region ?_; refine l_op (o_val (r_bin (a := (i : Int)) (b := (l11.length : Int)) rfl rfl (fun _ => b_lss)) ?_); first | refine l_end ?_ | refine l_nil ?_
         by_cases hc64 : (i : Int) < (l11.length : Int)
         ·
          repeat refine c_seq ?_
          refine c_yes (by exact congrArg Value.bool (decide_eq_true hc64)) ?_; refine c_skip ?_; repeat refine c_seq ?_
          refine c_block ?_; repeat refine c_seq ?_
          refine c_region ?_; have ah66 := H.ownAddr (i := 0) rfl (by omega)
          obtain ⟨ab65, ah66⟩ := ah66
          refine l_op (o_val (r_isN i rfl rfl el52 ah66 (by omega) (by (try simp only [Sl.cut]); omega)) ?_); have he68 : ∃ c, (l11)[i]? = some c := ⟨_, List.getElem?_eq_getElem (by have := ((H.glOwn (i := 0) rfl (by decide) (fun c _ => itE_len c))).ln; (try dsimp only at this ⊢); omega)⟩
          obtain ⟨e67, he68⟩ := he68
          have hez69 := ((H.glOwn (i := 0) rfl (by decide) (fun c _ => itE_len c))).sz e67 (List.mem_of_getElem? he68)
          refine l_op (o_val (r_ldRow (s := (⟨hd a9, l11.length, c10, l11⟩ : Gl It)) (k := i) (H.glOwn (i := 0) rfl (by decide) (fun c _ => itE_len c)) ah66 rfl rt54 (by decide) he68) ?_); refine l_op (o_alloc H zc54 (fun b70 w H hb70 => ?_)); replace H := H.rot
          replace H : Hp _ w _ (Ch.blk b70 (([.string ⟨(([] : List UInt8)).toArray⟩, VI 0] : List Value) ++ ((List.replicate 32 (0 : UInt8)).map V8 ++ (([VI 0] : List Value)))) 54 :: Ch.own a9 l11.length c10 ((l11).flatMap itE) 54 35 :: Ch.blk wb ([.map (some z1.mo), .map (some z1.mm), VI (z1.n : Int), .bool z1.tl, .slice (hd z1.fa) z1.fs.length z1.fc, VI 0]) 70 :: Ch.obj z1.mo (mobj kA z1.Mo z1.co) :: Ch.obj z1.mm (mobj kA z1.Mm z1.cm) :: Ch.own z1.fa z1.fs.length z1.fc ((z1.fs).flatMap flE) 48 3 :: z1.T) := H
          refine l_op (o_stW (C' := ([.string ⟨(e67.name).toArray⟩, VI e67.kind] : List Value) ++ ((e67.of.1).map V8 ++ (([VI e67.size] : List Value)))) H (i := 0) rfl rfl rfl cs54 (by first | (simp [Value.oneCell', List.all_append, List.all_map]; done) | (simp only [List.all_append, List.all_cons, List.all_nil, List.all_map]; simp [Value.oneCell', Function.comp_def])) (by simp only [List.length_append, List.length_map, List.length_cons, List.length_nil, (show (List.replicate 32 (0 : UInt8)).length = 32 from (List.length_replicate ..))]) (by simp only [List.length_append, List.length_map, List.length_cons, List.length_nil, (show (e67.of.1).length = 32 from e67.of.2)]) (fun w H => ?_)); replace H : Hp _ w _ (Ch.blk b70 (([.string ⟨(e67.name).toArray⟩, VI e67.kind] : List Value) ++ ((e67.of.1).map V8 ++ (([VI e67.size] : List Value)))) 54 :: Ch.own a9 l11.length c10 ((l11).flatMap itE) 54 35 :: Ch.blk wb ([.map (some z1.mo), .map (some z1.mm), VI (z1.n : Int), .bool z1.tl, .slice (hd z1.fa) z1.fs.length z1.fc, VI 0]) 70 :: Ch.obj z1.mo (mobj kA z1.Mo z1.co) :: Ch.obj z1.mm (mobj kA z1.Mm z1.cm) :: Ch.own z1.fa z1.fs.length z1.fc ((z1.fs).flatMap flE) 48 3 :: z1.T) := H
          first | refine l_end ?_ | refine l_nil ?_
          have hnm := hitf e67 (List.mem_of_getElem? he68)
          have hpx : (p ++ e67.name).length = p.length + e67.name.length := List.length_append
          repeat refine c_seq ?_
          refine c_region ?_; refine l_op (o_val (r_fa rfl fo54_1) ?_); refine l_op (o_val (r_l1 (v := VI e67.kind) H (i := 0) rfl rfl ct3 (show Cut3 (([.string ⟨(e67.name).toArray⟩, VI e67.kind] : List Value) ++ ((e67.of.1).map V8 ++ (([VI e67.size] : List Value)))) (([.string ⟨(e67.name).toArray⟩] : List Value)) (([VI e67.kind] : List Value)) ((e67.of.1).map V8 ++ (([VI e67.size] : List Value))) 1 1 from ⟨(show ([.string ⟨(e67.name).toArray⟩, VI e67.kind] : List Value) ++ ((e67.of.1).map V8 ++ (([VI e67.size] : List Value))) = ([.string ⟨(e67.name).toArray⟩] : List Value) ++ ((([VI e67.kind] : List Value)) ++ ((e67.of.1).map V8 ++ (([VI e67.size] : List Value)))) from by simp only [List.cons_append, List.nil_append]), (by rfl), (by rfl)⟩)) ?_); refine l_op (o_val (r_bin (a := e67.kind) (b := 2) rfl rfl (fun _ => b_eql)) ?_); first | refine l_end ?_ | refine l_nil ?_
          by_cases hc71 : e67.kind = 2
          ·
           repeat refine c_seq ?_
           refine c_yes (by exact congrArg Value.bool (decide_eq_true hc71)) ?_; repeat refine c_seq ?_
           refine c_region ?_; refine l_op (o_val r_mv ?_); refine l_op (o_val (r_fa rfl fo54_2) ?_); refine l_op (o_val (r_lk H (i := 0) rfl rfl rt29 (show Cut3 (([.string ⟨(e67.name).toArray⟩, VI e67.kind] : List Value) ++ ((e67.of.1).map V8 ++ (([VI e67.size] : List Value)))) (([.string ⟨(e67.name).toArray⟩, VI e67.kind] : List Value)) ((e67.of.1).map V8) (([VI e67.size] : List Value)) 2 32 from ⟨(show ([.string ⟨(e67.name).toArray⟩, VI e67.kind] : List Value) ++ ((e67.of.1).map V8 ++ (([VI e67.size] : List Value))) = ([.string ⟨(e67.name).toArray⟩, VI e67.kind] : List Value) ++ (((e67.of.1).map V8) ++ (([VI e67.size] : List Value))) from by simp only [List.cons_append, List.nil_append]), (by rfl), (by simp only [List.length_map, (show (e67.of.1).length = 32 from e67.of.2)])⟩)) ?_); refine l_op (o_val r_mv ?_); refine l_op (o_val (r_fa rfl fo54_0) ?_); refine l_op (o_val (r_l1 (v := .string ⟨(e67.name).toArray⟩) H (i := 0) rfl rfl ct9 (show Cut3 (([.string ⟨(e67.name).toArray⟩, VI e67.kind] : List Value) ++ ((e67.of.1).map V8 ++ (([VI e67.size] : List Value)))) (([] : List Value)) (([.string ⟨(e67.name).toArray⟩] : List Value)) (([VI e67.kind] : List Value) ++ ((e67.of.1).map V8 ++ (([VI e67.size] : List Value)))) 0 1 from ⟨(show ([.string ⟨(e67.name).toArray⟩, VI e67.kind] : List Value) ++ ((e67.of.1).map V8 ++ (([VI e67.size] : List Value))) = ([] : List Value) ++ ((([.string ⟨(e67.name).toArray⟩] : List Value)) ++ (([VI e67.kind] : List Value) ++ ((e67.of.1).map V8 ++ (([VI e67.size] : List Value))))) from by simp only [List.cons_append, List.nil_append]), (by rfl), (by rfl)⟩)) ?_); refine l_op (o_val (r_stradd (a := p) (b := e67.name) rfl rfl (by (try simp only [List.length_cons, List.length_nil]); omega)) ?_); refine l_op (o_val (r_stradd (a := p ++ e67.name) (b := ([47] : List UInt8)) rfl rfl (by (try simp only [List.length_cons, List.length_nil]); omega)) ?_); refine l_op (o_val r_mv ?_); refine l_op (o_val (r_bin (a := (dp : Int)) (b := 1) rfl rfl (fun _ => b_add (by omega) (by omega))) ?_); refine l_op (o_callR Try.func31 rfl rfl rfl (hi (by omega) _ wb z1 (H.ownT (L := [.blk b70 (([.string ⟨(e67.name).toArray⟩, VI e67.kind] : List Value) ++ ((e67.of.1).map V8 ++ (([VI e67.size] : List Value)))) 54, .own a9 l11.length c10 ((l11).flatMap itE) 54 35, .blk wb ([.map (some z1.mo), .map (some z1.mm), VI (z1.n : Int), .bool z1.tl, .slice (hd z1.fa) z1.fs.length z1.fc, VI 0]) 70, .obj z1.mo (mobj kA z1.Mo z1.co), .obj z1.mm (mobj kA z1.Mm z1.cm), .own z1.fa z1.fs.length z1.fc ((z1.fs).flatMap flE) 48 3]) (L1 := [.blk wb ([.map (some z1.mo), .map (some z1.mm), VI (z1.n : Int), .bool z1.tl, .slice (hd z1.fa) z1.fs.length z1.fc, VI 0]) 70, .obj z1.mo (mobj kA z1.Mo z1.co), .obj z1.mm (mobj kA z1.Mm z1.cm), .own z1.fa z1.fs.length z1.fc ((z1.fs).flatMap flE) 48 3]) (Lr := ([.blk b70 (([.string ⟨(e67.name).toArray⟩, VI e67.kind] : List Value) ++ ((e67.of.1).map V8 ++ (([VI e67.size] : List Value)))) 54, .own a9 l11.length c10 ((l11).flatMap itE) 54 35] : List Ch)) (T := z1.T) ((perm_front (j := 2) rfl).trans (.cons _ ((perm_front (j := 2) rfl).trans (.cons _ ((perm_front (j := 2) rfl).trans (.cons _ ((perm_front (j := 2) rfl).trans (.cons _ (.refl _)))))))))) hz1 (ho_up ho hap H) (ap_turn hap ho H (L := [.blk b70 (([.string ⟨(e67.name).toArray⟩, VI e67.kind] : List Value) ++ ((e67.of.1).map V8 ++ (([VI e67.size] : List Value)))) 54, .own a9 l11.length c10 ((l11).flatMap itE) 54 35, .blk wb ([.map (some z1.mo), .map (some z1.mm), VI (z1.n : Int), .bool z1.tl, .slice (hd z1.fa) z1.fs.length z1.fc, VI 0]) 70, .obj z1.mo (mobj kA z1.Mo z1.co), .obj z1.mm (mobj kA z1.Mm z1.cm), .own z1.fa z1.fs.length z1.fc ((z1.fs).flatMap flE) 48 3]) (L1 := [.blk wb ([.map (some z1.mo), .map (some z1.mm), VI (z1.n : Int), .bool z1.tl, .slice (hd z1.fa) z1.fs.length z1.fc, VI 0]) 70, .obj z1.mo (mobj kA z1.Mo z1.co), .obj z1.mm (mobj kA z1.Mm z1.cm), .own z1.fa z1.fs.length z1.fc ((z1.fs).flatMap flE) 48 3]) (Lr := ([.blk b70 (([.string ⟨(e67.name).toArray⟩, VI e67.kind] : List Value) ++ ((e67.of.1).map V8 ++ (([VI e67.size] : List Value)))) 54, .own a9 l11.length c10 ((l11).flatMap itE) 54 35] : List Ch)) (T := z1.T) ((perm_front (j := 2) rfl).trans (.cons _ ((perm_front (j := 2) rfl).trans (.cons _ ((perm_front (j := 2) rfl).trans (.cons _ ((perm_front (j := 2) rfl).trans (.cons _ (.refl _)))))))))) _ hr1 e67.of e67.size (wkid (⟨2, k, sz, dp, tp⟩ : Todo) e67).path ((p ++ e67.name) ++ ([47] : List UInt8)) (kid_path hpp h1) (by have := hnm.1; simp only [List.length_append, List.length_singleton]; omega)) ?_)
           rintro _ w ⟨zz72, ee73, hzz74, htt75, hrr76, Hc⟩
           replace H := H.callT (L1' := [.blk wb ([.map (some zz72.mo), .map (some zz72.mm), VI (zz72.n : Int), .bool zz72.tl, .slice (hd zz72.fa) zz72.fs.length zz72.fc, VI ee73]) 70, .obj zz72.mo (mobj kA zz72.Mo zz72.co), .obj zz72.mm (mobj kA zz72.Mm zz72.cm), .own zz72.fa zz72.fs.length zz72.fc ((zz72.fs).flatMap flE) 48 3]) (T' := zz72.T) (L := [.blk b70 (([.string ⟨(e67.name).toArray⟩, VI e67.kind] : List Value) ++ ((e67.of.1).map V8 ++ (([VI e67.size] : List Value)))) 54, .own a9 l11.length c10 ((l11).flatMap itE) 54 35, .blk wb ([.map (some z1.mo), .map (some z1.mm), VI (z1.n : Int), .bool z1.tl, .slice (hd z1.fa) z1.fs.length z1.fc, VI 0]) 70, .obj z1.mo (mobj kA z1.Mo z1.co), .obj z1.mm (mobj kA z1.Mm z1.cm), .own z1.fa z1.fs.length z1.fc ((z1.fs).flatMap flE) 48 3]) (L1 := [.blk wb ([.map (some z1.mo), .map (some z1.mm), VI (z1.n : Int), .bool z1.tl, .slice (hd z1.fa) z1.fs.length z1.fc, VI 0]) 70, .obj z1.mo (mobj kA z1.Mo z1.co), .obj z1.mm (mobj kA z1.Mm z1.cm), .own z1.fa z1.fs.length z1.fc ((z1.fs).flatMap flE) 48 3]) (Lr := ([.blk b70 (([.string ⟨(e67.name).toArray⟩, VI e67.kind] : List Value) ++ ((e67.of.1).map V8 ++ (([VI e67.size] : List Value)))) 54, .own a9 l11.length c10 ((l11).flatMap itE) 54 35] : List Ch)) (T := z1.T) ((perm_front (j := 2) rfl).trans (.cons _ ((perm_front (j := 2) rfl).trans (.cons _ ((perm_front (j := 2) rfl).trans (.cons _ ((perm_front (j := 2) rfl).trans (.cons _ (.refl _))))))))) Hc (.refl _)
           clear Hc
           replace H : Hp _ w _ (Ch.blk b70 (([.string ⟨(e67.name).toArray⟩, VI e67.kind] : List Value) ++ ((e67.of.1).map V8 ++ (([VI e67.size] : List Value)))) 54 :: Ch.own a9 l11.length c10 ((l11).flatMap itE) 54 35 :: Ch.blk wb ([.map (some zz72.mo), .map (some zz72.mm), VI (zz72.n : Int), .bool zz72.tl, .slice (hd zz72.fa) zz72.fs.length zz72.fc, VI ee73]) 70 :: Ch.obj zz72.mo (mobj kA zz72.Mo zz72.co) :: Ch.obj zz72.mm (mobj kA zz72.Mm zz72.cm) :: Ch.own zz72.fa zz72.fs.length zz72.fc ((zz72.fs).flatMap flE) 48 3 :: zz72.T) := H
           first | refine l_end ?_ | refine l_nil ?_
           repeat refine c_seq ?_
           refine c_region ?_; refine l_op (o_val r_mv ?_); refine l_op (o_val (r_nilc rfl) ?_); refine l_op (o_val (r_fa rfl fo70_5) ?_); refine l_op (o_val (r_ld (v := VI ee73) H (i := 2) rfl rfl ct37 rfl) ?_); refine l_op (o_val (r_bin (a := ee73) (b := 0) rfl rfl (fun _ => b_neq)) ?_); first | refine l_end ?_ | refine l_nil ?_
           by_cases hc77 : ee73 ≠ 0
           ·
            repeat refine c_seq ?_
            refine c_yes (by exact congrArg Value.bool (decide_eq_true hc77)) ?_; refine c_ret ?_; try dsimp only [Exit.then, Exit.inBlock]
            refine e_ret0 Try.results31 ?_
            refine ⟨_, rfl, ?_⟩
            have hne : ¬ ee73 = 0 := by omega
            rw [hopen, kids_stop he68 hSe (by omega) hr1.1.symm (by rw [(kid_dir (by omega)), ← hrr76.1]; exact hne), (kid_dir (by omega))]
            exact ⟨zz72, ee73, fun h => absurd h hne, htt75.trans htl1, hrr76, H.sub (.cons _ (.cons _ (.cons_cons _ (.cons_cons _ (.cons_cons _ (.cons_cons _ (List.Sublist.refl _)))))))⟩
           ·
            repeat refine c_seq ?_
            refine c_no (by exact congrArg Value.bool (decide_eq_false hc77)) ?_; refine c_skip ?_; repeat refine c_seq ?_
            refine c_region ?_; refine l_op (o_val (r_bin (a := (i : Int)) (b := 1) rfl rfl (fun _ => b_add (by omega) (by omega))) ?_); refine l_op (o_val r_mv ?_); first | refine l_end ?_ | refine l_nil ?_
            have he0 : ee73 = 0 := by omega
            subst he0
            refine round_end (i + 1, zz72) ?_ ?_ ?_
            · exact ⟨rfl, rfl, rfl, rfl, rfl, show VI ((i : Int) + 1) = VI ((i + 1 : Nat) : Int) from congrArg VI (by omega), trivial⟩
            · refine ⟨?_, ?_⟩
              · try dsimp only
                exact ⟨by omega, hzz74 rfl, htt75.trans htl1, by rw [kids_next he68 hSe (by omega) hr1.1.symm, (kid_dir (by omega))]; exact hrr76⟩
              · exact H.sub (.cons _ (.cons_cons _ (.cons_cons _ (.cons_cons _ (.cons_cons _ (.cons_cons _ (List.Sublist.refl _)))))))
            · show l11.length - (i + 1 : Nat) < l11.length - i; omega
          ·
           repeat refine c_seq ?_
           refine c_no (by exact congrArg Value.bool (decide_eq_false hc71)) ?_; repeat refine c_seq ?_
           refine c_region ?_; refine l_op (o_val r_mv ?_); refine l_op (o_val (r_ldA (C := ([.string ⟨(e67.name).toArray⟩, VI e67.kind] : List Value) ++ ((e67.of.1).map V8 ++ (([VI e67.size] : List Value)))) H (i := 0) rfl rfl rt54 (by simp only [List.length_append, List.length_map, List.length_cons, List.length_nil, (show (e67.of.1).length = 32 from e67.of.2)])) ?_); refine l_op (o_val r_mv ?_); refine l_op (o_callR Try.func48 rfl rfl rfl (wfile_ret _ l wb z1 (H.ownT (L := [.blk b70 (([.string ⟨(e67.name).toArray⟩, VI e67.kind] : List Value) ++ ((e67.of.1).map V8 ++ (([VI e67.size] : List Value)))) 54, .own a9 l11.length c10 ((l11).flatMap itE) 54 35, .blk wb ([.map (some z1.mo), .map (some z1.mm), VI (z1.n : Int), .bool z1.tl, .slice (hd z1.fa) z1.fs.length z1.fc, VI 0]) 70, .obj z1.mo (mobj kA z1.Mo z1.co), .obj z1.mm (mobj kA z1.Mm z1.cm), .own z1.fa z1.fs.length z1.fc ((z1.fs).flatMap flE) 48 3]) (L1 := [.blk wb ([.map (some z1.mo), .map (some z1.mm), VI (z1.n : Int), .bool z1.tl, .slice (hd z1.fa) z1.fs.length z1.fc, VI 0]) 70, .obj z1.mo (mobj kA z1.Mo z1.co), .obj z1.mm (mobj kA z1.Mm z1.cm), .own z1.fa z1.fs.length z1.fc ((z1.fs).flatMap flE) 48 3]) (Lr := ([.blk b70 (([.string ⟨(e67.name).toArray⟩, VI e67.kind] : List Value) ++ ((e67.of.1).map V8 ++ (([VI e67.size] : List Value)))) 54, .own a9 l11.length c10 ((l11).flatMap itE) 54 35] : List Ch)) (T := z1.T) ((perm_front (j := 2) rfl).trans (.cons _ ((perm_front (j := 2) rfl).trans (.cons _ ((perm_front (j := 2) rfl).trans (.cons _ ((perm_front (j := 2) rfl).trans (.cons _ (.refl _)))))))))) hz1 (ho_up ho hap H) (ap_turn hap ho H (L := [.blk b70 (([.string ⟨(e67.name).toArray⟩, VI e67.kind] : List Value) ++ ((e67.of.1).map V8 ++ (([VI e67.size] : List Value)))) 54, .own a9 l11.length c10 ((l11).flatMap itE) 54 35, .blk wb ([.map (some z1.mo), .map (some z1.mm), VI (z1.n : Int), .bool z1.tl, .slice (hd z1.fa) z1.fs.length z1.fc, VI 0]) 70, .obj z1.mo (mobj kA z1.Mo z1.co), .obj z1.mm (mobj kA z1.Mm z1.cm), .own z1.fa z1.fs.length z1.fc ((z1.fs).flatMap flE) 48 3]) (L1 := [.blk wb ([.map (some z1.mo), .map (some z1.mm), VI (z1.n : Int), .bool z1.tl, .slice (hd z1.fa) z1.fs.length z1.fc, VI 0]) 70, .obj z1.mo (mobj kA z1.Mo z1.co), .obj z1.mm (mobj kA z1.Mm z1.cm), .own z1.fa z1.fs.length z1.fc ((z1.fs).flatMap flE) 48 3]) (Lr := ([.blk b70 (([.string ⟨(e67.name).toArray⟩, VI e67.kind] : List Value) ++ ((e67.of.1).map V8 ++ (([VI e67.size] : List Value)))) 54, .own a9 l11.length c10 ((l11).flatMap itE) 54 35] : List Ch)) (T := z1.T) ((perm_front (j := 2) rfl).trans (.cons _ ((perm_front (j := 2) rfl).trans (.cons _ ((perm_front (j := 2) rfl).trans (.cons _ ((perm_front (j := 2) rfl).trans (.cons _ (.refl _)))))))))) _ hr1 e67 p (dp + 1) (by have := hnm.1; omega)) ?_); rintro _ w ⟨zz78, ee79, hzz80, htt81, hrr82, Hc⟩
           replace H := H.callT (L1' := [.blk wb ([.map (some zz78.mo), .map (some zz78.mm), VI (zz78.n : Int), .bool zz78.tl, .slice (hd zz78.fa) zz78.fs.length zz78.fc, VI ee79]) 70, .obj zz78.mo (mobj kA zz78.Mo zz78.co), .obj zz78.mm (mobj kA zz78.Mm zz78.cm), .own zz78.fa zz78.fs.length zz78.fc ((zz78.fs).flatMap flE) 48 3]) (T' := zz78.T) (L := [.blk b70 (([.string ⟨(e67.name).toArray⟩, VI e67.kind] : List Value) ++ ((e67.of.1).map V8 ++ (([VI e67.size] : List Value)))) 54, .own a9 l11.length c10 ((l11).flatMap itE) 54 35, .blk wb ([.map (some z1.mo), .map (some z1.mm), VI (z1.n : Int), .bool z1.tl, .slice (hd z1.fa) z1.fs.length z1.fc, VI 0]) 70, .obj z1.mo (mobj kA z1.Mo z1.co), .obj z1.mm (mobj kA z1.Mm z1.cm), .own z1.fa z1.fs.length z1.fc ((z1.fs).flatMap flE) 48 3]) (L1 := [.blk wb ([.map (some z1.mo), .map (some z1.mm), VI (z1.n : Int), .bool z1.tl, .slice (hd z1.fa) z1.fs.length z1.fc, VI 0]) 70, .obj z1.mo (mobj kA z1.Mo z1.co), .obj z1.mm (mobj kA z1.Mm z1.cm), .own z1.fa z1.fs.length z1.fc ((z1.fs).flatMap flE) 48 3]) (Lr := ([.blk b70 (([.string ⟨(e67.name).toArray⟩, VI e67.kind] : List Value) ++ ((e67.of.1).map V8 ++ (([VI e67.size] : List Value)))) 54, .own a9 l11.length c10 ((l11).flatMap itE) 54 35] : List Ch)) (T := z1.T) ((perm_front (j := 2) rfl).trans (.cons _ ((perm_front (j := 2) rfl).trans (.cons _ ((perm_front (j := 2) rfl).trans (.cons _ ((perm_front (j := 2) rfl).trans (.cons _ (.refl _))))))))) Hc (.refl _)
           clear Hc
           replace H : Hp _ w _ (Ch.blk b70 (([.string ⟨(e67.name).toArray⟩, VI e67.kind] : List Value) ++ ((e67.of.1).map V8 ++ (([VI e67.size] : List Value)))) 54 :: Ch.own a9 l11.length c10 ((l11).flatMap itE) 54 35 :: Ch.blk wb ([.map (some zz78.mo), .map (some zz78.mm), VI (zz78.n : Int), .bool zz78.tl, .slice (hd zz78.fa) zz78.fs.length zz78.fc, VI ee79]) 70 :: Ch.obj zz78.mo (mobj kA zz78.Mo zz78.co) :: Ch.obj zz78.mm (mobj kA zz78.Mm zz78.cm) :: Ch.own zz78.fa zz78.fs.length zz78.fc ((zz78.fs).flatMap flE) 48 3 :: zz78.T) := H
           first | refine l_end ?_ | refine l_nil ?_
           repeat refine c_seq ?_
           refine c_region ?_; refine l_op (o_val r_mv ?_); refine l_op (o_val (r_nilc rfl) ?_); refine l_op (o_val (r_fa rfl fo70_5) ?_); refine l_op (o_val (r_ld (v := VI ee79) H (i := 2) rfl rfl ct37 rfl) ?_); refine l_op (o_val (r_bin (a := ee79) (b := 0) rfl rfl (fun _ => b_neq)) ?_); first | refine l_end ?_ | refine l_nil ?_
           by_cases hc83 : ee79 ≠ 0
           ·
            repeat refine c_seq ?_
            refine c_yes (by exact congrArg Value.bool (decide_eq_true hc83)) ?_; refine c_ret ?_; try dsimp only [Exit.then, Exit.inBlock]
            refine e_ret0 Try.results31 ?_
            refine ⟨_, rfl, ?_⟩
            have hne : ¬ ee79 = 0 := by omega
            rw [hopen, kids_stop he68 hSe (by omega) hr1.1.symm (by rw [(kid_file hpp (by omega)), ← hrr82.1]; exact hne), (kid_file hpp (by omega))]
            exact ⟨zz78, ee79, fun h => absurd h hne, htt81.trans htl1, hrr82, H.sub (.cons _ (.cons _ (.cons_cons _ (.cons_cons _ (.cons_cons _ (.cons_cons _ (List.Sublist.refl _)))))))⟩
           ·
            repeat refine c_seq ?_
            refine c_no (by exact congrArg Value.bool (decide_eq_false hc83)) ?_; refine c_skip ?_; repeat refine c_seq ?_
            refine c_region ?_; refine l_op (o_val (r_bin (a := (i : Int)) (b := 1) rfl rfl (fun _ => b_add (by omega) (by omega))) ?_); refine l_op (o_val r_mv ?_); first | refine l_end ?_ | refine l_nil ?_
            have he0 : ee79 = 0 := by omega
            subst he0
            refine round_end (i + 1, zz78) ?_ ?_ ?_
            · exact ⟨rfl, rfl, rfl, rfl, rfl, show VI ((i : Int) + 1) = VI ((i + 1 : Nat) : Int) from congrArg VI (by omega), trivial⟩
            · refine ⟨?_, ?_⟩
              · try dsimp only
                exact ⟨by omega, hzz80 rfl, htt81.trans htl1, by rw [kids_next he68 hSe (by omega) hr1.1.symm, (kid_file hpp (by omega))]; exact hrr82⟩
              · exact H.sub (.cons _ (.cons_cons _ (.cons_cons _ (.cons_cons _ (.cons_cons _ (.cons_cons _ (List.Sublist.refl _)))))))
            · show l11.length - (i + 1 : Nat) < l11.length - i; omega
         ·
          repeat refine c_seq ?_
          refine c_no (by exact congrArg Value.bool (decide_eq_false hc64)) ?_; refine c_exit ?_; try simp only [Exit.then, Exit.inBlock, ↓reduceIte]
          refine e_norm ?_; refine e_ret0 Try.results31 ?_
          refine ⟨_, rfl, ?_⟩
          rw [List.take_of_length_le (by omega)] at hr1
          rw [hopen]
          exact ⟨z1, 0, fun _ => hz1, htl1, hr1, H.sub (.cons _ (.cons_cons _ (.cons_cons _ (.cons_cons _ (.cons_cons _ (List.Sublist.refl _))))))⟩
       ·
        refine l_no rfl rfl (by exact congrArg Value.bool (decide_eq_false hc16)) rfl ?_; refine l_no rfl rfl (by exact congrArg Value.bool (decide_eq_false hc16)) rfl ?_; refine l_no rfl rfl (by exact congrArg Value.bool (decide_eq_false hc16)) rfl ?_; refine l_no rfl rfl (by exact congrArg Value.bool (decide_eq_false hc16)) rfl ?_; refine l_op (o_val (r_pick (b := false) (congrArg Value.bool (decide_eq_false hc16))) ?_); first | refine l_end ?_ | refine l_nil ?_
        repeat refine c_seq ?_
        refine c_no rfl ?_; refine c_skip ?_; repeat refine c_seq ?_
        refine c_region ?_; refine l_op (o_val r_mv ?_); refine l_op (o_val (r_lens el52 rfl) ?_); refine l_op (o_val r_mv ?_); first | refine l_end ?_ | refine l_nil ?_
        repeat refine c_seq ?_
        refine c_block ?_; repeat refine c_seq ?_
        refine c_loop2 (fun (i : Nat) (z1 : WY) => [(0, .pointer (some ⟨wb, 0, none⟩)), (2, .string ⟨(p).toArray⟩), (3, VI (dp : Int)), (64, .slice (hd a9) l11.length c10), (65, VI (l11.length : Int)), (66, VI (i : Int))])
          (fun (i : Nat) (z1 : WY) w => (i ≤ l11.length ∧ z1.ok l ∧ z1.tl = z.tl ∧ Rel z1 0 (wlkAll (obL l) ((l11.take i).map (wkid (⟨2, k, sz, dp, tp⟩ : Todo))) S0)) ∧ Hp w0 w (keys (wch wb z 0)) (Ch.own a9 l11.length c10 ((l11).flatMap itE) 54 35 :: Ch.blk wb ([.map (some z1.mo), .map (some z1.mm), VI (z1.n : Int), .bool z1.tl, .slice (hd z1.fa) z1.fs.length z1.fc, VI 0]) 70 :: Ch.obj z1.mo (mobj kA z1.Mo z1.co) :: Ch.obj z1.mm (mobj kA z1.Mm z1.cm) :: Ch.own z1.fa z1.fs.length z1.fc ((z1.fs).flatMap flE) 48 3 :: z1.T))
          (fun (i : Nat) (z1 : WY) => l11.length - i) 0 (⟨z.mo, z.Mo, z.co, z.mm, mm5, mc6, fput z.G k ((z.G k).getD 0 + 1), (z.n + 1), z.tl, z.fa, z.fc, z.fs⟩ : WY) ⟨rfl, rfl, rfl, rfl, rfl, rfl, trivial⟩ ⟨⟨Nat.zero_le _, ⟨hz.hO, hz.hOk, hmf7, hmo8, bd_put hz.bd k, by show z.n + 1 ≤ 1024; omega, hz.fat, by show z.fs.length ≤ z.n + 1; omega⟩, rfl, by rw [List.take_zero, List.map_nil, wlkAll_nil]; exact ⟨hSe.symm, fun _ => ⟨by rw [hSm]; exact congrArg (· + 1) hrn, by rw [hSn]; exact keys_put hrg k, fun ht => by rw [hSf, if_neg (by rintro ⟨h1, h2⟩; first | (have h3 := congrArg List.length h1; rw [List.length_nil] at h3; omega) | omega), List.append_nil]; exact hrf ht⟩⟩⟩, (H.sub (.cons_cons _ (.cons _ (.cons_cons _ (.cons_cons _ (.cons_cons _ (.cons_cons _ (List.Sublist.refl _))))))))⟩ ?_
        clear H
        rintro i z1 τ w ⟨⟨hil, hz1, htl1, hr1⟩, H⟩
        repeat refine c_seq ?_
        refine c_region ?_; refine l_op (o_val (r_bin (a := (i : Int)) (b := (l11.length : Int)) rfl rfl (fun _ => b_lss)) ?_); first | refine l_end ?_ | refine l_nil ?_
        by_cases hc84 : (i : Int) < (l11.length : Int)
        ·
         repeat refine c_seq ?_
         refine c_yes (by exact congrArg Value.bool (decide_eq_true hc84)) ?_; refine c_skip ?_; repeat refine c_seq ?_
         refine c_block ?_; repeat refine c_seq ?_
         refine c_region ?_; have ah86 := H.ownAddr (i := 0) rfl (by omega)
         obtain ⟨ab85, ah86⟩ := ah86
         refine l_op (o_val (r_isN i rfl rfl el52 ah86 (by omega) (by (try simp only [Sl.cut]); omega)) ?_); have he88 : ∃ c, (l11)[i]? = some c := ⟨_, List.getElem?_eq_getElem (by have := ((H.glOwn (i := 0) rfl (by decide) (fun c _ => itE_len c))).ln; (try dsimp only at this ⊢); omega)⟩
         obtain ⟨e87, he88⟩ := he88
         have hez89 := ((H.glOwn (i := 0) rfl (by decide) (fun c _ => itE_len c))).sz e87 (List.mem_of_getElem? he88)
         refine l_op (o_val (r_ldRow (s := (⟨hd a9, l11.length, c10, l11⟩ : Gl It)) (k := i) (H.glOwn (i := 0) rfl (by decide) (fun c _ => itE_len c)) ah86 rfl rt54 (by decide) he88) ?_); refine l_op (o_alloc H zc54 (fun b90 w H hb90 => ?_)); replace H := H.rot
         replace H : Hp _ w _ (Ch.blk b90 (([.string ⟨(([] : List UInt8)).toArray⟩, VI 0] : List Value) ++ ((List.replicate 32 (0 : UInt8)).map V8 ++ (([VI 0] : List Value)))) 54 :: Ch.own a9 l11.length c10 ((l11).flatMap itE) 54 35 :: Ch.blk wb ([.map (some z1.mo), .map (some z1.mm), VI (z1.n : Int), .bool z1.tl, .slice (hd z1.fa) z1.fs.length z1.fc, VI 0]) 70 :: Ch.obj z1.mo (mobj kA z1.Mo z1.co) :: Ch.obj z1.mm (mobj kA z1.Mm z1.cm) :: Ch.own z1.fa z1.fs.length z1.fc ((z1.fs).flatMap flE) 48 3 :: z1.T) := H
         refine l_op (o_stW (C' := ([.string ⟨(e87.name).toArray⟩, VI e87.kind] : List Value) ++ ((e87.of.1).map V8 ++ (([VI e87.size] : List Value)))) H (i := 0) rfl rfl rfl cs54 (by first | (simp [Value.oneCell', List.all_append, List.all_map]; done) | (simp only [List.all_append, List.all_cons, List.all_nil, List.all_map]; simp [Value.oneCell', Function.comp_def])) (by simp only [List.length_append, List.length_map, List.length_cons, List.length_nil, (show (List.replicate 32 (0 : UInt8)).length = 32 from (List.length_replicate ..))]) (by simp only [List.length_append, List.length_map, List.length_cons, List.length_nil, (show (e87.of.1).length = 32 from e87.of.2)]) (fun w H => ?_)); replace H : Hp _ w _ (Ch.blk b90 (([.string ⟨(e87.name).toArray⟩, VI e87.kind] : List Value) ++ ((e87.of.1).map V8 ++ (([VI e87.size] : List Value)))) 54 :: Ch.own a9 l11.length c10 ((l11).flatMap itE) 54 35 :: Ch.blk wb ([.map (some z1.mo), .map (some z1.mm), VI (z1.n : Int), .bool z1.tl, .slice (hd z1.fa) z1.fs.length z1.fc, VI 0]) 70 :: Ch.obj z1.mo (mobj kA z1.Mo z1.co) :: Ch.obj z1.mm (mobj kA z1.Mm z1.cm) :: Ch.own z1.fa z1.fs.length z1.fc ((z1.fs).flatMap flE) 48 3 :: z1.T) := H
         first | refine l_end ?_ | refine l_nil ?_
         have hnm := hitf e87 (List.mem_of_getElem? he88)
         have hpx : (p ++ e87.name).length = p.length + e87.name.length := List.length_append
         repeat refine c_seq ?_
         refine c_region ?_; refine l_op (o_val (r_fa rfl fo54_1) ?_); refine l_op (o_val (r_l1 (v := VI e87.kind) H (i := 0) rfl rfl ct3 (show Cut3 (([.string ⟨(e87.name).toArray⟩, VI e87.kind] : List Value) ++ ((e87.of.1).map V8 ++ (([VI e87.size] : List Value)))) (([.string ⟨(e87.name).toArray⟩] : List Value)) (([VI e87.kind] : List Value)) ((e87.of.1).map V8 ++ (([VI e87.size] : List Value))) 1 1 from ⟨(show ([.string ⟨(e87.name).toArray⟩, VI e87.kind] : List Value) ++ ((e87.of.1).map V8 ++ (([VI e87.size] : List Value))) = ([.string ⟨(e87.name).toArray⟩] : List Value) ++ ((([VI e87.kind] : List Value)) ++ ((e87.of.1).map V8 ++ (([VI e87.size] : List Value)))) from by simp only [List.cons_append, List.nil_append]), (by rfl), (by rfl)⟩)) ?_); refine l_op (o_val (r_bin (a := e87.kind) (b := 2) rfl rfl (fun _ => b_eql)) ?_); first | refine l_end ?_ | refine l_nil ?_
         by_cases hc91 : e87.kind = 2
         ·
          repeat refine c_seq ?_
          refine c_yes (by exact congrArg Value.bool (decide_eq_true hc91)) ?_; repeat refine c_seq ?_
          refine c_region ?_; refine l_op (o_val r_mv ?_); refine l_op (o_val (r_fa rfl fo54_2) ?_); refine l_op (o_val (r_lk H (i := 0) rfl rfl rt29 (show Cut3 (([.string ⟨(e87.name).toArray⟩, VI e87.kind] : List Value) ++ ((e87.of.1).map V8 ++ (([VI e87.size] : List Value)))) (([.string ⟨(e87.name).toArray⟩, VI e87.kind] : List Value)) ((e87.of.1).map V8) (([VI e87.size] : List Value)) 2 32 from ⟨(show ([.string ⟨(e87.name).toArray⟩, VI e87.kind] : List Value) ++ ((e87.of.1).map V8 ++ (([VI e87.size] : List Value))) = ([.string ⟨(e87.name).toArray⟩, VI e87.kind] : List Value) ++ (((e87.of.1).map V8) ++ (([VI e87.size] : List Value))) from by simp only [List.cons_append, List.nil_append]), (by rfl), (by simp only [List.length_map, (show (e87.of.1).length = 32 from e87.of.2)])⟩)) ?_); refine l_op (o_val r_mv ?_); refine l_op (o_val (r_fa rfl fo54_0) ?_); refine l_op (o_val (r_l1 (v := .string ⟨(e87.name).toArray⟩) H (i := 0) rfl rfl ct9 (show Cut3 (([.string ⟨(e87.name).toArray⟩, VI e87.kind] : List Value) ++ ((e87.of.1).map V8 ++ (([VI e87.size] : List Value)))) (([] : List Value)) (([.string ⟨(e87.name).toArray⟩] : List Value)) (([VI e87.kind] : List Value) ++ ((e87.of.1).map V8 ++ (([VI e87.size] : List Value)))) 0 1 from ⟨(show ([.string ⟨(e87.name).toArray⟩, VI e87.kind] : List Value) ++ ((e87.of.1).map V8 ++ (([VI e87.size] : List Value))) = ([] : List Value) ++ ((([.string ⟨(e87.name).toArray⟩] : List Value)) ++ (([VI e87.kind] : List Value) ++ ((e87.of.1).map V8 ++ (([VI e87.size] : List Value))))) from by simp only [List.cons_append, List.nil_append]), (by rfl), (by rfl)⟩)) ?_); refine l_op (o_val (r_stradd (a := p) (b := e87.name) rfl rfl (by (try simp only [List.length_cons, List.length_nil]); omega)) ?_); refine l_op (o_val (r_stradd (a := p ++ e87.name) (b := ([47] : List UInt8)) rfl rfl (by (try simp only [List.length_cons, List.length_nil]); omega)) ?_); refine l_op (o_val r_mv ?_); refine l_op (o_val (r_bin (a := (dp : Int)) (b := 1) rfl rfl (fun _ => b_add (by omega) (by omega))) ?_); refine l_op (o_callR Try.func31 rfl rfl rfl (hi (by omega) _ wb z1 (H.ownT (L := [.blk b90 (([.string ⟨(e87.name).toArray⟩, VI e87.kind] : List Value) ++ ((e87.of.1).map V8 ++ (([VI e87.size] : List Value)))) 54, .own a9 l11.length c10 ((l11).flatMap itE) 54 35, .blk wb ([.map (some z1.mo), .map (some z1.mm), VI (z1.n : Int), .bool z1.tl, .slice (hd z1.fa) z1.fs.length z1.fc, VI 0]) 70, .obj z1.mo (mobj kA z1.Mo z1.co), .obj z1.mm (mobj kA z1.Mm z1.cm), .own z1.fa z1.fs.length z1.fc ((z1.fs).flatMap flE) 48 3]) (L1 := [.blk wb ([.map (some z1.mo), .map (some z1.mm), VI (z1.n : Int), .bool z1.tl, .slice (hd z1.fa) z1.fs.length z1.fc, VI 0]) 70, .obj z1.mo (mobj kA z1.Mo z1.co), .obj z1.mm (mobj kA z1.Mm z1.cm), .own z1.fa z1.fs.length z1.fc ((z1.fs).flatMap flE) 48 3]) (Lr := ([.blk b90 (([.string ⟨(e87.name).toArray⟩, VI e87.kind] : List Value) ++ ((e87.of.1).map V8 ++ (([VI e87.size] : List Value)))) 54, .own a9 l11.length c10 ((l11).flatMap itE) 54 35] : List Ch)) (T := z1.T) ((perm_front (j := 2) rfl).trans (.cons _ ((perm_front (j := 2) rfl).trans (.cons _ ((perm_front (j := 2) rfl).trans (.cons _ ((perm_front (j := 2) rfl).trans (.cons _ (.refl _)))))))))) hz1 (ho_up ho hap H) (ap_turn hap ho H (L := [.blk b90 (([.string ⟨(e87.name).toArray⟩, VI e87.kind] : List Value) ++ ((e87.of.1).map V8 ++ (([VI e87.size] : List Value)))) 54, .own a9 l11.length c10 ((l11).flatMap itE) 54 35, .blk wb ([.map (some z1.mo), .map (some z1.mm), VI (z1.n : Int), .bool z1.tl, .slice (hd z1.fa) z1.fs.length z1.fc, VI 0]) 70, .obj z1.mo (mobj kA z1.Mo z1.co), .obj z1.mm (mobj kA z1.Mm z1.cm), .own z1.fa z1.fs.length z1.fc ((z1.fs).flatMap flE) 48 3]) (L1 := [.blk wb ([.map (some z1.mo), .map (some z1.mm), VI (z1.n : Int), .bool z1.tl, .slice (hd z1.fa) z1.fs.length z1.fc, VI 0]) 70, .obj z1.mo (mobj kA z1.Mo z1.co), .obj z1.mm (mobj kA z1.Mm z1.cm), .own z1.fa z1.fs.length z1.fc ((z1.fs).flatMap flE) 48 3]) (Lr := ([.blk b90 (([.string ⟨(e87.name).toArray⟩, VI e87.kind] : List Value) ++ ((e87.of.1).map V8 ++ (([VI e87.size] : List Value)))) 54, .own a9 l11.length c10 ((l11).flatMap itE) 54 35] : List Ch)) (T := z1.T) ((perm_front (j := 2) rfl).trans (.cons _ ((perm_front (j := 2) rfl).trans (.cons _ ((perm_front (j := 2) rfl).trans (.cons _ ((perm_front (j := 2) rfl).trans (.cons _ (.refl _)))))))))) _ hr1 e87.of e87.size (wkid (⟨2, k, sz, dp, tp⟩ : Todo) e87).path ((p ++ e87.name) ++ ([47] : List UInt8)) (kid_path hpp h1) (by have := hnm.1; simp only [List.length_append, List.length_singleton]; omega)) ?_)
          rintro _ w ⟨zz92, ee93, hzz94, htt95, hrr96, Hc⟩
          replace H := H.callT (L1' := [.blk wb ([.map (some zz92.mo), .map (some zz92.mm), VI (zz92.n : Int), .bool zz92.tl, .slice (hd zz92.fa) zz92.fs.length zz92.fc, VI ee93]) 70, .obj zz92.mo (mobj kA zz92.Mo zz92.co), .obj zz92.mm (mobj kA zz92.Mm zz92.cm), .own zz92.fa zz92.fs.length zz92.fc ((zz92.fs).flatMap flE) 48 3]) (T' := zz92.T) (L := [.blk b90 (([.string ⟨(e87.name).toArray⟩, VI e87.kind] : List Value) ++ ((e87.of.1).map V8 ++ (([VI e87.size] : List Value)))) 54, .own a9 l11.length c10 ((l11).flatMap itE) 54 35, .blk wb ([.map (some z1.mo), .map (some z1.mm), VI (z1.n : Int), .bool z1.tl, .slice (hd z1.fa) z1.fs.length z1.fc, VI 0]) 70, .obj z1.mo (mobj kA z1.Mo z1.co), .obj z1.mm (mobj kA z1.Mm z1.cm), .own z1.fa z1.fs.length z1.fc ((z1.fs).flatMap flE) 48 3]) (L1 := [.blk wb ([.map (some z1.mo), .map (some z1.mm), VI (z1.n : Int), .bool z1.tl, .slice (hd z1.fa) z1.fs.length z1.fc, VI 0]) 70, .obj z1.mo (mobj kA z1.Mo z1.co), .obj z1.mm (mobj kA z1.Mm z1.cm), .own z1.fa z1.fs.length z1.fc ((z1.fs).flatMap flE) 48 3]) (Lr := ([.blk b90 (([.string ⟨(e87.name).toArray⟩, VI e87.kind] : List Value) ++ ((e87.of.1).map V8 ++ (([VI e87.size] : List Value)))) 54, .own a9 l11.length c10 ((l11).flatMap itE) 54 35] : List Ch)) (T := z1.T) ((perm_front (j := 2) rfl).trans (.cons _ ((perm_front (j := 2) rfl).trans (.cons _ ((perm_front (j := 2) rfl).trans (.cons _ ((perm_front (j := 2) rfl).trans (.cons _ (.refl _))))))))) Hc (.refl _)
          clear Hc
          replace H : Hp _ w _ (Ch.blk b90 (([.string ⟨(e87.name).toArray⟩, VI e87.kind] : List Value) ++ ((e87.of.1).map V8 ++ (([VI e87.size] : List Value)))) 54 :: Ch.own a9 l11.length c10 ((l11).flatMap itE) 54 35 :: Ch.blk wb ([.map (some zz92.mo), .map (some zz92.mm), VI (zz92.n : Int), .bool zz92.tl, .slice (hd zz92.fa) zz92.fs.length zz92.fc, VI ee93]) 70 :: Ch.obj zz92.mo (mobj kA zz92.Mo zz92.co) :: Ch.obj zz92.mm (mobj kA zz92.Mm zz92.cm) :: Ch.own zz92.fa zz92.fs.length zz92.fc ((zz92.fs).flatMap flE) 48 3 :: zz92.T) := H
          first | refine l_end ?_ | refine l_nil ?_
          repeat refine c_seq ?_
          refine c_region ?_; refine l_op (o_val r_mv ?_); refine l_op (o_val (r_nilc rfl) ?_); refine l_op (o_val (r_fa rfl fo70_5) ?_); refine l_op (o_val (r_ld (v := VI ee93) H (i := 2) rfl rfl ct37 rfl) ?_); refine l_op (o_val (r_bin (a := ee93) (b := 0) rfl rfl (fun _ => b_neq)) ?_); first | refine l_end ?_ | refine l_nil ?_
          by_cases hc97 : ee93 ≠ 0
          ·
           repeat refine c_seq ?_
           refine c_yes (by exact congrArg Value.bool (decide_eq_true hc97)) ?_; refine c_ret ?_; try dsimp only [Exit.then, Exit.inBlock]
           refine e_ret0 Try.results31 ?_
           refine ⟨_, rfl, ?_⟩
           have hne : ¬ ee93 = 0 := by omega
           rw [hopen, kids_stop he88 hSe (by omega) hr1.1.symm (by rw [(kid_dir (by omega)), ← hrr96.1]; exact hne), (kid_dir (by omega))]
           exact ⟨zz92, ee93, fun h => absurd h hne, htt95.trans htl1, hrr96, H.sub (.cons _ (.cons _ (.cons_cons _ (.cons_cons _ (.cons_cons _ (.cons_cons _ (List.Sublist.refl _)))))))⟩
          ·
           repeat refine c_seq ?_
           refine c_no (by exact congrArg Value.bool (decide_eq_false hc97)) ?_; refine c_skip ?_; repeat refine c_seq ?_
           refine c_region ?_; refine l_op (o_val (r_bin (a := (i : Int)) (b := 1) rfl rfl (fun _ => b_add (by omega) (by omega))) ?_); refine l_op (o_val r_mv ?_); first | refine l_end ?_ | refine l_nil ?_
           have he0 : ee93 = 0 := by omega
           subst he0
           refine round_end (i + 1, zz92) ?_ ?_ ?_
           · exact ⟨rfl, rfl, rfl, rfl, rfl, show VI ((i : Int) + 1) = VI ((i + 1 : Nat) : Int) from congrArg VI (by omega), trivial⟩
           · refine ⟨?_, ?_⟩
             · try dsimp only
               exact ⟨by omega, hzz94 rfl, htt95.trans htl1, by rw [kids_next he88 hSe (by omega) hr1.1.symm, (kid_dir (by omega))]; exact hrr96⟩
             · exact H.sub (.cons _ (.cons_cons _ (.cons_cons _ (.cons_cons _ (.cons_cons _ (.cons_cons _ (List.Sublist.refl _)))))))
           · show l11.length - (i + 1 : Nat) < l11.length - i; omega
         ·
          repeat refine c_seq ?_
          refine c_no (by exact congrArg Value.bool (decide_eq_false hc91)) ?_; repeat refine c_seq ?_
          refine c_region ?_; refine l_op (o_val r_mv ?_); refine l_op (o_val (r_ldA (C := ([.string ⟨(e87.name).toArray⟩, VI e87.kind] : List Value) ++ ((e87.of.1).map V8 ++ (([VI e87.size] : List Value)))) H (i := 0) rfl rfl rt54 (by simp only [List.length_append, List.length_map, List.length_cons, List.length_nil, (show (e87.of.1).length = 32 from e87.of.2)])) ?_); refine l_op (o_val r_mv ?_); refine l_op (o_callR Try.func48 rfl rfl rfl (wfile_ret _ l wb z1 (H.ownT (L := [.blk b90 (([.string ⟨(e87.name).toArray⟩, VI e87.kind] : List Value) ++ ((e87.of.1).map V8 ++ (([VI e87.size] : List Value)))) 54, .own a9 l11.length c10 ((l11).flatMap itE) 54 35, .blk wb ([.map (some z1.mo), .map (some z1.mm), VI (z1.n : Int), .bool z1.tl, .slice (hd z1.fa) z1.fs.length z1.fc, VI 0]) 70, .obj z1.mo (mobj kA z1.Mo z1.co), .obj z1.mm (mobj kA z1.Mm z1.cm), .own z1.fa z1.fs.length z1.fc ((z1.fs).flatMap flE) 48 3]) (L1 := [.blk wb ([.map (some z1.mo), .map (some z1.mm), VI (z1.n : Int), .bool z1.tl, .slice (hd z1.fa) z1.fs.length z1.fc, VI 0]) 70, .obj z1.mo (mobj kA z1.Mo z1.co), .obj z1.mm (mobj kA z1.Mm z1.cm), .own z1.fa z1.fs.length z1.fc ((z1.fs).flatMap flE) 48 3]) (Lr := ([.blk b90 (([.string ⟨(e87.name).toArray⟩, VI e87.kind] : List Value) ++ ((e87.of.1).map V8 ++ (([VI e87.size] : List Value)))) 54, .own a9 l11.length c10 ((l11).flatMap itE) 54 35] : List Ch)) (T := z1.T) ((perm_front (j := 2) rfl).trans (.cons _ ((perm_front (j := 2) rfl).trans (.cons _ ((perm_front (j := 2) rfl).trans (.cons _ ((perm_front (j := 2) rfl).trans (.cons _ (.refl _)))))))))) hz1 (ho_up ho hap H) (ap_turn hap ho H (L := [.blk b90 (([.string ⟨(e87.name).toArray⟩, VI e87.kind] : List Value) ++ ((e87.of.1).map V8 ++ (([VI e87.size] : List Value)))) 54, .own a9 l11.length c10 ((l11).flatMap itE) 54 35, .blk wb ([.map (some z1.mo), .map (some z1.mm), VI (z1.n : Int), .bool z1.tl, .slice (hd z1.fa) z1.fs.length z1.fc, VI 0]) 70, .obj z1.mo (mobj kA z1.Mo z1.co), .obj z1.mm (mobj kA z1.Mm z1.cm), .own z1.fa z1.fs.length z1.fc ((z1.fs).flatMap flE) 48 3]) (L1 := [.blk wb ([.map (some z1.mo), .map (some z1.mm), VI (z1.n : Int), .bool z1.tl, .slice (hd z1.fa) z1.fs.length z1.fc, VI 0]) 70, .obj z1.mo (mobj kA z1.Mo z1.co), .obj z1.mm (mobj kA z1.Mm z1.cm), .own z1.fa z1.fs.length z1.fc ((z1.fs).flatMap flE) 48 3]) (Lr := ([.blk b90 (([.string ⟨(e87.name).toArray⟩, VI e87.kind] : List Value) ++ ((e87.of.1).map V8 ++ (([VI e87.size] : List Value)))) 54, .own a9 l11.length c10 ((l11).flatMap itE) 54 35] : List Ch)) (T := z1.T) ((perm_front (j := 2) rfl).trans (.cons _ ((perm_front (j := 2) rfl).trans (.cons _ ((perm_front (j := 2) rfl).trans (.cons _ ((perm_front (j := 2) rfl).trans (.cons _ (.refl _)))))))))) _ hr1 e87 p (dp + 1) (by have := hnm.1; omega)) ?_); rintro _ w ⟨zz98, ee99, hzz100, htt101, hrr102, Hc⟩
          replace H := H.callT (L1' := [.blk wb ([.map (some zz98.mo), .map (some zz98.mm), VI (zz98.n : Int), .bool zz98.tl, .slice (hd zz98.fa) zz98.fs.length zz98.fc, VI ee99]) 70, .obj zz98.mo (mobj kA zz98.Mo zz98.co), .obj zz98.mm (mobj kA zz98.Mm zz98.cm), .own zz98.fa zz98.fs.length zz98.fc ((zz98.fs).flatMap flE) 48 3]) (T' := zz98.T) (L := [.blk b90 (([.string ⟨(e87.name).toArray⟩, VI e87.kind] : List Value) ++ ((e87.of.1).map V8 ++ (([VI e87.size] : List Value)))) 54, .own a9 l11.length c10 ((l11).flatMap itE) 54 35, .blk wb ([.map (some z1.mo), .map (some z1.mm), VI (z1.n : Int), .bool z1.tl, .slice (hd z1.fa) z1.fs.length z1.fc, VI 0]) 70, .obj z1.mo (mobj kA z1.Mo z1.co), .obj z1.mm (mobj kA z1.Mm z1.cm), .own z1.fa z1.fs.length z1.fc ((z1.fs).flatMap flE) 48 3]) (L1 := [.blk wb ([.map (some z1.mo), .map (some z1.mm), VI (z1.n : Int), .bool z1.tl, .slice (hd z1.fa) z1.fs.length z1.fc, VI 0]) 70, .obj z1.mo (mobj kA z1.Mo z1.co), .obj z1.mm (mobj kA z1.Mm z1.cm), .own z1.fa z1.fs.length z1.fc ((z1.fs).flatMap flE) 48 3]) (Lr := ([.blk b90 (([.string ⟨(e87.name).toArray⟩, VI e87.kind] : List Value) ++ ((e87.of.1).map V8 ++ (([VI e87.size] : List Value)))) 54, .own a9 l11.length c10 ((l11).flatMap itE) 54 35] : List Ch)) (T := z1.T) ((perm_front (j := 2) rfl).trans (.cons _ ((perm_front (j := 2) rfl).trans (.cons _ ((perm_front (j := 2) rfl).trans (.cons _ ((perm_front (j := 2) rfl).trans (.cons _ (.refl _))))))))) Hc (.refl _)
          clear Hc
          replace H : Hp _ w _ (Ch.blk b90 (([.string ⟨(e87.name).toArray⟩, VI e87.kind] : List Value) ++ ((e87.of.1).map V8 ++ (([VI e87.size] : List Value)))) 54 :: Ch.own a9 l11.length c10 ((l11).flatMap itE) 54 35 :: Ch.blk wb ([.map (some zz98.mo), .map (some zz98.mm), VI (zz98.n : Int), .bool zz98.tl, .slice (hd zz98.fa) zz98.fs.length zz98.fc, VI ee99]) 70 :: Ch.obj zz98.mo (mobj kA zz98.Mo zz98.co) :: Ch.obj zz98.mm (mobj kA zz98.Mm zz98.cm) :: Ch.own zz98.fa zz98.fs.length zz98.fc ((zz98.fs).flatMap flE) 48 3 :: zz98.T) := H
          first | refine l_end ?_ | refine l_nil ?_
          repeat refine c_seq ?_
          refine c_region ?_; refine l_op (o_val r_mv ?_); refine l_op (o_val (r_nilc rfl) ?_); refine l_op (o_val (r_fa rfl fo70_5) ?_); refine l_op (o_val (r_ld (v := VI ee99) H (i := 2) rfl rfl ct37 rfl) ?_); refine l_op (o_val (r_bin (a := ee99) (b := 0) rfl rfl (fun _ => b_neq)) ?_); first | refine l_end ?_ | refine l_nil ?_
          by_cases hc103 : ee99 ≠ 0
          ·
           repeat refine c_seq ?_
           refine c_yes (by exact congrArg Value.bool (decide_eq_true hc103)) ?_; refine c_ret ?_; try dsimp only [Exit.then, Exit.inBlock]
           refine e_ret0 Try.results31 ?_
           refine ⟨_, rfl, ?_⟩
           have hne : ¬ ee99 = 0 := by omega
           rw [hopen, kids_stop he88 hSe (by omega) hr1.1.symm (by rw [(kid_file hpp (by omega)), ← hrr102.1]; exact hne), (kid_file hpp (by omega))]
           exact ⟨zz98, ee99, fun h => absurd h hne, htt101.trans htl1, hrr102, H.sub (.cons _ (.cons _ (.cons_cons _ (.cons_cons _ (.cons_cons _ (.cons_cons _ (List.Sublist.refl _)))))))⟩
          ·
           repeat refine c_seq ?_
           refine c_no (by exact congrArg Value.bool (decide_eq_false hc103)) ?_; refine c_skip ?_; repeat refine c_seq ?_
           refine c_region ?_; refine l_op (o_val (r_bin (a := (i : Int)) (b := 1) rfl rfl (fun _ => b_add (by omega) (by omega))) ?_); refine l_op (o_val r_mv ?_); first | refine l_end ?_ | refine l_nil ?_
           have he0 : ee99 = 0 := by omega
           subst he0
           refine round_end (i + 1, zz98) ?_ ?_ ?_
           · exact ⟨rfl, rfl, rfl, rfl, rfl, show VI ((i : Int) + 1) = VI ((i + 1 : Nat) : Int) from congrArg VI (by omega), trivial⟩
           · refine ⟨?_, ?_⟩
             · try dsimp only
               exact ⟨by omega, hzz100 rfl, htt101.trans htl1, by rw [kids_next he88 hSe (by omega) hr1.1.symm, (kid_file hpp (by omega))]; exact hrr102⟩
             · exact H.sub (.cons _ (.cons_cons _ (.cons_cons _ (.cons_cons _ (.cons_cons _ (.cons_cons _ (List.Sublist.refl _)))))))
           · show l11.length - (i + 1 : Nat) < l11.length - i; omega
        ·
         repeat refine c_seq ?_
         refine c_no (by exact congrArg Value.bool (decide_eq_false hc84)) ?_; refine c_exit ?_; try simp only [Exit.then, Exit.inBlock, ↓reduceIte]
         refine e_norm ?_; refine e_ret0 Try.results31 ?_
         refine ⟨_, rfl, ?_⟩
         rw [List.take_of_length_le (by omega)] at hr1
         rw [hopen]
         exact ⟨z1, 0, fun _ => hz1, htl1, hr1, H.sub (.cons _ (.cons_cons _ (.cons_cons _ (.cons_cons _ (.cons_cons _ (List.Sublist.refl _))))))⟩
      ·
       refine l_no rfl rfl (by exact congrArg Value.bool (decide_eq_false hc15)) rfl ?_; refine l_no rfl rfl (by exact congrArg Value.bool (decide_eq_false hc15)) rfl ?_; refine l_op (o_val (r_pick (b := false) (congrArg Value.bool (decide_eq_false hc15))) ?_); refine l_op (o_val r_mv ?_); refine l_no rfl rfl rfl rfl ?_; refine l_no rfl rfl rfl rfl ?_; refine l_no rfl rfl rfl rfl ?_; refine l_no rfl rfl rfl rfl ?_; refine l_op (o_val (r_pick rfl) ?_); first | refine l_end ?_ | refine l_nil ?_
       repeat refine c_seq ?_
       refine c_no rfl ?_; refine c_skip ?_; repeat refine c_seq ?_
       refine c_region ?_; refine l_op (o_val r_mv ?_); refine l_op (o_val (r_lens el52 rfl) ?_); refine l_op (o_val r_mv ?_); first | refine l_end ?_ | refine l_nil ?_
       repeat refine c_seq ?_
       refine c_block ?_; repeat refine c_seq ?_
       refine c_loop2 (fun (i : Nat) (z1 : WY) => [(0, .pointer (some ⟨wb, 0, none⟩)), (2, .string ⟨(p).toArray⟩), (3, VI (dp : Int)), (64, .slice (hd a9) l11.length c10), (65, VI (l11.length : Int)), (66, VI (i : Int))])
         (fun (i : Nat) (z1 : WY) w => (i ≤ l11.length ∧ z1.ok l ∧ z1.tl = z.tl ∧ Rel z1 0 (wlkAll (obL l) ((l11.take i).map (wkid (⟨2, k, sz, dp, tp⟩ : Todo))) S0)) ∧ Hp w0 w (keys (wch wb z 0)) (Ch.own a9 l11.length c10 ((l11).flatMap itE) 54 35 :: Ch.blk wb ([.map (some z1.mo), .map (some z1.mm), VI (z1.n : Int), .bool z1.tl, .slice (hd z1.fa) z1.fs.length z1.fc, VI 0]) 70 :: Ch.obj z1.mo (mobj kA z1.Mo z1.co) :: Ch.obj z1.mm (mobj kA z1.Mm z1.cm) :: Ch.own z1.fa z1.fs.length z1.fc ((z1.fs).flatMap flE) 48 3 :: z1.T))
         (fun (i : Nat) (z1 : WY) => l11.length - i) 0 (⟨z.mo, z.Mo, z.co, z.mm, mm5, mc6, fput z.G k ((z.G k).getD 0 + 1), (z.n + 1), z.tl, z.fa, z.fc, z.fs⟩ : WY) ⟨rfl, rfl, rfl, rfl, rfl, rfl, trivial⟩ ⟨⟨Nat.zero_le _, ⟨hz.hO, hz.hOk, hmf7, hmo8, bd_put hz.bd k, by show z.n + 1 ≤ 1024; omega, hz.fat, by show z.fs.length ≤ z.n + 1; omega⟩, rfl, by rw [List.take_zero, List.map_nil, wlkAll_nil]; exact ⟨hSe.symm, fun _ => ⟨by rw [hSm]; exact congrArg (· + 1) hrn, by rw [hSn]; exact keys_put hrg k, fun ht => by rw [hSf, if_neg (by rintro ⟨h1, h2⟩; first | (have h3 := congrArg List.length h1; rw [List.length_nil] at h3; omega) | omega), List.append_nil]; exact hrf ht⟩⟩⟩, (H.sub (.cons_cons _ (.cons _ (.cons_cons _ (.cons_cons _ (.cons_cons _ (.cons_cons _ (List.Sublist.refl _))))))))⟩ ?_
       clear H
       rintro i z1 τ w ⟨⟨hil, hz1, htl1, hr1⟩, H⟩
       repeat refine c_seq ?_
       refine c_region ?_; refine l_op (o_val (r_bin (a := (i : Int)) (b := (l11.length : Int)) rfl rfl (fun _ => b_lss)) ?_); first | refine l_end ?_ | refine l_nil ?_
       by_cases hc104 : (i : Int) < (l11.length : Int)
       ·
        repeat refine c_seq ?_
        refine c_yes (by exact congrArg Value.bool (decide_eq_true hc104)) ?_; refine c_skip ?_; repeat refine c_seq ?_
        refine c_block ?_; repeat refine c_seq ?_
        refine c_region ?_; have ah106 := H.ownAddr (i := 0) rfl (by omega)
        obtain ⟨ab105, ah106⟩ := ah106
        refine l_op (o_val (r_isN i rfl rfl el52 ah106 (by omega) (by (try simp only [Sl.cut]); omega)) ?_); have he108 : ∃ c, (l11)[i]? = some c := ⟨_, List.getElem?_eq_getElem (by have := ((H.glOwn (i := 0) rfl (by decide) (fun c _ => itE_len c))).ln; (try dsimp only at this ⊢); omega)⟩
        obtain ⟨e107, he108⟩ := he108
        have hez109 := ((H.glOwn (i := 0) rfl (by decide) (fun c _ => itE_len c))).sz e107 (List.mem_of_getElem? he108)
        refine l_op (o_val (r_ldRow (s := (⟨hd a9, l11.length, c10, l11⟩ : Gl It)) (k := i) (H.glOwn (i := 0) rfl (by decide) (fun c _ => itE_len c)) ah106 rfl rt54 (by decide) he108) ?_); refine l_op (o_alloc H zc54 (fun b110 w H hb110 => ?_)); replace H := H.rot
        replace H : Hp _ w _ (Ch.blk b110 (([.string ⟨(([] : List UInt8)).toArray⟩, VI 0] : List Value) ++ ((List.replicate 32 (0 : UInt8)).map V8 ++ (([VI 0] : List Value)))) 54 :: Ch.own a9 l11.length c10 ((l11).flatMap itE) 54 35 :: Ch.blk wb ([.map (some z1.mo), .map (some z1.mm), VI (z1.n : Int), .bool z1.tl, .slice (hd z1.fa) z1.fs.length z1.fc, VI 0]) 70 :: Ch.obj z1.mo (mobj kA z1.Mo z1.co) :: Ch.obj z1.mm (mobj kA z1.Mm z1.cm) :: Ch.own z1.fa z1.fs.length z1.fc ((z1.fs).flatMap flE) 48 3 :: z1.T) := H
        refine l_op (o_stW (C' := ([.string ⟨(e107.name).toArray⟩, VI e107.kind] : List Value) ++ ((e107.of.1).map V8 ++ (([VI e107.size] : List Value)))) H (i := 0) rfl rfl rfl cs54 (by first | (simp [Value.oneCell', List.all_append, List.all_map]; done) | (simp only [List.all_append, List.all_cons, List.all_nil, List.all_map]; simp [Value.oneCell', Function.comp_def])) (by simp only [List.length_append, List.length_map, List.length_cons, List.length_nil, (show (List.replicate 32 (0 : UInt8)).length = 32 from (List.length_replicate ..))]) (by simp only [List.length_append, List.length_map, List.length_cons, List.length_nil, (show (e107.of.1).length = 32 from e107.of.2)]) (fun w H => ?_)); replace H : Hp _ w _ (Ch.blk b110 (([.string ⟨(e107.name).toArray⟩, VI e107.kind] : List Value) ++ ((e107.of.1).map V8 ++ (([VI e107.size] : List Value)))) 54 :: Ch.own a9 l11.length c10 ((l11).flatMap itE) 54 35 :: Ch.blk wb ([.map (some z1.mo), .map (some z1.mm), VI (z1.n : Int), .bool z1.tl, .slice (hd z1.fa) z1.fs.length z1.fc, VI 0]) 70 :: Ch.obj z1.mo (mobj kA z1.Mo z1.co) :: Ch.obj z1.mm (mobj kA z1.Mm z1.cm) :: Ch.own z1.fa z1.fs.length z1.fc ((z1.fs).flatMap flE) 48 3 :: z1.T) := H
        first | refine l_end ?_ | refine l_nil ?_
        have hnm := hitf e107 (List.mem_of_getElem? he108)
        have hpx : (p ++ e107.name).length = p.length + e107.name.length := List.length_append
        repeat refine c_seq ?_
        refine c_region ?_; refine l_op (o_val (r_fa rfl fo54_1) ?_); refine l_op (o_val (r_l1 (v := VI e107.kind) H (i := 0) rfl rfl ct3 (show Cut3 (([.string ⟨(e107.name).toArray⟩, VI e107.kind] : List Value) ++ ((e107.of.1).map V8 ++ (([VI e107.size] : List Value)))) (([.string ⟨(e107.name).toArray⟩] : List Value)) (([VI e107.kind] : List Value)) ((e107.of.1).map V8 ++ (([VI e107.size] : List Value))) 1 1 from ⟨(show ([.string ⟨(e107.name).toArray⟩, VI e107.kind] : List Value) ++ ((e107.of.1).map V8 ++ (([VI e107.size] : List Value))) = ([.string ⟨(e107.name).toArray⟩] : List Value) ++ ((([VI e107.kind] : List Value)) ++ ((e107.of.1).map V8 ++ (([VI e107.size] : List Value)))) from by simp only [List.cons_append, List.nil_append]), (by rfl), (by rfl)⟩)) ?_); refine l_op (o_val (r_bin (a := e107.kind) (b := 2) rfl rfl (fun _ => b_eql)) ?_); first | refine l_end ?_ | refine l_nil ?_
        by_cases hc111 : e107.kind = 2
        ·
         repeat refine c_seq ?_
         refine c_yes (by exact congrArg Value.bool (decide_eq_true hc111)) ?_; repeat refine c_seq ?_
         refine c_region ?_; refine l_op (o_val r_mv ?_); refine l_op (o_val (r_fa rfl fo54_2) ?_); refine l_op (o_val (r_lk H (i := 0) rfl rfl rt29 (show Cut3 (([.string ⟨(e107.name).toArray⟩, VI e107.kind] : List Value) ++ ((e107.of.1).map V8 ++ (([VI e107.size] : List Value)))) (([.string ⟨(e107.name).toArray⟩, VI e107.kind] : List Value)) ((e107.of.1).map V8) (([VI e107.size] : List Value)) 2 32 from ⟨(show ([.string ⟨(e107.name).toArray⟩, VI e107.kind] : List Value) ++ ((e107.of.1).map V8 ++ (([VI e107.size] : List Value))) = ([.string ⟨(e107.name).toArray⟩, VI e107.kind] : List Value) ++ (((e107.of.1).map V8) ++ (([VI e107.size] : List Value))) from by simp only [List.cons_append, List.nil_append]), (by rfl), (by simp only [List.length_map, (show (e107.of.1).length = 32 from e107.of.2)])⟩)) ?_); refine l_op (o_val r_mv ?_); refine l_op (o_val (r_fa rfl fo54_0) ?_); refine l_op (o_val (r_l1 (v := .string ⟨(e107.name).toArray⟩) H (i := 0) rfl rfl ct9 (show Cut3 (([.string ⟨(e107.name).toArray⟩, VI e107.kind] : List Value) ++ ((e107.of.1).map V8 ++ (([VI e107.size] : List Value)))) (([] : List Value)) (([.string ⟨(e107.name).toArray⟩] : List Value)) (([VI e107.kind] : List Value) ++ ((e107.of.1).map V8 ++ (([VI e107.size] : List Value)))) 0 1 from ⟨(show ([.string ⟨(e107.name).toArray⟩, VI e107.kind] : List Value) ++ ((e107.of.1).map V8 ++ (([VI e107.size] : List Value))) = ([] : List Value) ++ ((([.string ⟨(e107.name).toArray⟩] : List Value)) ++ (([VI e107.kind] : List Value) ++ ((e107.of.1).map V8 ++ (([VI e107.size] : List Value))))) from by simp only [List.cons_append, List.nil_append]), (by rfl), (by rfl)⟩)) ?_); refine l_op (o_val (r_stradd (a := p) (b := e107.name) rfl rfl (by (try simp only [List.length_cons, List.length_nil]); omega)) ?_); refine l_op (o_val (r_stradd (a := p ++ e107.name) (b := ([47] : List UInt8)) rfl rfl (by (try simp only [List.length_cons, List.length_nil]); omega)) ?_); refine l_op (o_val r_mv ?_); refine l_op (o_val (r_bin (a := (dp : Int)) (b := 1) rfl rfl (fun _ => b_add (by omega) (by omega))) ?_); refine l_op (o_callR Try.func31 rfl rfl rfl (hi (by omega) _ wb z1 (H.ownT (L := [.blk b110 (([.string ⟨(e107.name).toArray⟩, VI e107.kind] : List Value) ++ ((e107.of.1).map V8 ++ (([VI e107.size] : List Value)))) 54, .own a9 l11.length c10 ((l11).flatMap itE) 54 35, .blk wb ([.map (some z1.mo), .map (some z1.mm), VI (z1.n : Int), .bool z1.tl, .slice (hd z1.fa) z1.fs.length z1.fc, VI 0]) 70, .obj z1.mo (mobj kA z1.Mo z1.co), .obj z1.mm (mobj kA z1.Mm z1.cm), .own z1.fa z1.fs.length z1.fc ((z1.fs).flatMap flE) 48 3]) (L1 := [.blk wb ([.map (some z1.mo), .map (some z1.mm), VI (z1.n : Int), .bool z1.tl, .slice (hd z1.fa) z1.fs.length z1.fc, VI 0]) 70, .obj z1.mo (mobj kA z1.Mo z1.co), .obj z1.mm (mobj kA z1.Mm z1.cm), .own z1.fa z1.fs.length z1.fc ((z1.fs).flatMap flE) 48 3]) (Lr := ([.blk b110 (([.string ⟨(e107.name).toArray⟩, VI e107.kind] : List Value) ++ ((e107.of.1).map V8 ++ (([VI e107.size] : List Value)))) 54, .own a9 l11.length c10 ((l11).flatMap itE) 54 35] : List Ch)) (T := z1.T) ((perm_front (j := 2) rfl).trans (.cons _ ((perm_front (j := 2) rfl).trans (.cons _ ((perm_front (j := 2) rfl).trans (.cons _ ((perm_front (j := 2) rfl).trans (.cons _ (.refl _)))))))))) hz1 (ho_up ho hap H) (ap_turn hap ho H (L := [.blk b110 (([.string ⟨(e107.name).toArray⟩, VI e107.kind] : List Value) ++ ((e107.of.1).map V8 ++ (([VI e107.size] : List Value)))) 54, .own a9 l11.length c10 ((l11).flatMap itE) 54 35, .blk wb ([.map (some z1.mo), .map (some z1.mm), VI (z1.n : Int), .bool z1.tl, .slice (hd z1.fa) z1.fs.length z1.fc, VI 0]) 70, .obj z1.mo (mobj kA z1.Mo z1.co), .obj z1.mm (mobj kA z1.Mm z1.cm), .own z1.fa z1.fs.length z1.fc ((z1.fs).flatMap flE) 48 3]) (L1 := [.blk wb ([.map (some z1.mo), .map (some z1.mm), VI (z1.n : Int), .bool z1.tl, .slice (hd z1.fa) z1.fs.length z1.fc, VI 0]) 70, .obj z1.mo (mobj kA z1.Mo z1.co), .obj z1.mm (mobj kA z1.Mm z1.cm), .own z1.fa z1.fs.length z1.fc ((z1.fs).flatMap flE) 48 3]) (Lr := ([.blk b110 (([.string ⟨(e107.name).toArray⟩, VI e107.kind] : List Value) ++ ((e107.of.1).map V8 ++ (([VI e107.size] : List Value)))) 54, .own a9 l11.length c10 ((l11).flatMap itE) 54 35] : List Ch)) (T := z1.T) ((perm_front (j := 2) rfl).trans (.cons _ ((perm_front (j := 2) rfl).trans (.cons _ ((perm_front (j := 2) rfl).trans (.cons _ ((perm_front (j := 2) rfl).trans (.cons _ (.refl _)))))))))) _ hr1 e107.of e107.size (wkid (⟨2, k, sz, dp, tp⟩ : Todo) e107).path ((p ++ e107.name) ++ ([47] : List UInt8)) (kid_path hpp h1) (by have := hnm.1; simp only [List.length_append, List.length_singleton]; omega)) ?_)
         rintro _ w ⟨zz112, ee113, hzz114, htt115, hrr116, Hc⟩
         replace H := H.callT (L1' := [.blk wb ([.map (some zz112.mo), .map (some zz112.mm), VI (zz112.n : Int), .bool zz112.tl, .slice (hd zz112.fa) zz112.fs.length zz112.fc, VI ee113]) 70, .obj zz112.mo (mobj kA zz112.Mo zz112.co), .obj zz112.mm (mobj kA zz112.Mm zz112.cm), .own zz112.fa zz112.fs.length zz112.fc ((zz112.fs).flatMap flE) 48 3]) (T' := zz112.T) (L := [.blk b110 (([.string ⟨(e107.name).toArray⟩, VI e107.kind] : List Value) ++ ((e107.of.1).map V8 ++ (([VI e107.size] : List Value)))) 54, .own a9 l11.length c10 ((l11).flatMap itE) 54 35, .blk wb ([.map (some z1.mo), .map (some z1.mm), VI (z1.n : Int), .bool z1.tl, .slice (hd z1.fa) z1.fs.length z1.fc, VI 0]) 70, .obj z1.mo (mobj kA z1.Mo z1.co), .obj z1.mm (mobj kA z1.Mm z1.cm), .own z1.fa z1.fs.length z1.fc ((z1.fs).flatMap flE) 48 3]) (L1 := [.blk wb ([.map (some z1.mo), .map (some z1.mm), VI (z1.n : Int), .bool z1.tl, .slice (hd z1.fa) z1.fs.length z1.fc, VI 0]) 70, .obj z1.mo (mobj kA z1.Mo z1.co), .obj z1.mm (mobj kA z1.Mm z1.cm), .own z1.fa z1.fs.length z1.fc ((z1.fs).flatMap flE) 48 3]) (Lr := ([.blk b110 (([.string ⟨(e107.name).toArray⟩, VI e107.kind] : List Value) ++ ((e107.of.1).map V8 ++ (([VI e107.size] : List Value)))) 54, .own a9 l11.length c10 ((l11).flatMap itE) 54 35] : List Ch)) (T := z1.T) ((perm_front (j := 2) rfl).trans (.cons _ ((perm_front (j := 2) rfl).trans (.cons _ ((perm_front (j := 2) rfl).trans (.cons _ ((perm_front (j := 2) rfl).trans (.cons _ (.refl _))))))))) Hc (.refl _)
         clear Hc
         replace H : Hp _ w _ (Ch.blk b110 (([.string ⟨(e107.name).toArray⟩, VI e107.kind] : List Value) ++ ((e107.of.1).map V8 ++ (([VI e107.size] : List Value)))) 54 :: Ch.own a9 l11.length c10 ((l11).flatMap itE) 54 35 :: Ch.blk wb ([.map (some zz112.mo), .map (some zz112.mm), VI (zz112.n : Int), .bool zz112.tl, .slice (hd zz112.fa) zz112.fs.length zz112.fc, VI ee113]) 70 :: Ch.obj zz112.mo (mobj kA zz112.Mo zz112.co) :: Ch.obj zz112.mm (mobj kA zz112.Mm zz112.cm) :: Ch.own zz112.fa zz112.fs.length zz112.fc ((zz112.fs).flatMap flE) 48 3 :: zz112.T) := H
         first | refine l_end ?_ | refine l_nil ?_
         repeat refine c_seq ?_
         refine c_region ?_; refine l_op (o_val r_mv ?_); refine l_op (o_val (r_nilc rfl) ?_); refine l_op (o_val (r_fa rfl fo70_5) ?_); refine l_op (o_val (r_ld (v := VI ee113) H (i := 2) rfl rfl ct37 rfl) ?_); refine l_op (o_val (r_bin (a := ee113) (b := 0) rfl rfl (fun _ => b_neq)) ?_); first | refine l_end ?_ | refine l_nil ?_
         by_cases hc117 : ee113 ≠ 0
         ·
          repeat refine c_seq ?_
          refine c_yes (by exact congrArg Value.bool (decide_eq_true hc117)) ?_; refine c_ret ?_; try dsimp only [Exit.then, Exit.inBlock]
          refine e_ret0 Try.results31 ?_
          refine ⟨_, rfl, ?_⟩
          have hne : ¬ ee113 = 0 := by omega
          rw [hopen, kids_stop he108 hSe (by omega) hr1.1.symm (by rw [(kid_dir (by omega)), ← hrr116.1]; exact hne), (kid_dir (by omega))]
          exact ⟨zz112, ee113, fun h => absurd h hne, htt115.trans htl1, hrr116, H.sub (.cons _ (.cons _ (.cons_cons _ (.cons_cons _ (.cons_cons _ (.cons_cons _ (List.Sublist.refl _)))))))⟩
         ·
          repeat refine c_seq ?_
          refine c_no (by exact congrArg Value.bool (decide_eq_false hc117)) ?_; refine c_skip ?_; repeat refine c_seq ?_
          refine c_region ?_; refine l_op (o_val (r_bin (a := (i : Int)) (b := 1) rfl rfl (fun _ => b_add (by omega) (by omega))) ?_); refine l_op (o_val r_mv ?_); first | refine l_end ?_ | refine l_nil ?_
          have he0 : ee113 = 0 := by omega
          subst he0
          refine round_end (i + 1, zz112) ?_ ?_ ?_
          · exact ⟨rfl, rfl, rfl, rfl, rfl, show VI ((i : Int) + 1) = VI ((i + 1 : Nat) : Int) from congrArg VI (by omega), trivial⟩
          · refine ⟨?_, ?_⟩
            · try dsimp only
              exact ⟨by omega, hzz114 rfl, htt115.trans htl1, by rw [kids_next he108 hSe (by omega) hr1.1.symm, (kid_dir (by omega))]; exact hrr116⟩
            · exact H.sub (.cons _ (.cons_cons _ (.cons_cons _ (.cons_cons _ (.cons_cons _ (.cons_cons _ (List.Sublist.refl _)))))))
          · show l11.length - (i + 1 : Nat) < l11.length - i; omega
        ·
         repeat refine c_seq ?_
         refine c_no (by exact congrArg Value.bool (decide_eq_false hc111)) ?_; repeat refine c_seq ?_
         refine c_region ?_; refine l_op (o_val r_mv ?_); refine l_op (o_val (r_ldA (C := ([.string ⟨(e107.name).toArray⟩, VI e107.kind] : List Value) ++ ((e107.of.1).map V8 ++ (([VI e107.size] : List Value)))) H (i := 0) rfl rfl rt54 (by simp only [List.length_append, List.length_map, List.length_cons, List.length_nil, (show (e107.of.1).length = 32 from e107.of.2)])) ?_); refine l_op (o_val r_mv ?_); refine l_op (o_callR Try.func48 rfl rfl rfl (wfile_ret _ l wb z1 (H.ownT (L := [.blk b110 (([.string ⟨(e107.name).toArray⟩, VI e107.kind] : List Value) ++ ((e107.of.1).map V8 ++ (([VI e107.size] : List Value)))) 54, .own a9 l11.length c10 ((l11).flatMap itE) 54 35, .blk wb ([.map (some z1.mo), .map (some z1.mm), VI (z1.n : Int), .bool z1.tl, .slice (hd z1.fa) z1.fs.length z1.fc, VI 0]) 70, .obj z1.mo (mobj kA z1.Mo z1.co), .obj z1.mm (mobj kA z1.Mm z1.cm), .own z1.fa z1.fs.length z1.fc ((z1.fs).flatMap flE) 48 3]) (L1 := [.blk wb ([.map (some z1.mo), .map (some z1.mm), VI (z1.n : Int), .bool z1.tl, .slice (hd z1.fa) z1.fs.length z1.fc, VI 0]) 70, .obj z1.mo (mobj kA z1.Mo z1.co), .obj z1.mm (mobj kA z1.Mm z1.cm), .own z1.fa z1.fs.length z1.fc ((z1.fs).flatMap flE) 48 3]) (Lr := ([.blk b110 (([.string ⟨(e107.name).toArray⟩, VI e107.kind] : List Value) ++ ((e107.of.1).map V8 ++ (([VI e107.size] : List Value)))) 54, .own a9 l11.length c10 ((l11).flatMap itE) 54 35] : List Ch)) (T := z1.T) ((perm_front (j := 2) rfl).trans (.cons _ ((perm_front (j := 2) rfl).trans (.cons _ ((perm_front (j := 2) rfl).trans (.cons _ ((perm_front (j := 2) rfl).trans (.cons _ (.refl _)))))))))) hz1 (ho_up ho hap H) (ap_turn hap ho H (L := [.blk b110 (([.string ⟨(e107.name).toArray⟩, VI e107.kind] : List Value) ++ ((e107.of.1).map V8 ++ (([VI e107.size] : List Value)))) 54, .own a9 l11.length c10 ((l11).flatMap itE) 54 35, .blk wb ([.map (some z1.mo), .map (some z1.mm), VI (z1.n : Int), .bool z1.tl, .slice (hd z1.fa) z1.fs.length z1.fc, VI 0]) 70, .obj z1.mo (mobj kA z1.Mo z1.co), .obj z1.mm (mobj kA z1.Mm z1.cm), .own z1.fa z1.fs.length z1.fc ((z1.fs).flatMap flE) 48 3]) (L1 := [.blk wb ([.map (some z1.mo), .map (some z1.mm), VI (z1.n : Int), .bool z1.tl, .slice (hd z1.fa) z1.fs.length z1.fc, VI 0]) 70, .obj z1.mo (mobj kA z1.Mo z1.co), .obj z1.mm (mobj kA z1.Mm z1.cm), .own z1.fa z1.fs.length z1.fc ((z1.fs).flatMap flE) 48 3]) (Lr := ([.blk b110 (([.string ⟨(e107.name).toArray⟩, VI e107.kind] : List Value) ++ ((e107.of.1).map V8 ++ (([VI e107.size] : List Value)))) 54, .own a9 l11.length c10 ((l11).flatMap itE) 54 35] : List Ch)) (T := z1.T) ((perm_front (j := 2) rfl).trans (.cons _ ((perm_front (j := 2) rfl).trans (.cons _ ((perm_front (j := 2) rfl).trans (.cons _ ((perm_front (j := 2) rfl).trans (.cons _ (.refl _)))))))))) _ hr1 e107 p (dp + 1) (by have := hnm.1; omega)) ?_); rintro _ w ⟨zz118, ee119, hzz120, htt121, hrr122, Hc⟩
         replace H := H.callT (L1' := [.blk wb ([.map (some zz118.mo), .map (some zz118.mm), VI (zz118.n : Int), .bool zz118.tl, .slice (hd zz118.fa) zz118.fs.length zz118.fc, VI ee119]) 70, .obj zz118.mo (mobj kA zz118.Mo zz118.co), .obj zz118.mm (mobj kA zz118.Mm zz118.cm), .own zz118.fa zz118.fs.length zz118.fc ((zz118.fs).flatMap flE) 48 3]) (T' := zz118.T) (L := [.blk b110 (([.string ⟨(e107.name).toArray⟩, VI e107.kind] : List Value) ++ ((e107.of.1).map V8 ++ (([VI e107.size] : List Value)))) 54, .own a9 l11.length c10 ((l11).flatMap itE) 54 35, .blk wb ([.map (some z1.mo), .map (some z1.mm), VI (z1.n : Int), .bool z1.tl, .slice (hd z1.fa) z1.fs.length z1.fc, VI 0]) 70, .obj z1.mo (mobj kA z1.Mo z1.co), .obj z1.mm (mobj kA z1.Mm z1.cm), .own z1.fa z1.fs.length z1.fc ((z1.fs).flatMap flE) 48 3]) (L1 := [.blk wb ([.map (some z1.mo), .map (some z1.mm), VI (z1.n : Int), .bool z1.tl, .slice (hd z1.fa) z1.fs.length z1.fc, VI 0]) 70, .obj z1.mo (mobj kA z1.Mo z1.co), .obj z1.mm (mobj kA z1.Mm z1.cm), .own z1.fa z1.fs.length z1.fc ((z1.fs).flatMap flE) 48 3]) (Lr := ([.blk b110 (([.string ⟨(e107.name).toArray⟩, VI e107.kind] : List Value) ++ ((e107.of.1).map V8 ++ (([VI e107.size] : List Value)))) 54, .own a9 l11.length c10 ((l11).flatMap itE) 54 35] : List Ch)) (T := z1.T) ((perm_front (j := 2) rfl).trans (.cons _ ((perm_front (j := 2) rfl).trans (.cons _ ((perm_front (j := 2) rfl).trans (.cons _ ((perm_front (j := 2) rfl).trans (.cons _ (.refl _))))))))) Hc (.refl _)
         clear Hc
         replace H : Hp _ w _ (Ch.blk b110 (([.string ⟨(e107.name).toArray⟩, VI e107.kind] : List Value) ++ ((e107.of.1).map V8 ++ (([VI e107.size] : List Value)))) 54 :: Ch.own a9 l11.length c10 ((l11).flatMap itE) 54 35 :: Ch.blk wb ([.map (some zz118.mo), .map (some zz118.mm), VI (zz118.n : Int), .bool zz118.tl, .slice (hd zz118.fa) zz118.fs.length zz118.fc, VI ee119]) 70 :: Ch.obj zz118.mo (mobj kA zz118.Mo zz118.co) :: Ch.obj zz118.mm (mobj kA zz118.Mm zz118.cm) :: Ch.own zz118.fa zz118.fs.length zz118.fc ((zz118.fs).flatMap flE) 48 3 :: zz118.T) := H
         first | refine l_end ?_ | refine l_nil ?_
         repeat refine c_seq ?_
         refine c_region ?_; refine l_op (o_val r_mv ?_); refine l_op (o_val (r_nilc rfl) ?_); refine l_op (o_val (r_fa rfl fo70_5) ?_); refine l_op (o_val (r_ld (v := VI ee119) H (i := 2) rfl rfl ct37 rfl) ?_); refine l_op (o_val (r_bin (a := ee119) (b := 0) rfl rfl (fun _ => b_neq)) ?_); first | refine l_end ?_ | refine l_nil ?_
         by_cases hc123 : ee119 ≠ 0
         ·
          repeat refine c_seq ?_
          refine c_yes (by exact congrArg Value.bool (decide_eq_true hc123)) ?_; refine c_ret ?_; try dsimp only [Exit.then, Exit.inBlock]
          refine e_ret0 Try.results31 ?_
          refine ⟨_, rfl, ?_⟩
          have hne : ¬ ee119 = 0 := by omega
          rw [hopen, kids_stop he108 hSe (by omega) hr1.1.symm (by rw [(kid_file hpp (by omega)), ← hrr122.1]; exact hne), (kid_file hpp (by omega))]
          exact ⟨zz118, ee119, fun h => absurd h hne, htt121.trans htl1, hrr122, H.sub (.cons _ (.cons _ (.cons_cons _ (.cons_cons _ (.cons_cons _ (.cons_cons _ (List.Sublist.refl _)))))))⟩
         ·
          repeat refine c_seq ?_
          refine c_no (by exact congrArg Value.bool (decide_eq_false hc123)) ?_; refine c_skip ?_; repeat refine c_seq ?_
          refine c_region ?_; refine l_op (o_val (r_bin (a := (i : Int)) (b := 1) rfl rfl (fun _ => b_add (by omega) (by omega))) ?_); refine l_op (o_val r_mv ?_); first | refine l_end ?_ | refine l_nil ?_
          have he0 : ee119 = 0 := by omega
          subst he0
          refine round_end (i + 1, zz118) ?_ ?_ ?_
          · exact ⟨rfl, rfl, rfl, rfl, rfl, show VI ((i : Int) + 1) = VI ((i + 1 : Nat) : Int) from congrArg VI (by omega), trivial⟩
          · refine ⟨?_, ?_⟩
            · try dsimp only
              exact ⟨by omega, hzz120 rfl, htt121.trans htl1, by rw [kids_next he108 hSe (by omega) hr1.1.symm, (kid_file hpp (by omega))]; exact hrr122⟩
            · exact H.sub (.cons _ (.cons_cons _ (.cons_cons _ (.cons_cons _ (.cons_cons _ (.cons_cons _ (List.Sublist.refl _)))))))
          · show l11.length - (i + 1 : Nat) < l11.length - i; omega
       ·
        repeat refine c_seq ?_
        refine c_no (by exact congrArg Value.bool (decide_eq_false hc104)) ?_; refine c_exit ?_; try simp only [Exit.then, Exit.inBlock, ↓reduceIte]
        refine e_norm ?_; refine e_ret0 Try.results31 ?_
        refine ⟨_, rfl, ?_⟩
        rw [List.take_of_length_le (by omega)] at hr1
        rw [hopen]
        exact ⟨z1, 0, fun _ => hz1, htl1, hr1, H.sub (.cons _ (.cons_cons _ (.cons_cons _ (.cons_cons _ (.cons_cons _ (List.Sublist.refl _))))))⟩
    ·
     refine l_op (o_callR Try.func47 rfl rfl rfl (wobj_miss _ l wb z.mo z.co z.mm z.cm z.n z.fs.length z.fc z.Mo z.Mm z.G (hd z.fa) z.tl hz.hO hz.hOk hz.hM hz.hMk (by omega) k (by omega) hc4 (H.ownU (L := [.blk b1 ((k.1).map V8) 29, .blk wb ([.map (some z.mo), .map (some z.mm), VI (z.n : Int), .bool z.tl, .slice (hd z.fa) z.fs.length z.fc, VI 0]) 70, .obj z.mo (mobj kA z.Mo z.co), .obj z.mm (mobj kA z.Mm z.cm), .own z.fa z.fs.length z.fc ((z.fs).flatMap flE) 48 3]) (L1 := [.blk wb ([.map (some z.mo), .map (some z.mm), VI (z.n : Int), .bool z.tl, .slice (hd z.fa) z.fs.length z.fc, VI 0]) 70, .obj z.mo (mobj kA z.Mo z.co), .obj z.mm (mobj kA z.Mm z.cm)]) (Lr := ([.blk b1 ((k.1).map V8) 29, .own z.fa z.fs.length z.fc ((z.fs).flatMap flE) 48 3] : List Ch)) (T := z.T) ((perm_front (j := 1) rfl).trans (.cons _ ((perm_front (j := 1) rfl).trans (.cons _ ((perm_front (j := 1) rfl).trans (.cons _ (.refl _))))))))) ?_); rintro _ w ⟨rfl, Hc⟩
     replace H := H.callU (L1' := [.blk wb ([.map (some z.mo), .map (some z.mm), VI ((z.n + 1 : Nat) : Int), .bool z.tl, .slice (hd z.fa) z.fs.length z.fc, VI 15]) 70, .obj z.mo (mobj kA z.Mo z.co), .obj z.mm (mobj kA z.Mm z.cm)]) (L := [.blk b1 ((k.1).map V8) 29, .blk wb ([.map (some z.mo), .map (some z.mm), VI (z.n : Int), .bool z.tl, .slice (hd z.fa) z.fs.length z.fc, VI 0]) 70, .obj z.mo (mobj kA z.Mo z.co), .obj z.mm (mobj kA z.Mm z.cm), .own z.fa z.fs.length z.fc ((z.fs).flatMap flE) 48 3]) (L1 := [.blk wb ([.map (some z.mo), .map (some z.mm), VI (z.n : Int), .bool z.tl, .slice (hd z.fa) z.fs.length z.fc, VI 0]) 70, .obj z.mo (mobj kA z.Mo z.co), .obj z.mm (mobj kA z.Mm z.cm)]) (Lr := ([.blk b1 ((k.1).map V8) 29, .own z.fa z.fs.length z.fc ((z.fs).flatMap flE) 48 3] : List Ch)) (T := z.T) ((perm_front (j := 1) rfl).trans (.cons _ ((perm_front (j := 1) rfl).trans (.cons _ ((perm_front (j := 1) rfl).trans (.cons _ (.refl _))))))) Hc ((perm_front (j := 0) rfl).trans (.cons _ ((perm_front (j := 1) rfl).trans (.cons _ ((perm_front (j := 1) rfl).trans (.cons _ ((perm_front (j := 1) rfl).trans (.cons _ (.refl _)))))))))
     clear Hc
     replace H : Hp _ w _ (Ch.blk b1 ((k.1).map V8) 29 :: Ch.blk wb ([.map (some z.mo), .map (some z.mm), VI ((z.n + 1 : Nat) : Int), .bool z.tl, .slice (hd z.fa) z.fs.length z.fc, VI 15]) 70 :: Ch.obj z.mo (mobj kA z.Mo z.co) :: Ch.obj z.mm (mobj kA z.Mm z.cm) :: Ch.own z.fa z.fs.length z.fc ((z.fs).flatMap flE) 48 3 :: z.T) := H
     refine l_op (o_val r_mv ?_); refine l_op (o_val (r_ext rfl rfl) ?_); refine l_op (o_val (r_ext rfl rfl) ?_); refine l_op (o_val r_as ?_); refine l_op (o_val r_as ?_); first | refine l_end ?_ | refine l_nil ?_
     repeat refine c_seq ?_
     refine c_region ?_; refine l_op (o_val r_mv ?_); refine l_op (o_val (r_not rfl) ?_); first | refine l_end ?_ | refine l_nil ?_
     repeat refine c_seq ?_
     refine c_yes rfl ?_; refine c_ret ?_; try dsimp only [Exit.then, Exit.inBlock]
     refine e_ret0 Try.results31 ?_
     refine ⟨_, rfl, ?_⟩
     have hst := step_miss (L := obL l) (t := (⟨2, k, sz, dp, tp⟩ : Todo)) (s := s) (by intro h; rcases h with ⟨_, h⟩ | h <;> (try dsimp only at h) <;> omega) (look_none hc4)
     have hw : wlkAll (obL l) [(⟨2, k, sz, dp, tp⟩ : Todo)] s = { s with err := 15 } := by rw [wlkAll_one (by rw [hst]), hst]
     rw [hw]
     exact ⟨(⟨z.mo, z.Mo, z.co, z.mm, z.Mm, z.cm, z.G, (z.n + 1), z.tl, z.fa, z.fc, z.fs⟩ : WY), 15, fun h => absurd h (by decide), rfl, ⟨rfl, fun h => absurd (show (15 : Int) = 0 from h) (by decide)⟩, H.sub (.cons _ (.cons_cons _ (.cons_cons _ (.cons_cons _ (.cons_cons _ (List.Sublist.refl _))))))⟩
theorem wenter_step {l : List Ob} {dp : Nat} (h1 : 1 ≤ dp) (h9 : dp ≤ 9) (hi : dp ≤ 8 → EnterAt l (dp + 1)) : EnterAt l dp := fun w0 wb z hO hz ho hap s hr k sz tp p hpp hpl => wenter_at l dp h1 h9 hi w0 wb z hO hz ho hap s hr k sz tp p hpp hpl
theorem wenter_all (l : List Ob) : EnterAt l 1 :=
  wenter_step (by omega) (by omega) fun _ => wenter_step (by omega) (by omega) fun _ => wenter_step (by omega) (by omega) fun _ => wenter_step (by omega) (by omega) fun _ => wenter_step (by omega) (by omega) fun _ =>
    wenter_step (by omega) (by omega) fun _ => wenter_step (by omega) (by omega) fun _ => wenter_step (by omega) (by omega) fun _ => wenter_step (by omega) (by omega) fun h => absurd h (by omega)
end Go.Proofs.Ytomjbabllcmodaa
