/- Lemmas for the statement DiskCopies, part 5: rules of operations, walks through functions, plain laws. -/
import Derived.Test.YtncmcgcilijfkaaDiskCopiesG4
namespace Go.Proofs.Ytncmcgcilijfkaa
open Go
set_option maxRecDepth 100000
def k4 (db : Nat) (z : DW) : List Ch := [.blk db [.slice (hd (some z.a1)) z.ls.length z.c1, .map (some z.mb), .bool z.off, VI z.armed, VI z.part, VI z.way, .slice (hd z.fa) z.fl.length z.fc, VI z.writes, VI z.lives] 86,
  .own (some z.a1) z.ls.length z.c1 (z.ls.flatMap slE) 57 1, .obj z.mb (mobj kI z.M z.mc), .own z.fa z.fl.length z.fc (z.fl.map V8) 5 1]
def dch2 (db rb : Nat) (z : DW) (y : RDW) : List Ch := (k4 db z ++ rkc rb y) ++ z.T
theorem apart_sub {a : Option Addr} {S S' : List Nat} (h : Apart a S) (hs : ∀ b ∈ S', b ∈ S) : Apart a S' := fun x hx hm => h x hx (hs _ hm)
theorem keys_d {db rb : Nat} {z : DW} {y : RDW} : ∀ b ∈ keys (kch db z), b ∈ keys (dch2 db rb z y) := fun b hb => by
  obtain ⟨c, hc, hk⟩ := mem_keys.1 hb
  refine mem_keys.2 ⟨c, ?_, hk⟩
  rcases List.mem_append.1 (show c ∈ k4 db z ++ z.T from hc) with h | h
  · exact List.mem_append_left _ (List.mem_append_left _ h)
  · exact List.mem_append_right _ h
theorem keys_r {db rb : Nat} {z : DW} {y : RDW} : ∀ b ∈ keys (rkc rb y), b ∈ keys (dch2 db rb z y) := fun b hb => by
  obtain ⟨c, hc, hk⟩ := mem_keys.1 hb
  exact mem_keys.2 ⟨c, List.mem_append_left _ (List.mem_append_right _ hc), hk⟩
theorem same5_ret (w0 : World) (db rb : Nat) (z : DW) (y : RDW) (hO : Own w0 (dch2 db rb z y)) (hz : z.ok) (hy : y.ok) (hr : y.D = z.abs) :
    Ret Try.prog 40 [.pointer (some ⟨db, 0, none⟩), .pointer (some ⟨rb, 0, none⟩)] w0 fun v w' => v = .bool true ∧ Hp w0 w' (keys (dch2 db rb z y)) (dch2 db rb z y) := by
  refine ret_mk Try.func40 rfl Try.ntmps40 (by simp) ?_
  have H : Hp w0 w0 (keys (dch2 db rb z y)) (Ch.blk db ([.slice (hd (some z.a1)) z.ls.length z.c1, .map (some z.mb), .bool z.off, VI z.armed, VI z.part, VI z.way, .slice (hd z.fa) z.fl.length z.fc, VI z.writes, VI z.lives]) 86 :: Ch.own (some z.a1) z.ls.length z.c1 ((z.ls).flatMap slE) 57 1 :: Ch.obj z.mb (mobj kI z.M z.mc) :: Ch.own z.fa z.fl.length z.fc ((z.fl).map V8) 5 1 :: Ch.blk rb ([.slice (hd y.a1) y.D.last.length y.c1, .slice (hd y.a2) y.D.last.length y.c2, .bool y.D.off, VI y.D.armed, VI y.D.part, VI y.D.way, .string ⟨(y.cm).toArray⟩, VI y.D.writes, VI y.D.lives]) 106 :: Ch.own y.a1 y.D.last.length y.c1 ((y.D.last).flatMap strD) 9 1 :: Ch.own y.a2 y.D.last.length y.c2 ((rwf y.D 0).flatMap strD) 9 1 :: z.T) := hO.start
  have hzn := hz.n
  have hza := hz.armed
  have hzp := hz.part
  have hzw := hz.way
  have hzf := hz.fl
  have hzl := z.alen
  have hmL : maxLen = 9223372036854775807 := rfl
  have hyn := hy.D.n
  have hrl : y.D.last.length = z.ls.length := by rw [hr, z.alen]
  have hrw : y.D.writes = z.writes := by rw [hr]; rfl
  have hrv : y.D.lives = z.lives := by rw [hr]; rfl
  have hwl1 : (dWaiting z.abs).length = (dWaiting y.D).length := by rw [hr]
  repeat refine c_seq ?_
  refine c_region ?_
  refine l_op (o_val (r_as) ?_)
  first | refine l_end ?_ | refine l_nil ?_
  repeat refine c_seq ?_
  refine c_region ?_
  refine l_op (o_val (r_mv) ?_)
  refine l_op (o_callR Try.func33 rfl rfl rfl (dwaiting_ret _ db z (H.ownT (L := [.blk db ([.slice (hd (some z.a1)) z.ls.length z.c1, .map (some z.mb), .bool z.off, VI z.armed, VI z.part, VI z.way, .slice (hd z.fa) z.fl.length z.fc, VI z.writes, VI z.lives]) 86, .own (some z.a1) z.ls.length z.c1 ((z.ls).flatMap slE) 57 1, .obj z.mb (mobj kI z.M z.mc), .own z.fa z.fl.length z.fc ((z.fl).map V8) 5 1, .blk rb ([.slice (hd y.a1) y.D.last.length y.c1, .slice (hd y.a2) y.D.last.length y.c2, .bool y.D.off, VI y.D.armed, VI y.D.part, VI y.D.way, .string ⟨(y.cm).toArray⟩, VI y.D.writes, VI y.D.lives]) 106, .own y.a1 y.D.last.length y.c1 ((y.D.last).flatMap strD) 9 1, .own y.a2 y.D.last.length y.c2 ((rwf y.D 0).flatMap strD) 9 1]) (L1 := [.blk db ([.slice (hd (some z.a1)) z.ls.length z.c1, .map (some z.mb), .bool z.off, VI z.armed, VI z.part, VI z.way, .slice (hd z.fa) z.fl.length z.fc, VI z.writes, VI z.lives]) 86, .own (some z.a1) z.ls.length z.c1 ((z.ls).flatMap slE) 57 1, .obj z.mb (mobj kI z.M z.mc), .own z.fa z.fl.length z.fc ((z.fl).map V8) 5 1]) (Lr := ([.blk rb ([.slice (hd y.a1) y.D.last.length y.c1, .slice (hd y.a2) y.D.last.length y.c2, .bool y.D.off, VI y.D.armed, VI y.D.part, VI y.D.way, .string ⟨(y.cm).toArray⟩, VI y.D.writes, VI y.D.lives]) 106, .own y.a1 y.D.last.length y.c1 ((y.D.last).flatMap strD) 9 1, .own y.a2 y.D.last.length y.c2 ((rwf y.D 0).flatMap strD) 9 1] : List Ch)) (T := z.T) (.refl _)) hz) ?_)
  rintro _ w ⟨a1, c2, rfl, Hc⟩
  replace H := H.callT (L1' := [.own a1 ((dWaiting z.abs).length) c2 ((dWaiting z.abs).flatMap intE) 3 1, .blk db ([.slice (hd (some z.a1)) z.ls.length z.c1, .map (some z.mb), .bool z.off, VI z.armed, VI z.part, VI z.way, .slice (hd z.fa) z.fl.length z.fc, VI z.writes, VI z.lives]) 86, .own (some z.a1) z.ls.length z.c1 ((z.ls).flatMap slE) 57 1, .obj z.mb (mobj kI z.M z.mc), .own z.fa z.fl.length z.fc ((z.fl).map V8) 5 1]) (T' := z.T) (L := [.blk db ([.slice (hd (some z.a1)) z.ls.length z.c1, .map (some z.mb), .bool z.off, VI z.armed, VI z.part, VI z.way, .slice (hd z.fa) z.fl.length z.fc, VI z.writes, VI z.lives]) 86, .own (some z.a1) z.ls.length z.c1 ((z.ls).flatMap slE) 57 1, .obj z.mb (mobj kI z.M z.mc), .own z.fa z.fl.length z.fc ((z.fl).map V8) 5 1, .blk rb ([.slice (hd y.a1) y.D.last.length y.c1, .slice (hd y.a2) y.D.last.length y.c2, .bool y.D.off, VI y.D.armed, VI y.D.part, VI y.D.way, .string ⟨(y.cm).toArray⟩, VI y.D.writes, VI y.D.lives]) 106, .own y.a1 y.D.last.length y.c1 ((y.D.last).flatMap strD) 9 1, .own y.a2 y.D.last.length y.c2 ((rwf y.D 0).flatMap strD) 9 1]) (L1 := [.blk db ([.slice (hd (some z.a1)) z.ls.length z.c1, .map (some z.mb), .bool z.off, VI z.armed, VI z.part, VI z.way, .slice (hd z.fa) z.fl.length z.fc, VI z.writes, VI z.lives]) 86, .own (some z.a1) z.ls.length z.c1 ((z.ls).flatMap slE) 57 1, .obj z.mb (mobj kI z.M z.mc), .own z.fa z.fl.length z.fc ((z.fl).map V8) 5 1]) (Lr := ([.blk rb ([.slice (hd y.a1) y.D.last.length y.c1, .slice (hd y.a2) y.D.last.length y.c2, .bool y.D.off, VI y.D.armed, VI y.D.part, VI y.D.way, .string ⟨(y.cm).toArray⟩, VI y.D.writes, VI y.D.lives]) 106, .own y.a1 y.D.last.length y.c1 ((y.D.last).flatMap strD) 9 1, .own y.a2 y.D.last.length y.c2 ((rwf y.D 0).flatMap strD) 9 1] : List Ch)) (T := z.T) (.refl _) Hc ((perm_front (j := 3) rfl).trans (.cons _ ((perm_front (j := 3) rfl).trans (.cons _ ((perm_front (j := 3) rfl).trans (.cons _ ((perm_front (j := 3) rfl).trans (.cons _ ((perm_front (j := 3) rfl).trans (.cons _ (.refl _)))))))))))
  clear Hc
  replace H : Hp _ w _ (Ch.own a1 ((dWaiting z.abs).length) c2 ((dWaiting z.abs).flatMap intE) 3 1 :: Ch.blk db ([.slice (hd (some z.a1)) z.ls.length z.c1, .map (some z.mb), .bool z.off, VI z.armed, VI z.part, VI z.way, .slice (hd z.fa) z.fl.length z.fc, VI z.writes, VI z.lives]) 86 :: Ch.own (some z.a1) z.ls.length z.c1 ((z.ls).flatMap slE) 57 1 :: Ch.obj z.mb (mobj kI z.M z.mc) :: Ch.own z.fa z.fl.length z.fc ((z.fl).map V8) 5 1 :: Ch.blk rb ([.slice (hd y.a1) y.D.last.length y.c1, .slice (hd y.a2) y.D.last.length y.c2, .bool y.D.off, VI y.D.armed, VI y.D.part, VI y.D.way, .string ⟨(y.cm).toArray⟩, VI y.D.writes, VI y.D.lives]) 106 :: Ch.own y.a1 y.D.last.length y.c1 ((y.D.last).flatMap strD) 9 1 :: Ch.own y.a2 y.D.last.length y.c2 ((rwf y.D 0).flatMap strD) 9 1 :: z.T) := H
  refine l_op (o_val (r_mv) ?_)
  refine l_op (o_callR Try.func67 rfl rfl rfl (rwaiting_ret _ rb y (H.ownU (L := [.own a1 ((dWaiting z.abs).length) c2 ((dWaiting z.abs).flatMap intE) 3 1, .blk db ([.slice (hd (some z.a1)) z.ls.length z.c1, .map (some z.mb), .bool z.off, VI z.armed, VI z.part, VI z.way, .slice (hd z.fa) z.fl.length z.fc, VI z.writes, VI z.lives]) 86, .own (some z.a1) z.ls.length z.c1 ((z.ls).flatMap slE) 57 1, .obj z.mb (mobj kI z.M z.mc), .own z.fa z.fl.length z.fc ((z.fl).map V8) 5 1, .blk rb ([.slice (hd y.a1) y.D.last.length y.c1, .slice (hd y.a2) y.D.last.length y.c2, .bool y.D.off, VI y.D.armed, VI y.D.part, VI y.D.way, .string ⟨(y.cm).toArray⟩, VI y.D.writes, VI y.D.lives]) 106, .own y.a1 y.D.last.length y.c1 ((y.D.last).flatMap strD) 9 1, .own y.a2 y.D.last.length y.c2 ((rwf y.D 0).flatMap strD) 9 1]) (L1 := [.blk rb ([.slice (hd y.a1) y.D.last.length y.c1, .slice (hd y.a2) y.D.last.length y.c2, .bool y.D.off, VI y.D.armed, VI y.D.part, VI y.D.way, .string ⟨(y.cm).toArray⟩, VI y.D.writes, VI y.D.lives]) 106, .own y.a1 y.D.last.length y.c1 ((y.D.last).flatMap strD) 9 1, .own y.a2 y.D.last.length y.c2 ((rwf y.D 0).flatMap strD) 9 1]) (Lr := ([.own a1 ((dWaiting z.abs).length) c2 ((dWaiting z.abs).flatMap intE) 3 1, .blk db ([.slice (hd (some z.a1)) z.ls.length z.c1, .map (some z.mb), .bool z.off, VI z.armed, VI z.part, VI z.way, .slice (hd z.fa) z.fl.length z.fc, VI z.writes, VI z.lives]) 86, .own (some z.a1) z.ls.length z.c1 ((z.ls).flatMap slE) 57 1, .obj z.mb (mobj kI z.M z.mc), .own z.fa z.fl.length z.fc ((z.fl).map V8) 5 1] : List Ch)) (T := z.T) ((perm_front (j := 5) rfl).trans (.cons _ ((perm_front (j := 5) rfl).trans (.cons _ ((perm_front (j := 5) rfl).trans (.cons _ (.refl _)))))))) hy) ?_)
  rintro _ w ⟨a3, c4, rfl, Hc⟩
  replace H := H.callU (L1' := [.blk rb ([.slice (hd y.a1) y.D.last.length y.c1, .slice (hd y.a2) y.D.last.length y.c2, .bool y.D.off, VI y.D.armed, VI y.D.part, VI y.D.way, .string ⟨(y.cm).toArray⟩, VI y.D.writes, VI y.D.lives]) 106, .own y.a1 y.D.last.length y.c1 ((y.D.last).flatMap strD) 9 1, .own y.a2 y.D.last.length y.c2 ((rwf y.D 0).flatMap strD) 9 1, .own a3 ((dWaiting y.D).length) c4 ((dWaiting y.D).flatMap intE) 3 1]) (L := [.own a1 ((dWaiting z.abs).length) c2 ((dWaiting z.abs).flatMap intE) 3 1, .blk db ([.slice (hd (some z.a1)) z.ls.length z.c1, .map (some z.mb), .bool z.off, VI z.armed, VI z.part, VI z.way, .slice (hd z.fa) z.fl.length z.fc, VI z.writes, VI z.lives]) 86, .own (some z.a1) z.ls.length z.c1 ((z.ls).flatMap slE) 57 1, .obj z.mb (mobj kI z.M z.mc), .own z.fa z.fl.length z.fc ((z.fl).map V8) 5 1, .blk rb ([.slice (hd y.a1) y.D.last.length y.c1, .slice (hd y.a2) y.D.last.length y.c2, .bool y.D.off, VI y.D.armed, VI y.D.part, VI y.D.way, .string ⟨(y.cm).toArray⟩, VI y.D.writes, VI y.D.lives]) 106, .own y.a1 y.D.last.length y.c1 ((y.D.last).flatMap strD) 9 1, .own y.a2 y.D.last.length y.c2 ((rwf y.D 0).flatMap strD) 9 1]) (L1 := [.blk rb ([.slice (hd y.a1) y.D.last.length y.c1, .slice (hd y.a2) y.D.last.length y.c2, .bool y.D.off, VI y.D.armed, VI y.D.part, VI y.D.way, .string ⟨(y.cm).toArray⟩, VI y.D.writes, VI y.D.lives]) 106, .own y.a1 y.D.last.length y.c1 ((y.D.last).flatMap strD) 9 1, .own y.a2 y.D.last.length y.c2 ((rwf y.D 0).flatMap strD) 9 1]) (Lr := ([.own a1 ((dWaiting z.abs).length) c2 ((dWaiting z.abs).flatMap intE) 3 1, .blk db ([.slice (hd (some z.a1)) z.ls.length z.c1, .map (some z.mb), .bool z.off, VI z.armed, VI z.part, VI z.way, .slice (hd z.fa) z.fl.length z.fc, VI z.writes, VI z.lives]) 86, .own (some z.a1) z.ls.length z.c1 ((z.ls).flatMap slE) 57 1, .obj z.mb (mobj kI z.M z.mc), .own z.fa z.fl.length z.fc ((z.fl).map V8) 5 1] : List Ch)) (T := z.T) ((perm_front (j := 5) rfl).trans (.cons _ ((perm_front (j := 5) rfl).trans (.cons _ ((perm_front (j := 5) rfl).trans (.cons _ (.refl _))))))) Hc ((perm_front (j := 8) rfl).trans (.cons _ (.refl _)))
  clear Hc
  replace H : Hp _ w _ (Ch.own a3 ((dWaiting y.D).length) c4 ((dWaiting y.D).flatMap intE) 3 1 :: Ch.own a1 ((dWaiting z.abs).length) c2 ((dWaiting z.abs).flatMap intE) 3 1 :: Ch.blk db ([.slice (hd (some z.a1)) z.ls.length z.c1, .map (some z.mb), .bool z.off, VI z.armed, VI z.part, VI z.way, .slice (hd z.fa) z.fl.length z.fc, VI z.writes, VI z.lives]) 86 :: Ch.own (some z.a1) z.ls.length z.c1 ((z.ls).flatMap slE) 57 1 :: Ch.obj z.mb (mobj kI z.M z.mc) :: Ch.own z.fa z.fl.length z.fc ((z.fl).map V8) 5 1 :: Ch.blk rb ([.slice (hd y.a1) y.D.last.length y.c1, .slice (hd y.a2) y.D.last.length y.c2, .bool y.D.off, VI y.D.armed, VI y.D.part, VI y.D.way, .string ⟨(y.cm).toArray⟩, VI y.D.writes, VI y.D.lives]) 106 :: Ch.own y.a1 y.D.last.length y.c1 ((y.D.last).flatMap strD) 9 1 :: Ch.own y.a2 y.D.last.length y.c2 ((rwf y.D 0).flatMap strD) 9 1 :: z.T) := H
  refine l_op (o_val (r_as) ?_)
  refine l_op (o_val (r_as) ?_)
  first | refine l_end ?_ | refine l_nil ?_
  repeat refine c_seq ?_
  refine wp_held (fun w => Hp w0 w (keys (dch2 db rb z y)) [.own a3 ((dWaiting y.D).length) c4 ((dWaiting y.D).flatMap intE) 3 1, .own a1 ((dWaiting z.abs).length) c2 ((dWaiting z.abs).flatMap intE) 3 1, .blk db ([.slice (hd (some z.a1)) z.ls.length z.c1, .map (some z.mb), .bool z.off, VI z.armed, VI z.part, VI z.way, .slice (hd z.fa) z.fl.length z.fc, VI z.writes, VI z.lives]) 86, .own (some z.a1) z.ls.length z.c1 ((z.ls).flatMap slE) 57 1, .obj z.mb (mobj kI z.M z.mc), .own z.fa z.fl.length z.fc ((z.fl).map V8) 5 1, .blk rb ([.slice (hd y.a1) y.D.last.length y.c1, .slice (hd y.a2) y.D.last.length y.c2, .bool y.D.off, VI y.D.armed, VI y.D.part, VI y.D.way, .string ⟨(y.cm).toArray⟩, VI y.D.writes, VI y.D.lives]) 106, .own y.a1 y.D.last.length y.c1 ((y.D.last).flatMap strD) 9 1, .own y.a2 y.D.last.length y.c2 ((rwf y.D 0).flatMap strD) 9 1]) mixed ?_
  replace H := H.drew
  have HS := H.sub (.cons_cons _ (.cons_cons _ (.cons_cons _ (.cons_cons _ (.cons_cons _ (.cons_cons _ (.cons_cons _ (.cons_cons _ (.cons_cons _ (List.nil_sublist _))))))))))
  refine t_take 0 rfl (by kernel_rfl) (by kernel_rfl) (by kernel_rfl) (fun _ _ _ h => h) (fun w HS => r_mv) HS ?_
  refine t_take 2 rfl (by kernel_rfl) (by kernel_rfl) (by kernel_rfl) (fun _ _ _ h => h) (fun w HS => r_mv) HS ?_
  refine t_take 3 rfl (by kernel_rfl) (by kernel_rfl) (by kernel_rfl) (fun _ _ _ h => h) (fun w HS => r_nilc rfl) HS ?_
  refine t_take 4 rfl (by kernel_rfl) (by kernel_rfl) (by kernel_rfl) (fun _ _ _ h => h) (fun w HS => r_fa rfl fo106_2) HS ?_
  refine t_take 5 rfl (by kernel_rfl) (by kernel_rfl) (by kernel_rfl) (fun _ _ _ h => h) (fun w HS => r_ld (v := .bool y.D.off) HS (i := 6) rfl rfl ct4 rfl) HS ?_
  refine t_step 1 rfl (by kernel_rfl) (o_callR Try.func32 rfl rfl rfl (ddead_ret _ _ z.ls.length z.c1 z.fl.length z.fc (hd (some z.a1)) (hd z.fa) (some z.mb) z.off z.armed z.part z.way z.writes z.lives (by omega) (H.has _ (List.mem_of_getElem? (i := 2) rfl))) ?_)
  rintro _ w ⟨rfl, Hc⟩
  replace H := (H.callA (i := 2) rfl rfl rfl Hc)
  clear Hc
  replace H : Hp _ w _ (Ch.own a3 ((dWaiting y.D).length) c4 ((dWaiting y.D).flatMap intE) 3 1 :: Ch.own a1 ((dWaiting z.abs).length) c2 ((dWaiting z.abs).flatMap intE) 3 1 :: Ch.blk db ([.slice (hd (some z.a1)) z.ls.length z.c1, .map (some z.mb), .bool z.off, VI z.armed, VI z.part, VI z.way, .slice (hd z.fa) z.fl.length z.fc, VI z.writes, VI z.lives]) 86 :: Ch.own (some z.a1) z.ls.length z.c1 ((z.ls).flatMap slE) 57 1 :: Ch.obj z.mb (mobj kI z.M z.mc) :: Ch.own z.fa z.fl.length z.fc ((z.fl).map V8) 5 1 :: Ch.blk rb ([.slice (hd y.a1) y.D.last.length y.c1, .slice (hd y.a2) y.D.last.length y.c2, .bool y.D.off, VI y.D.armed, VI y.D.part, VI y.D.way, .string ⟨(y.cm).toArray⟩, VI y.D.writes, VI y.D.lives]) 106 :: Ch.own y.a1 y.D.last.length y.c1 ((y.D.last).flatMap strD) 9 1 :: Ch.own y.a2 y.D.last.length y.c2 ((rwf y.D 0).flatMap strD) 9 1 :: z.T) := H
  refine ⟨H.sub (.cons_cons _ (.cons_cons _ (.cons_cons _ (.cons_cons _ (.cons_cons _ (.cons_cons _ (.cons_cons _ (.cons_cons _ (.cons_cons _ (List.nil_sublist _)))))))))), ?_⟩
  replace HS := H.sub (.cons_cons _ (.cons_cons _ (.cons_cons _ (.cons_cons _ (.cons_cons _ (.cons_cons _ (.cons_cons _ (.cons_cons _ (.cons_cons _ (List.nil_sublist _))))))))))
  refine t_take 6 rfl (by kernel_rfl) (by kernel_rfl) (by kernel_rfl) (fun _ _ _ h => h) (fun w HS => r_bne Try.underlying4 rfl rfl) HS ?_
  have hk5 : (!(z.off == y.D.off)) = false := (by rw [hr]; simp [DW.abs])
  refine t_take 7 rfl (by kernel_rfl) (by kernel_rfl) (by kernel_rfl) (fun _ _ _ h => h) (fun w HS => r_mv) HS ?_
  refine t_takeg 8 rfl (by kernel_rfl) (by kernel_rfl) (by kernel_rfl) (fun _ _ _ h => h) (yielded_mk _ _ _ rfl _ rfl (by exact congrArg Value.bool hk5)) (fun w HS => r_mv) HS ?_
  refine t_takeg 10 rfl (by kernel_rfl) (by kernel_rfl) (by kernel_rfl) (fun _ _ _ h => h) (yielded_mk _ _ _ rfl _ rfl (by exact congrArg Value.bool hk5)) (fun w HS => r_mv) HS ?_
  refine t_takeg 11 rfl (by kernel_rfl) (by kernel_rfl) (by kernel_rfl) (fun _ _ _ h => h) (yielded_mk _ _ _ rfl _ rfl (by exact congrArg Value.bool hk5)) (fun w HS => r_nilc rfl) HS ?_
  refine t_takeg 12 rfl (by kernel_rfl) (by kernel_rfl) (by kernel_rfl) (fun _ _ _ h => h) (yielded_mk _ _ _ rfl _ rfl (by exact congrArg Value.bool hk5)) (fun w HS => r_fa rfl fo106_7) HS ?_
  refine t_takeg 13 rfl (by kernel_rfl) (by kernel_rfl) (by kernel_rfl) (fun _ _ _ h => h) (yielded_mk _ _ _ rfl _ rfl (by exact congrArg Value.bool hk5)) (fun w HS => r_ld (v := VI y.D.writes) HS (i := 6) rfl rfl ct3 rfl) HS ?_
  refine t_stepg 9 rfl (by kernel_rfl) (yielded_mk _ _ _ rfl _ rfl (by exact congrArg Value.bool hk5)) (o_callR Try.func46 rfl rfl rfl (dwrites_ret _ _ z.ls.length z.c1 z.fl.length z.fc (hd (some z.a1)) (hd z.fa) (some z.mb) z.off z.armed z.part z.way z.writes z.lives (H.has _ (List.mem_of_getElem? (i := 2) rfl))) ?_)
  rintro _ w ⟨rfl, Hc⟩
  replace H := (H.callA (i := 2) rfl rfl rfl Hc)
  clear Hc
  replace H : Hp _ w _ (Ch.own a3 ((dWaiting y.D).length) c4 ((dWaiting y.D).flatMap intE) 3 1 :: Ch.own a1 ((dWaiting z.abs).length) c2 ((dWaiting z.abs).flatMap intE) 3 1 :: Ch.blk db ([.slice (hd (some z.a1)) z.ls.length z.c1, .map (some z.mb), .bool z.off, VI z.armed, VI z.part, VI z.way, .slice (hd z.fa) z.fl.length z.fc, VI z.writes, VI z.lives]) 86 :: Ch.own (some z.a1) z.ls.length z.c1 ((z.ls).flatMap slE) 57 1 :: Ch.obj z.mb (mobj kI z.M z.mc) :: Ch.own z.fa z.fl.length z.fc ((z.fl).map V8) 5 1 :: Ch.blk rb ([.slice (hd y.a1) y.D.last.length y.c1, .slice (hd y.a2) y.D.last.length y.c2, .bool y.D.off, VI y.D.armed, VI y.D.part, VI y.D.way, .string ⟨(y.cm).toArray⟩, VI y.D.writes, VI y.D.lives]) 106 :: Ch.own y.a1 y.D.last.length y.c1 ((y.D.last).flatMap strD) 9 1 :: Ch.own y.a2 y.D.last.length y.c2 ((rwf y.D 0).flatMap strD) 9 1 :: z.T) := H
  refine ⟨H.sub (.cons_cons _ (.cons_cons _ (.cons_cons _ (.cons_cons _ (.cons_cons _ (.cons_cons _ (.cons_cons _ (.cons_cons _ (.cons_cons _ (List.nil_sublist _)))))))))), ?_⟩
  replace HS := H.sub (.cons_cons _ (.cons_cons _ (.cons_cons _ (.cons_cons _ (.cons_cons _ (.cons_cons _ (.cons_cons _ (.cons_cons _ (.cons_cons _ (List.nil_sublist _))))))))))
  refine t_takeg 14 rfl (by kernel_rfl) (by kernel_rfl) (by kernel_rfl) (fun _ _ _ h => h) (yielded_mk _ _ _ rfl _ rfl (by exact congrArg Value.bool hk5)) (fun w HS => r_bin (a := z.writes) (b := y.D.writes) rfl rfl (fun _ => b_neqB false (decide_eq_false (by omega)))) HS ?_
  refine t_take 15 rfl (by kernel_rfl) (by kernel_rfl) (by kernel_rfl) (fun _ _ _ h => h) (fun w HS => r_pick (b := false) (congrArg Value.bool hk5)) HS ?_
  refine t_take 16 rfl (by kernel_rfl) (by kernel_rfl) (by kernel_rfl) (fun _ _ _ h => h) (fun w HS => r_mv) HS ?_
  refine t_takeg 17 rfl (by kernel_rfl) (by kernel_rfl) (by kernel_rfl) (fun _ _ _ h => h) (yielded_mk _ _ _ rfl _ rfl rfl) (fun w HS => r_mv) HS ?_
  refine t_takeg 19 rfl (by kernel_rfl) (by kernel_rfl) (by kernel_rfl) (fun _ _ _ h => h) (yielded_mk _ _ _ rfl _ rfl rfl) (fun w HS => r_mv) HS ?_
  refine t_takeg 20 rfl (by kernel_rfl) (by kernel_rfl) (by kernel_rfl) (fun _ _ _ h => h) (yielded_mk _ _ _ rfl _ rfl rfl) (fun w HS => r_nilc rfl) HS ?_
  refine t_takeg 21 rfl (by kernel_rfl) (by kernel_rfl) (by kernel_rfl) (fun _ _ _ h => h) (yielded_mk _ _ _ rfl _ rfl rfl) (fun w HS => r_fa rfl fo106_8) HS ?_
  refine t_takeg 22 rfl (by kernel_rfl) (by kernel_rfl) (by kernel_rfl) (fun _ _ _ h => h) (yielded_mk _ _ _ rfl _ rfl rfl) (fun w HS => r_ld (v := VI y.D.lives) HS (i := 6) rfl rfl ct3 rfl) HS ?_
  refine t_stepg 18 rfl (by kernel_rfl) (yielded_mk _ _ _ rfl _ rfl rfl) (o_callR Try.func43 rfl rfl rfl (dlives_ret _ _ z.ls.length z.c1 z.fl.length z.fc (hd (some z.a1)) (hd z.fa) (some z.mb) z.off z.armed z.part z.way z.writes z.lives (H.has _ (List.mem_of_getElem? (i := 2) rfl))) ?_)
  rintro _ w ⟨rfl, Hc⟩
  replace H := (H.callA (i := 2) rfl rfl rfl Hc)
  clear Hc
  replace H : Hp _ w _ (Ch.own a3 ((dWaiting y.D).length) c4 ((dWaiting y.D).flatMap intE) 3 1 :: Ch.own a1 ((dWaiting z.abs).length) c2 ((dWaiting z.abs).flatMap intE) 3 1 :: Ch.blk db ([.slice (hd (some z.a1)) z.ls.length z.c1, .map (some z.mb), .bool z.off, VI z.armed, VI z.part, VI z.way, .slice (hd z.fa) z.fl.length z.fc, VI z.writes, VI z.lives]) 86 :: Ch.own (some z.a1) z.ls.length z.c1 ((z.ls).flatMap slE) 57 1 :: Ch.obj z.mb (mobj kI z.M z.mc) :: Ch.own z.fa z.fl.length z.fc ((z.fl).map V8) 5 1 :: Ch.blk rb ([.slice (hd y.a1) y.D.last.length y.c1, .slice (hd y.a2) y.D.last.length y.c2, .bool y.D.off, VI y.D.armed, VI y.D.part, VI y.D.way, .string ⟨(y.cm).toArray⟩, VI y.D.writes, VI y.D.lives]) 106 :: Ch.own y.a1 y.D.last.length y.c1 ((y.D.last).flatMap strD) 9 1 :: Ch.own y.a2 y.D.last.length y.c2 ((rwf y.D 0).flatMap strD) 9 1 :: z.T) := H
  refine ⟨H.sub (.cons_cons _ (.cons_cons _ (.cons_cons _ (.cons_cons _ (.cons_cons _ (.cons_cons _ (.cons_cons _ (.cons_cons _ (.cons_cons _ (List.nil_sublist _)))))))))), ?_⟩
  replace HS := H.sub (.cons_cons _ (.cons_cons _ (.cons_cons _ (.cons_cons _ (.cons_cons _ (.cons_cons _ (.cons_cons _ (.cons_cons _ (.cons_cons _ (List.nil_sublist _))))))))))
  refine t_takeg 23 rfl (by kernel_rfl) (by kernel_rfl) (by kernel_rfl) (fun _ _ _ h => h) (yielded_mk _ _ _ rfl _ rfl rfl) (fun w HS => r_bin (a := z.lives) (b := y.D.lives) rfl rfl (fun _ => b_neqB false (decide_eq_false (by omega)))) HS ?_
  refine t_take 24 rfl (by kernel_rfl) (by kernel_rfl) (by kernel_rfl) (fun _ _ _ h => h) (fun w HS => r_pick rfl) HS ?_
  refine t_take 25 rfl (by kernel_rfl) (by kernel_rfl) (by kernel_rfl) (fun _ _ _ h => h) (fun w HS => r_mv) HS ?_
  refine t_takeg 26 rfl (by kernel_rfl) (by kernel_rfl) (by kernel_rfl) (fun _ _ _ h => h) (yielded_mk _ _ _ rfl _ rfl rfl) (fun w HS => r_mv) HS ?_
  refine t_takeg 28 rfl (by kernel_rfl) (by kernel_rfl) (by kernel_rfl) (fun _ _ _ h => h) (yielded_mk _ _ _ rfl _ rfl rfl) (fun w HS => r_mv) HS ?_
  refine t_takeg 29 rfl (by kernel_rfl) (by kernel_rfl) (by kernel_rfl) (fun _ _ _ h => h) (yielded_mk _ _ _ rfl _ rfl rfl) (fun w HS => r_nilc rfl) HS ?_
  refine t_takeg 30 rfl (by kernel_rfl) (by kernel_rfl) (by kernel_rfl) (fun _ _ _ h => h) (yielded_mk _ _ _ rfl _ rfl rfl) (fun w HS => r_fa rfl fo106_0) HS ?_
  refine t_takeg 31 rfl (by kernel_rfl) (by kernel_rfl) (by kernel_rfl) (fun _ _ _ h => h) (yielded_mk _ _ _ rfl _ rfl rfl) (fun w HS => r_ld (v := .slice (hd y.a1) y.D.last.length y.c1) HS (i := 6) rfl rfl ct49 rfl) HS ?_
  refine t_takeg 32 rfl (by kernel_rfl) (by kernel_rfl) (by kernel_rfl) (fun _ _ _ h => h) (yielded_mk _ _ _ rfl _ rfl rfl) (fun w HS => r_lens el49 rfl) HS ?_
  refine t_stepg 27 rfl (by kernel_rfl) (yielded_mk _ _ _ rfl _ rfl rfl) (o_callR Try.func30 rfl rfl rfl (dlen_ret _ _ z.ls.length z.c1 z.fl.length z.fc (hd (some z.a1)) (hd z.fa) (some z.mb) z.off z.armed z.part z.way z.writes z.lives (H.has _ (List.mem_of_getElem? (i := 2) rfl))) ?_)
  rintro _ w ⟨rfl, Hc⟩
  replace H := (H.callA (i := 2) rfl rfl rfl Hc)
  clear Hc
  replace H : Hp _ w _ (Ch.own a3 ((dWaiting y.D).length) c4 ((dWaiting y.D).flatMap intE) 3 1 :: Ch.own a1 ((dWaiting z.abs).length) c2 ((dWaiting z.abs).flatMap intE) 3 1 :: Ch.blk db ([.slice (hd (some z.a1)) z.ls.length z.c1, .map (some z.mb), .bool z.off, VI z.armed, VI z.part, VI z.way, .slice (hd z.fa) z.fl.length z.fc, VI z.writes, VI z.lives]) 86 :: Ch.own (some z.a1) z.ls.length z.c1 ((z.ls).flatMap slE) 57 1 :: Ch.obj z.mb (mobj kI z.M z.mc) :: Ch.own z.fa z.fl.length z.fc ((z.fl).map V8) 5 1 :: Ch.blk rb ([.slice (hd y.a1) y.D.last.length y.c1, .slice (hd y.a2) y.D.last.length y.c2, .bool y.D.off, VI y.D.armed, VI y.D.part, VI y.D.way, .string ⟨(y.cm).toArray⟩, VI y.D.writes, VI y.D.lives]) 106 :: Ch.own y.a1 y.D.last.length y.c1 ((y.D.last).flatMap strD) 9 1 :: Ch.own y.a2 y.D.last.length y.c2 ((rwf y.D 0).flatMap strD) 9 1 :: z.T) := H
  refine ⟨H.sub (.cons_cons _ (.cons_cons _ (.cons_cons _ (.cons_cons _ (.cons_cons _ (.cons_cons _ (.cons_cons _ (.cons_cons _ (.cons_cons _ (List.nil_sublist _)))))))))), ?_⟩
  replace HS := H.sub (.cons_cons _ (.cons_cons _ (.cons_cons _ (.cons_cons _ (.cons_cons _ (.cons_cons _ (.cons_cons _ (.cons_cons _ (.cons_cons _ (List.nil_sublist _))))))))))
  refine t_takeg 33 rfl (by kernel_rfl) (by kernel_rfl) (by kernel_rfl) (fun _ _ _ h => h) (yielded_mk _ _ _ rfl _ rfl rfl) (fun w HS => r_bin (a := (z.ls.length : Int)) (b := (y.D.last.length : Int)) rfl rfl (fun _ => b_neqB false (decide_eq_false (by omega)))) HS ?_
  refine t_take 34 rfl (by kernel_rfl) (by kernel_rfl) (by kernel_rfl) (fun _ _ _ h => h) (fun w HS => r_pick rfl) HS ?_
  refine t_take 35 rfl (by kernel_rfl) (by kernel_rfl) (by kernel_rfl) (fun _ _ _ h => h) (fun w HS => r_mv) HS ?_
  refine t_takeg 36 rfl (by kernel_rfl) (by kernel_rfl) (by kernel_rfl) (fun _ _ _ h => h) (yielded_mk _ _ _ rfl _ rfl rfl) (fun w HS => r_mv) HS ?_
  refine t_takeg 37 rfl (by kernel_rfl) (by kernel_rfl) (by kernel_rfl) (fun _ _ _ h => h) (yielded_mk _ _ _ rfl _ rfl rfl) (fun w HS => r_lens el62 rfl) HS ?_
  refine t_takeg 38 rfl (by kernel_rfl) (by kernel_rfl) (by kernel_rfl) (fun _ _ _ h => h) (yielded_mk _ _ _ rfl _ rfl rfl) (fun w HS => r_mv) HS ?_
  refine t_takeg 39 rfl (by kernel_rfl) (by kernel_rfl) (by kernel_rfl) (fun _ _ _ h => h) (yielded_mk _ _ _ rfl _ rfl rfl) (fun w HS => r_lens el62 rfl) HS ?_
  refine t_takeg 40 rfl (by kernel_rfl) (by kernel_rfl) (by kernel_rfl) (fun _ _ _ h => h) (yielded_mk _ _ _ rfl _ rfl rfl) (fun w HS => r_bin (a := (((dWaiting z.abs).length : Nat) : Int)) (b := (((dWaiting y.D).length : Nat) : Int)) rfl rfl (fun _ => b_neqB false (decide_eq_false (by omega)))) HS ?_
  refine t_take 41 rfl (by kernel_rfl) (by kernel_rfl) (by kernel_rfl) (fun _ _ _ h => h) (fun w HS => r_pick rfl) HS ?_
  refine t_done (by kernel_rfl) ?_
  clear HS
  repeat refine c_seq ?_
  refine c_no rfl ?_
  refine c_skip ?_
  repeat refine c_seq ?_
  refine c_region ?_
  refine l_op (o_val (r_as) ?_)
  first | refine l_end ?_ | refine l_nil ?_
  repeat refine c_seq ?_
  refine c_block ?_
  repeat refine c_seq ?_
  refine c_loop (fun (i : Nat) => [(5, .slice (hd a1) ((dWaiting z.abs).length) c2), (6, .slice (hd a3) ((dWaiting y.D).length) c4), (7, VI (i : Int))])
    (fun (i : Nat) w => (i ≤ (dWaiting y.D).length) ∧ Hp w0 w (keys (dch2 db rb z y)) (Ch.own a3 ((dWaiting y.D).length) c4 ((dWaiting y.D).flatMap intE) 3 1 :: Ch.own a1 ((dWaiting z.abs).length) c2 ((dWaiting z.abs).flatMap intE) 3 1 :: Ch.blk db ([.slice (hd (some z.a1)) z.ls.length z.c1, .map (some z.mb), .bool z.off, VI z.armed, VI z.part, VI z.way, .slice (hd z.fa) z.fl.length z.fc, VI z.writes, VI z.lives]) 86 :: Ch.own (some z.a1) z.ls.length z.c1 ((z.ls).flatMap slE) 57 1 :: Ch.obj z.mb (mobj kI z.M z.mc) :: Ch.own z.fa z.fl.length z.fc ((z.fl).map V8) 5 1 :: Ch.blk rb ([.slice (hd y.a1) y.D.last.length y.c1, .slice (hd y.a2) y.D.last.length y.c2, .bool y.D.off, VI y.D.armed, VI y.D.part, VI y.D.way, .string ⟨(y.cm).toArray⟩, VI y.D.writes, VI y.D.lives]) 106 :: Ch.own y.a1 y.D.last.length y.c1 ((y.D.last).flatMap strD) 9 1 :: Ch.own y.a2 y.D.last.length y.c2 ((rwf y.D 0).flatMap strD) 9 1 :: z.T))
    (fun (i : Nat) => (dWaiting y.D).length - i) 0 ⟨rfl, rfl, rfl, trivial⟩ ⟨Nat.zero_le _, H⟩ ?_
  clear H
  rintro i τ w ⟨hi, H⟩
  have hwl2 : (dWaiting z.abs).length = (dWaiting y.D).length := by rw [hr]
  have hwl3 := dWait_len hz
  repeat refine c_seq ?_
  refine c_region ?_
  refine l_op (o_val (r_mv) ?_)
  refine l_op (o_val (r_mv) ?_)
  refine l_op (o_val (r_lens el62 rfl) ?_)
  refine l_op (o_val (r_bin (a := (i : Int)) (b := (((dWaiting y.D).length : Nat) : Int)) rfl rfl (fun _ => b_lss)) ?_)
  first | refine l_end ?_ | refine l_nil ?_
  by_cases hc6 : (i : Int) < (((dWaiting y.D).length : Nat) : Int)
  ·
   repeat refine c_seq ?_
   refine c_yes (by exact congrArg Value.bool (decide_eq_true hc6)) ?_
   refine c_skip ?_
   repeat refine c_seq ?_
   refine c_block ?_
   repeat refine c_seq ?_
   refine c_still mixed (by kernel_rfl) ?_
   replace H := H.drew
   refine s_op (r_mv) ?_
   refine s_op (r_mv) ?_
   have ah8 := H.ownAddr (i := 1) rfl (by omega)
   obtain ⟨ab7, ah8⟩ := ah8
   refine s_op (r_isN i rfl rfl el62 ah8 (by omega) (by (try simp only [Sl.cut]); omega)) ?_
   have he10 : ∃ c, (dWaiting z.abs)[i]? = some c := ⟨_, List.getElem?_eq_getElem (by have := ((H.glOwn (i := 1) rfl (by decide) (fun _ _ => rfl))).ln; (try dsimp only at this ⊢); omega)⟩
   obtain ⟨e9, he10⟩ := he10
   have hez11 := ((H.glOwn (i := 1) rfl (by decide) (fun _ _ => rfl))).sz e9 (List.mem_of_getElem? he10)
   refine s_op (r_gc (v := VI e9) (s := (⟨hd a1, (dWaiting z.abs).length, c2, dWaiting z.abs⟩ : Gl Int)) (j := i) (H.glOwn (i := 1) rfl (by decide) (fun _ _ => rfl)) ah8 rfl ct3 he10 rfl) ?_
   refine s_op (r_mv) ?_
   refine s_op (r_mv) ?_
   have ah13 := H.ownAddr (i := 0) rfl (by omega)
   obtain ⟨ab12, ah13⟩ := ah13
   refine s_op (r_isN i rfl rfl el62 ah13 (by omega) (by (try simp only [Sl.cut]); omega)) ?_
   have he15 : ∃ c, (dWaiting y.D)[i]? = some c := ⟨_, List.getElem?_eq_getElem (by have := ((H.glOwn (i := 0) rfl (by decide) (fun _ _ => rfl))).ln; (try dsimp only at this ⊢); omega)⟩
   obtain ⟨e14, he15⟩ := he15
   have hez16 := ((H.glOwn (i := 0) rfl (by decide) (fun _ _ => rfl))).sz e14 (List.mem_of_getElem? he15)
   refine s_op (r_gc (v := VI e14) (s := (⟨hd a3, (dWaiting y.D).length, c4, dWaiting y.D⟩ : Gl Int)) (j := i) (H.glOwn (i := 0) rfl (by decide) (fun _ _ => rfl)) ah13 rfl ct3 he15 rfl) ?_
   refine s_op (r_bin (a := e9) (b := e14) rfl rfl (fun _ => b_neqB false (decide_eq_false (fun hne => hne (Option.some.inj (he10.symm.trans (by rw [← hr]; exact he15))))))) ?_
   refine s_nil ?_
   repeat refine c_seq ?_
   refine c_no rfl ?_
   refine c_skip ?_
   repeat refine c_seq ?_
   refine c_region ?_
   refine l_op (o_val (r_mv) ?_)
   refine l_op (o_val (r_bin (a := (i : Int)) (b := 1) rfl rfl (fun _ => b_add (by omega) (by omega))) ?_)
   refine l_op (o_val (r_as) ?_)
   first | refine l_end ?_ | refine l_nil ?_
   refine round_end (i + 1) ?_ ?_ ?_
   · exact ⟨rfl, rfl, show VI ((i : Int) + 1) = VI ((i + 1 : Nat) : Int) from congrArg VI (by omega), trivial⟩
   · refine ⟨?_, ?_⟩
     · try dsimp only
       exact by omega
     · exact H
   · show (dWaiting y.D).length - (i + 1 : Nat) < (dWaiting y.D).length - i; omega
  ·
   repeat refine c_seq ?_
   refine c_no (by exact congrArg Value.bool (decide_eq_false hc6)) ?_
   refine c_exit ?_
   repeat refine c_seq ?_
   refine c_region ?_
   refine l_op (o_val (r_as) ?_)
   first | refine l_end ?_ | refine l_nil ?_
   refine c_ret ?_
   try dsimp only [Exit.then, Exit.inBlock]
   refine e_ret1 (v := .bool true) Try.results40 rfl ?_
   refine ⟨_, rfl, ?_⟩
   exact ⟨rfl, H.sub (.cons _ (.cons _ (.cons_cons _ (.cons_cons _ (.cons_cons _ (.cons_cons _ (.cons_cons _ (.cons_cons _ (.cons_cons _ (List.Sublist.refl _))))))))))⟩
theorem read5_ret (w0 : World) (db rb : Nat) (z : DW) (y : RDW) (hO : Own w0 (dch2 db rb z y)) (hz : z.ok) (hy : y.ok) (hr : y.D = z.abs) :
    Ret Try.prog 41 [.pointer (some ⟨db, 0, none⟩), .pointer (some ⟨rb, 0, none⟩)] w0 fun v w' => v = .bool true ∧ Hp w0 w' (keys (dch2 db rb z y)) (dch2 db rb z y) := by
  refine ret_mk Try.func41 rfl Try.ntmps41 (by simp) ?_
  have H : Hp w0 w0 (keys (dch2 db rb z y)) (Ch.blk db ([.slice (hd (some z.a1)) z.ls.length z.c1, .map (some z.mb), .bool z.off, VI z.armed, VI z.part, VI z.way, .slice (hd z.fa) z.fl.length z.fc, VI z.writes, VI z.lives]) 86 :: Ch.own (some z.a1) z.ls.length z.c1 ((z.ls).flatMap slE) 57 1 :: Ch.obj z.mb (mobj kI z.M z.mc) :: Ch.own z.fa z.fl.length z.fc ((z.fl).map V8) 5 1 :: Ch.blk rb ([.slice (hd y.a1) y.D.last.length y.c1, .slice (hd y.a2) y.D.last.length y.c2, .bool y.D.off, VI y.D.armed, VI y.D.part, VI y.D.way, .string ⟨(y.cm).toArray⟩, VI y.D.writes, VI y.D.lives]) 106 :: Ch.own y.a1 y.D.last.length y.c1 ((y.D.last).flatMap strD) 9 1 :: Ch.own y.a2 y.D.last.length y.c2 ((rwf y.D 0).flatMap strD) 9 1 :: z.T) := hO.start
  have hzn := hz.n
  have hza := hz.armed
  have hzp := hz.part
  have hzw := hz.way
  have hzf := hz.fl
  have hzl := z.alen
  have hmL : maxLen = 9223372036854775807 := rfl
  have hyn := hy.D.n
  have hrl : y.D.last.length = z.ls.length := by rw [hr, z.alen]
  have hrw : y.D.writes = z.writes := by rw [hr]; rfl
  have hrv : y.D.lives = z.lives := by rw [hr]; rfl
  repeat refine c_seq ?_
  refine c_region ?_
  refine l_op (o_val (r_as) ?_)
  first | refine l_end ?_ | refine l_nil ?_
  repeat refine c_seq ?_
  refine c_region ?_
  refine l_op (o_val (r_as) ?_)
  first | refine l_end ?_ | refine l_nil ?_
  repeat refine c_seq ?_
  refine c_block ?_
  repeat refine c_seq ?_
  refine c_loop (fun (i : Nat) => [(0, .pointer (some ⟨db, 0, none⟩)), (1, .pointer (some ⟨rb, 0, none⟩)), (5, VI (i : Int))])
    (fun (i : Nat) w => (i ≤ y.D.last.length) ∧ Hp w0 w (keys (dch2 db rb z y)) (Ch.blk db ([.slice (hd (some z.a1)) z.ls.length z.c1, .map (some z.mb), .bool z.off, VI z.armed, VI z.part, VI z.way, .slice (hd z.fa) z.fl.length z.fc, VI z.writes, VI z.lives]) 86 :: Ch.own (some z.a1) z.ls.length z.c1 ((z.ls).flatMap slE) 57 1 :: Ch.obj z.mb (mobj kI z.M z.mc) :: Ch.own z.fa z.fl.length z.fc ((z.fl).map V8) 5 1 :: Ch.blk rb ([.slice (hd y.a1) y.D.last.length y.c1, .slice (hd y.a2) y.D.last.length y.c2, .bool y.D.off, VI y.D.armed, VI y.D.part, VI y.D.way, .string ⟨(y.cm).toArray⟩, VI y.D.writes, VI y.D.lives]) 106 :: Ch.own y.a1 y.D.last.length y.c1 ((y.D.last).flatMap strD) 9 1 :: Ch.own y.a2 y.D.last.length y.c2 ((rwf y.D 0).flatMap strD) 9 1 :: z.T))
    (fun (i : Nat) => y.D.last.length - i) 0 ⟨rfl, rfl, rfl, trivial⟩ ⟨Nat.zero_le _, H⟩ ?_
  clear H
  rintro i τ w ⟨hi, H⟩
  repeat refine c_seq ?_
  refine c_region ?_
  refine l_op (o_val (r_mv) ?_)
  refine l_op (o_val (r_mv) ?_)
  refine l_op (o_val (r_nilc rfl) ?_)
  refine l_op (o_val (r_fa rfl fo106_0) ?_)
  refine l_op (o_val (r_ld (v := .slice (hd y.a1) y.D.last.length y.c1) H (i := 4) rfl rfl ct49 rfl) ?_)
  refine l_op (o_val (r_lens el49 rfl) ?_)
  refine l_op (o_val (r_bin (a := (i : Int)) (b := (y.D.last.length : Int)) rfl rfl (fun _ => b_lss)) ?_)
  first | refine l_end ?_ | refine l_nil ?_
  by_cases hc1 : (i : Int) < (y.D.last.length : Int)
  ·
   repeat refine c_seq ?_
   refine c_yes (by exact congrArg Value.bool (decide_eq_true hc1)) ?_
   refine c_skip ?_
   repeat refine c_seq ?_
   refine c_block ?_
   repeat refine c_seq ?_
   refine c_region ?_
   refine l_op (o_val (r_mv) ?_)
   refine l_op (o_val (r_mv) ?_)
   refine l_op (o_callR Try.func29 rfl rfl rfl (dread_ret _ db z (H.ownT (L := [.blk db ([.slice (hd (some z.a1)) z.ls.length z.c1, .map (some z.mb), .bool z.off, VI z.armed, VI z.part, VI z.way, .slice (hd z.fa) z.fl.length z.fc, VI z.writes, VI z.lives]) 86, .own (some z.a1) z.ls.length z.c1 ((z.ls).flatMap slE) 57 1, .obj z.mb (mobj kI z.M z.mc), .own z.fa z.fl.length z.fc ((z.fl).map V8) 5 1, .blk rb ([.slice (hd y.a1) y.D.last.length y.c1, .slice (hd y.a2) y.D.last.length y.c2, .bool y.D.off, VI y.D.armed, VI y.D.part, VI y.D.way, .string ⟨(y.cm).toArray⟩, VI y.D.writes, VI y.D.lives]) 106, .own y.a1 y.D.last.length y.c1 ((y.D.last).flatMap strD) 9 1, .own y.a2 y.D.last.length y.c2 ((rwf y.D 0).flatMap strD) 9 1]) (L1 := [.blk db ([.slice (hd (some z.a1)) z.ls.length z.c1, .map (some z.mb), .bool z.off, VI z.armed, VI z.part, VI z.way, .slice (hd z.fa) z.fl.length z.fc, VI z.writes, VI z.lives]) 86, .own (some z.a1) z.ls.length z.c1 ((z.ls).flatMap slE) 57 1, .obj z.mb (mobj kI z.M z.mc), .own z.fa z.fl.length z.fc ((z.fl).map V8) 5 1]) (Lr := ([.blk rb ([.slice (hd y.a1) y.D.last.length y.c1, .slice (hd y.a2) y.D.last.length y.c2, .bool y.D.off, VI y.D.armed, VI y.D.part, VI y.D.way, .string ⟨(y.cm).toArray⟩, VI y.D.writes, VI y.D.lives]) 106, .own y.a1 y.D.last.length y.c1 ((y.D.last).flatMap strD) 9 1, .own y.a2 y.D.last.length y.c2 ((rwf y.D 0).flatMap strD) 9 1] : List Ch)) (T := z.T) (.refl _)) hz (i : Int)) ?_)
   rintro _ w ⟨a2, n3, c4, rl5, rfl, hrn6, hr07, hr18, Hc⟩
   replace H := H.callT (L1' := [.own a2 n3 c4 ((rl5).map V8) 5 1, .blk db ([.slice (hd (some z.a1)) z.ls.length z.c1, .map (some z.mb), .bool z.off, VI z.armed, VI z.part, VI z.way, .slice (hd z.fa) z.fl.length z.fc, VI z.writes, VI z.lives]) 86, .own (some z.a1) z.ls.length z.c1 ((z.ls).flatMap slE) 57 1, .obj z.mb (mobj kI z.M z.mc), .own z.fa z.fl.length z.fc ((z.fl).map V8) 5 1]) (T' := z.T) (L := [.blk db ([.slice (hd (some z.a1)) z.ls.length z.c1, .map (some z.mb), .bool z.off, VI z.armed, VI z.part, VI z.way, .slice (hd z.fa) z.fl.length z.fc, VI z.writes, VI z.lives]) 86, .own (some z.a1) z.ls.length z.c1 ((z.ls).flatMap slE) 57 1, .obj z.mb (mobj kI z.M z.mc), .own z.fa z.fl.length z.fc ((z.fl).map V8) 5 1, .blk rb ([.slice (hd y.a1) y.D.last.length y.c1, .slice (hd y.a2) y.D.last.length y.c2, .bool y.D.off, VI y.D.armed, VI y.D.part, VI y.D.way, .string ⟨(y.cm).toArray⟩, VI y.D.writes, VI y.D.lives]) 106, .own y.a1 y.D.last.length y.c1 ((y.D.last).flatMap strD) 9 1, .own y.a2 y.D.last.length y.c2 ((rwf y.D 0).flatMap strD) 9 1]) (L1 := [.blk db ([.slice (hd (some z.a1)) z.ls.length z.c1, .map (some z.mb), .bool z.off, VI z.armed, VI z.part, VI z.way, .slice (hd z.fa) z.fl.length z.fc, VI z.writes, VI z.lives]) 86, .own (some z.a1) z.ls.length z.c1 ((z.ls).flatMap slE) 57 1, .obj z.mb (mobj kI z.M z.mc), .own z.fa z.fl.length z.fc ((z.fl).map V8) 5 1]) (Lr := ([.blk rb ([.slice (hd y.a1) y.D.last.length y.c1, .slice (hd y.a2) y.D.last.length y.c2, .bool y.D.off, VI y.D.armed, VI y.D.part, VI y.D.way, .string ⟨(y.cm).toArray⟩, VI y.D.writes, VI y.D.lives]) 106, .own y.a1 y.D.last.length y.c1 ((y.D.last).flatMap strD) 9 1, .own y.a2 y.D.last.length y.c2 ((rwf y.D 0).flatMap strD) 9 1] : List Ch)) (T := z.T) (.refl _) Hc ((perm_front (j := 3) rfl).trans (.cons _ ((perm_front (j := 3) rfl).trans (.cons _ ((perm_front (j := 3) rfl).trans (.cons _ ((perm_front (j := 3) rfl).trans (.cons _ ((perm_front (j := 3) rfl).trans (.cons _ (.refl _)))))))))))
   clear Hc
   replace H : Hp _ w _ (Ch.own a2 n3 c4 ((rl5).map V8) 5 1 :: Ch.blk db ([.slice (hd (some z.a1)) z.ls.length z.c1, .map (some z.mb), .bool z.off, VI z.armed, VI z.part, VI z.way, .slice (hd z.fa) z.fl.length z.fc, VI z.writes, VI z.lives]) 86 :: Ch.own (some z.a1) z.ls.length z.c1 ((z.ls).flatMap slE) 57 1 :: Ch.obj z.mb (mobj kI z.M z.mc) :: Ch.own z.fa z.fl.length z.fc ((z.fl).map V8) 5 1 :: Ch.blk rb ([.slice (hd y.a1) y.D.last.length y.c1, .slice (hd y.a2) y.D.last.length y.c2, .bool y.D.off, VI y.D.armed, VI y.D.part, VI y.D.way, .string ⟨(y.cm).toArray⟩, VI y.D.writes, VI y.D.lives]) 106 :: Ch.own y.a1 y.D.last.length y.c1 ((y.D.last).flatMap strD) 9 1 :: Ch.own y.a2 y.D.last.length y.c2 ((rwf y.D 0).flatMap strD) 9 1 :: z.T) := H
   refine l_op (o_val (r_mv) ?_)
   refine l_op (o_val (r_ext rfl rfl) ?_)
   refine l_op (o_val (r_ext rfl rfl) ?_)
   refine l_op (o_val (r_as) ?_)
   refine l_op (o_val (r_as) ?_)
   first | refine l_end ?_ | refine l_nil ?_
   repeat refine c_seq ?_
   refine c_region ?_
   refine l_op (o_val (r_mv) ?_)
   refine l_op (o_val (r_mv) ?_)
   refine l_op (o_callR Try.func66 rfl rfl rfl (rread_ret _ rb y (H.ownU (L := [.own a2 n3 c4 ((rl5).map V8) 5 1, .blk db ([.slice (hd (some z.a1)) z.ls.length z.c1, .map (some z.mb), .bool z.off, VI z.armed, VI z.part, VI z.way, .slice (hd z.fa) z.fl.length z.fc, VI z.writes, VI z.lives]) 86, .own (some z.a1) z.ls.length z.c1 ((z.ls).flatMap slE) 57 1, .obj z.mb (mobj kI z.M z.mc), .own z.fa z.fl.length z.fc ((z.fl).map V8) 5 1, .blk rb ([.slice (hd y.a1) y.D.last.length y.c1, .slice (hd y.a2) y.D.last.length y.c2, .bool y.D.off, VI y.D.armed, VI y.D.part, VI y.D.way, .string ⟨(y.cm).toArray⟩, VI y.D.writes, VI y.D.lives]) 106, .own y.a1 y.D.last.length y.c1 ((y.D.last).flatMap strD) 9 1, .own y.a2 y.D.last.length y.c2 ((rwf y.D 0).flatMap strD) 9 1]) (L1 := [.blk rb ([.slice (hd y.a1) y.D.last.length y.c1, .slice (hd y.a2) y.D.last.length y.c2, .bool y.D.off, VI y.D.armed, VI y.D.part, VI y.D.way, .string ⟨(y.cm).toArray⟩, VI y.D.writes, VI y.D.lives]) 106, .own y.a1 y.D.last.length y.c1 ((y.D.last).flatMap strD) 9 1, .own y.a2 y.D.last.length y.c2 ((rwf y.D 0).flatMap strD) 9 1]) (Lr := ([.own a2 n3 c4 ((rl5).map V8) 5 1, .blk db ([.slice (hd (some z.a1)) z.ls.length z.c1, .map (some z.mb), .bool z.off, VI z.armed, VI z.part, VI z.way, .slice (hd z.fa) z.fl.length z.fc, VI z.writes, VI z.lives]) 86, .own (some z.a1) z.ls.length z.c1 ((z.ls).flatMap slE) 57 1, .obj z.mb (mobj kI z.M z.mc), .own z.fa z.fl.length z.fc ((z.fl).map V8) 5 1] : List Ch)) (T := z.T) ((perm_front (j := 5) rfl).trans (.cons _ ((perm_front (j := 5) rfl).trans (.cons _ ((perm_front (j := 5) rfl).trans (.cons _ (.refl _)))))))) hy (i : Int)) ?_)
   rintro _ w ⟨sl9, rfl, hsr10, hsr11, Hc⟩
   replace H := H.callU (L1' := [.blk rb ([.slice (hd y.a1) y.D.last.length y.c1, .slice (hd y.a2) y.D.last.length y.c2, .bool y.D.off, VI y.D.armed, VI y.D.part, VI y.D.way, .string ⟨(y.cm).toArray⟩, VI y.D.writes, VI y.D.lives]) 106, .own y.a1 y.D.last.length y.c1 ((y.D.last).flatMap strD) 9 1, .own y.a2 y.D.last.length y.c2 ((rwf y.D 0).flatMap strD) 9 1]) (L := [.own a2 n3 c4 ((rl5).map V8) 5 1, .blk db ([.slice (hd (some z.a1)) z.ls.length z.c1, .map (some z.mb), .bool z.off, VI z.armed, VI z.part, VI z.way, .slice (hd z.fa) z.fl.length z.fc, VI z.writes, VI z.lives]) 86, .own (some z.a1) z.ls.length z.c1 ((z.ls).flatMap slE) 57 1, .obj z.mb (mobj kI z.M z.mc), .own z.fa z.fl.length z.fc ((z.fl).map V8) 5 1, .blk rb ([.slice (hd y.a1) y.D.last.length y.c1, .slice (hd y.a2) y.D.last.length y.c2, .bool y.D.off, VI y.D.armed, VI y.D.part, VI y.D.way, .string ⟨(y.cm).toArray⟩, VI y.D.writes, VI y.D.lives]) 106, .own y.a1 y.D.last.length y.c1 ((y.D.last).flatMap strD) 9 1, .own y.a2 y.D.last.length y.c2 ((rwf y.D 0).flatMap strD) 9 1]) (L1 := [.blk rb ([.slice (hd y.a1) y.D.last.length y.c1, .slice (hd y.a2) y.D.last.length y.c2, .bool y.D.off, VI y.D.armed, VI y.D.part, VI y.D.way, .string ⟨(y.cm).toArray⟩, VI y.D.writes, VI y.D.lives]) 106, .own y.a1 y.D.last.length y.c1 ((y.D.last).flatMap strD) 9 1, .own y.a2 y.D.last.length y.c2 ((rwf y.D 0).flatMap strD) 9 1]) (Lr := ([.own a2 n3 c4 ((rl5).map V8) 5 1, .blk db ([.slice (hd (some z.a1)) z.ls.length z.c1, .map (some z.mb), .bool z.off, VI z.armed, VI z.part, VI z.way, .slice (hd z.fa) z.fl.length z.fc, VI z.writes, VI z.lives]) 86, .own (some z.a1) z.ls.length z.c1 ((z.ls).flatMap slE) 57 1, .obj z.mb (mobj kI z.M z.mc), .own z.fa z.fl.length z.fc ((z.fl).map V8) 5 1] : List Ch)) (T := z.T) ((perm_front (j := 5) rfl).trans (.cons _ ((perm_front (j := 5) rfl).trans (.cons _ ((perm_front (j := 5) rfl).trans (.cons _ (.refl _))))))) Hc (.refl _)
   clear Hc
   replace H : Hp _ w _ (Ch.own a2 n3 c4 ((rl5).map V8) 5 1 :: Ch.blk db ([.slice (hd (some z.a1)) z.ls.length z.c1, .map (some z.mb), .bool z.off, VI z.armed, VI z.part, VI z.way, .slice (hd z.fa) z.fl.length z.fc, VI z.writes, VI z.lives]) 86 :: Ch.own (some z.a1) z.ls.length z.c1 ((z.ls).flatMap slE) 57 1 :: Ch.obj z.mb (mobj kI z.M z.mc) :: Ch.own z.fa z.fl.length z.fc ((z.fl).map V8) 5 1 :: Ch.blk rb ([.slice (hd y.a1) y.D.last.length y.c1, .slice (hd y.a2) y.D.last.length y.c2, .bool y.D.off, VI y.D.armed, VI y.D.part, VI y.D.way, .string ⟨(y.cm).toArray⟩, VI y.D.writes, VI y.D.lives]) 106 :: Ch.own y.a1 y.D.last.length y.c1 ((y.D.last).flatMap strD) 9 1 :: Ch.own y.a2 y.D.last.length y.c2 ((rwf y.D 0).flatMap strD) 9 1 :: z.T) := H
   refine l_op (o_val (r_mv) ?_)
   refine l_op (o_val (r_ext rfl rfl) ?_)
   refine l_op (o_val (r_ext rfl rfl) ?_)
   refine l_op (o_val (r_as) ?_)
   refine l_op (o_val (r_as) ?_)
   first | refine l_end ?_ | refine l_nil ?_
   have hseq : rl5 = sl9 := by
     by_cases hm : dMay z.abs (i : Int) = 0
     · rw [hr07 hm, hsr10 (by rw [hr]; exact hm), hr]
     · rw [hr18 hm, hsr11 (by rw [hr]; exact hm)]
   repeat refine c_seq ?_
   refine c_region ?_
   refine l_op (o_val (r_mv) ?_)
   refine l_op (o_val (r_mv) ?_)
   refine l_op (o_val (r_bin (a := dMay z.abs (i : Int)) (b := dMay y.D (i : Int)) rfl rfl (fun _ => b_neqB false (decide_eq_false (fun hne => hne (by rw [hr]))))) ?_)
   refine l_op (o_val (r_mv) ?_)
   refine l_yes rfl rfl rfl (o_val (r_mv) ?_)
   refine l_yes rfl rfl rfl (o_val (r_b2S (s := ⟨hd a2, n3, c4, rl5⟩) Try.underlying57 Try.underlying5 Try.underlying9 rfl (H.slOwn (i := 0) rfl)) ?_)
   refine l_yes rfl rfl rfl (o_val (r_mv) ?_)
   refine l_yes rfl rfl rfl (o_val (r_strne (a := rl5) (b := sl9) rfl rfl) ?_)
   have hk12 : (!(decide (rl5 = sl9))) = false := (by rw [decide_eq_true hseq]; rfl)
   refine l_op (o_val (r_pick rfl) ?_)
   first | refine l_end ?_ | refine l_nil ?_
   repeat refine c_seq ?_
   refine c_no (by exact congrArg Value.bool hk12) ?_
   refine c_skip ?_
   repeat refine c_seq ?_
   refine c_region ?_
   refine l_op (o_val (r_mv) ?_)
   refine l_op (o_callR Try.func63 rfl rfl rfl (spoilOwn5_ret H (i := 0) rfl) ?_)
   rintro _ w ⟨rfl, Hc⟩
   clear H
   have H := Hc; clear Hc
   replace H : Hp _ w _ (Ch.own a2 n3 c4 ((List.replicate (n3) (90 : UInt8)).map V8) 5 1 :: Ch.blk db ([.slice (hd (some z.a1)) z.ls.length z.c1, .map (some z.mb), .bool z.off, VI z.armed, VI z.part, VI z.way, .slice (hd z.fa) z.fl.length z.fc, VI z.writes, VI z.lives]) 86 :: Ch.own (some z.a1) z.ls.length z.c1 ((z.ls).flatMap slE) 57 1 :: Ch.obj z.mb (mobj kI z.M z.mc) :: Ch.own z.fa z.fl.length z.fc ((z.fl).map V8) 5 1 :: Ch.blk rb ([.slice (hd y.a1) y.D.last.length y.c1, .slice (hd y.a2) y.D.last.length y.c2, .bool y.D.off, VI y.D.armed, VI y.D.part, VI y.D.way, .string ⟨(y.cm).toArray⟩, VI y.D.writes, VI y.D.lives]) 106 :: Ch.own y.a1 y.D.last.length y.c1 ((y.D.last).flatMap strD) 9 1 :: Ch.own y.a2 y.D.last.length y.c2 ((rwf y.D 0).flatMap strD) 9 1 :: z.T) := H
   first | refine l_end ?_ | refine l_nil ?_
   repeat refine c_seq ?_
   refine c_region ?_
   refine l_op (o_val (r_mv) ?_)
   refine l_op (o_val (r_bin (a := (i : Int)) (b := 1) rfl rfl (fun _ => b_add (by omega) (by omega))) ?_)
   refine l_op (o_val (r_as) ?_)
   first | refine l_end ?_ | refine l_nil ?_
   refine round_end (i + 1) ?_ ?_ ?_
   · exact ⟨rfl, rfl, show VI ((i : Int) + 1) = VI ((i + 1 : Nat) : Int) from congrArg VI (by omega), trivial⟩
   · refine ⟨?_, ?_⟩
     · try dsimp only
       exact by omega
     · exact H.sub (.cons _ (.cons_cons _ (.cons_cons _ (.cons_cons _ (.cons_cons _ (.cons_cons _ (.cons_cons _ (.cons_cons _ (List.Sublist.refl _)))))))))
   · show y.D.last.length - (i + 1 : Nat) < y.D.last.length - i; omega
  ·
   repeat refine c_seq ?_
   refine c_no (by exact congrArg Value.bool (decide_eq_false hc1)) ?_
   refine c_exit ?_
   repeat refine c_seq ?_
   refine c_region ?_
   refine l_op (o_val (r_as) ?_)
   first | refine l_end ?_ | refine l_nil ?_
   refine c_ret ?_
   try dsimp only [Exit.then, Exit.inBlock]
   refine e_ret1 (v := .bool true) Try.results41 rfl ?_
   refine ⟨_, rfl, ?_⟩
   exact ⟨rfl, H.sub (.cons_cons _ (.cons_cons _ (.cons_cons _ (.cons_cons _ (.cons_cons _ (.cons_cons _ (.cons_cons _ (List.Sublist.refl _))))))))⟩
set_option maxHeartbeats 4000000 in
theorem do5_ret (w0 : World) (db rb : Nat) (z : DW) (y : RDW) (hO : Own w0 (dch2 db rb z y)) (hz : z.ok) (hy : y.ok) (hr : y.D = z.abs) (c : OpD) (hop : c.ok w0) (hap1 : c.b.l ≠ [] → Apart c.b.a (keys (dch2 db rb z y))) (hap2 : c.ks.l ≠ [] → Apart c.ks.a (keys (dch2 db rb z y))) (hbl : c.b.len ≤ 600) (hwr : 0 ≤ z.writes ∧ z.writes ≤ 1000000) (hlv : 0 ≤ z.lives ∧ z.lives ≤ 1000000) :
    Ret Try.prog 39 [.pointer (some ⟨db, 0, none⟩), .pointer (some ⟨rb, 0, none⟩), .agg (([VI c.kind, VI c.i, VI c.part, c.b.v, c.ks.v] : List Value)).toArray] w0 fun v w' => v = .bool true ∧ ∃ z' y', DW.ok z' ∧ RDW.ok y' ∧ y'.D = z'.abs ∧ (z.writes ≤ z'.writes ∧ z'.writes ≤ z.writes + 1) ∧ (z.lives ≤ z'.lives ∧ z'.lives ≤ z.lives + 1) ∧ (∀ c ∈ z.T, c ∈ z'.T) ∧ Hp w0 w' (keys (dch2 db rb z y)) (dch2 db rb z' y') := by
  refine ret_mk Try.func39 rfl Try.ntmps39 (by simp) ?_
  have H : Hp w0 w0 (keys (dch2 db rb z y)) (Ch.blk db ([.slice (hd (some z.a1)) z.ls.length z.c1, .map (some z.mb), .bool z.off, VI z.armed, VI z.part, VI z.way, .slice (hd z.fa) z.fl.length z.fc, VI z.writes, VI z.lives]) 86 :: Ch.own (some z.a1) z.ls.length z.c1 ((z.ls).flatMap slE) 57 1 :: Ch.obj z.mb (mobj kI z.M z.mc) :: Ch.own z.fa z.fl.length z.fc ((z.fl).map V8) 5 1 :: Ch.blk rb ([.slice (hd y.a1) y.D.last.length y.c1, .slice (hd y.a2) y.D.last.length y.c2, .bool y.D.off, VI y.D.armed, VI y.D.part, VI y.D.way, .string ⟨(y.cm).toArray⟩, VI y.D.writes, VI y.D.lives]) 106 :: Ch.own y.a1 y.D.last.length y.c1 ((y.D.last).flatMap strD) 9 1 :: Ch.own y.a2 y.D.last.length y.c2 ((rwf y.D 0).flatMap strD) 9 1 :: z.T) := hO.start
  have hzn := hz.n
  have hza := hz.armed
  have hzp := hz.part
  have hzw := hz.way
  have hzf := hz.fl
  have hzl := z.alen
  have hmL : maxLen = 9223372036854775807 := rfl
  have hbn := hop.2.2.2.1.ln
  have hbe := hop.2.2.2.1.le
  have hbx := hop.2.2.2.1.mx
  have hop1 := hop.2.1
  have hkn := hop.2.2.2.2.ln
  have hyn := hy.D.n
  have hrl : y.D.last.length = z.ls.length := by rw [hr, z.alen]
  have hrw : y.D.writes = z.writes := by rw [hr]; rfl
  have hrv : y.D.lives = z.lives := by rw [hr]; rfl
  repeat refine c_seq ?_
  refine c_region ?_
  refine l_op (o_box (v := .agg (([VI c.kind, VI c.i, VI c.part, c.b.v, c.ks.v] : List Value)).toArray) H rfl (fun b1 w H hb1 => ?_))
  replace H := H.rot
  replace H : Hp _ w _ (Ch.blk b1 (([VI c.kind, VI c.i, VI c.part, c.b.v, c.ks.v] : List Value)) 70 :: Ch.blk db ([.slice (hd (some z.a1)) z.ls.length z.c1, .map (some z.mb), .bool z.off, VI z.armed, VI z.part, VI z.way, .slice (hd z.fa) z.fl.length z.fc, VI z.writes, VI z.lives]) 86 :: Ch.own (some z.a1) z.ls.length z.c1 ((z.ls).flatMap slE) 57 1 :: Ch.obj z.mb (mobj kI z.M z.mc) :: Ch.own z.fa z.fl.length z.fc ((z.fl).map V8) 5 1 :: Ch.blk rb ([.slice (hd y.a1) y.D.last.length y.c1, .slice (hd y.a2) y.D.last.length y.c2, .bool y.D.off, VI y.D.armed, VI y.D.part, VI y.D.way, .string ⟨(y.cm).toArray⟩, VI y.D.writes, VI y.D.lives]) 106 :: Ch.own y.a1 y.D.last.length y.c1 ((y.D.last).flatMap strD) 9 1 :: Ch.own y.a2 y.D.last.length y.c2 ((rwf y.D 0).flatMap strD) 9 1 :: z.T) := H
  refine l_op (o_val (r_as) ?_)
  first | refine l_end ?_ | refine l_nil ?_
  repeat refine c_seq ?_
  refine c_region ?_
  refine l_op (o_val (r_fa rfl fo70_0) ?_)
  refine l_op (o_val (r_l1 (v := VI c.kind) H (i := 0) rfl rfl ct3 (show Cut3 (([VI c.kind, VI c.i, VI c.part, c.b.v, c.ks.v] : List Value)) (([] : List Value)) (([VI c.kind] : List Value)) (([VI c.i, VI c.part, c.b.v, c.ks.v] : List Value)) 0 1 from ⟨(show ([VI c.kind, VI c.i, VI c.part, c.b.v, c.ks.v] : List Value) = ([] : List Value) ++ ((([VI c.kind] : List Value)) ++ (([VI c.i, VI c.part, c.b.v, c.ks.v] : List Value))) from by simp only [List.cons_append, List.nil_append]), (by rfl), (by rfl)⟩)) ?_)
  refine l_op (o_callR Try.func16 rfl rfl rfl (place_ret _ c.kind 6 (by omega) (by omega)) ?_)
  rintro _ w' ⟨m2, rfl, hm3, hw4⟩
  rw [hw4]; clear hw4 w'
  first | refine l_end ?_ | refine l_nil ?_
  repeat refine c_seq ?_
  refine c_block ?_
  repeat refine c_seq ?_
  refine c_region ?_
  refine l_op (o_val (r_bin (a := (m2 : Int)) (b := 0) rfl rfl (fun _ => b_eql)) ?_)
  refine l_op (o_val (r_as) ?_)
  first | refine l_end ?_ | refine l_nil ?_
  by_cases hc5 : (m2 : Int) = 0
  ·
   repeat refine c_seq ?_
   refine c_yes (by exact congrArg Value.bool (decide_eq_true hc5)) ?_
   repeat refine c_seq ?_
   refine wp_held (fun w => Hp w0 w (keys (dch2 db rb z y)) [.blk b1 (([VI c.kind, VI c.i, VI c.part, c.b.v, c.ks.v] : List Value)) 70]) mixed ?_
   replace H := H.drew
   have HS := H.sub (.cons_cons _ (List.nil_sublist _))
   refine t_take 0 rfl (by kernel_rfl) (by kernel_rfl) (by kernel_rfl) (fun _ _ _ h => h) (fun w HS => r_mv) HS ?_
   refine t_take 1 rfl (by kernel_rfl) (by kernel_rfl) (by kernel_rfl) (fun _ _ _ h => h) (fun w HS => r_fa rfl fo70_1) HS ?_
   refine t_take 2 rfl (by kernel_rfl) (by kernel_rfl) (by kernel_rfl) (fun _ _ _ h => h) (fun w HS => r_l1 (v := VI c.i) HS (i := 0) rfl rfl ct3 (show Cut3 (([VI c.kind, VI c.i, VI c.part, c.b.v, c.ks.v] : List Value)) (([VI c.kind] : List Value)) (([VI c.i] : List Value)) (([VI c.part, c.b.v, c.ks.v] : List Value)) 1 1 from ⟨(show ([VI c.kind, VI c.i, VI c.part, c.b.v, c.ks.v] : List Value) = ([VI c.kind] : List Value) ++ ((([VI c.i] : List Value)) ++ (([VI c.part, c.b.v, c.ks.v] : List Value))) from by simp only [List.cons_append, List.nil_append]), (by rfl), (by rfl)⟩)) HS ?_
   refine t_take 3 rfl (by kernel_rfl) (by kernel_rfl) (by kernel_rfl) (fun _ _ _ h => h) (fun w HS => r_fa rfl fo70_3) HS ?_
   refine t_take 4 rfl (by kernel_rfl) (by kernel_rfl) (by kernel_rfl) (fun _ _ _ h => h) (fun w HS => r_l1 (v := c.b.v) HS (i := 0) rfl rfl ct57 (show Cut3 (([VI c.kind, VI c.i, VI c.part, c.b.v, c.ks.v] : List Value)) (([VI c.kind, VI c.i, VI c.part] : List Value)) (([c.b.v] : List Value)) (([c.ks.v] : List Value)) 3 1 from ⟨(show ([VI c.kind, VI c.i, VI c.part, c.b.v, c.ks.v] : List Value) = ([VI c.kind, VI c.i, VI c.part] : List Value) ++ ((([c.b.v] : List Value)) ++ (([c.ks.v] : List Value))) from by simp only [List.cons_append, List.nil_append]), (by rfl), (by rfl)⟩)) HS ?_
   refine t_take 7 rfl (by kernel_rfl) (by kernel_rfl) (by kernel_rfl) (fun _ _ _ h => h) (fun w HS => r_mv) HS ?_
   refine t_take 8 rfl (by kernel_rfl) (by kernel_rfl) (by kernel_rfl) (fun _ _ _ h => h) (fun w HS => r_fa rfl fo70_1) HS ?_
   refine t_take 9 rfl (by kernel_rfl) (by kernel_rfl) (by kernel_rfl) (fun _ _ _ h => h) (fun w HS => r_l1 (v := VI c.i) HS (i := 0) rfl rfl ct3 (show Cut3 (([VI c.kind, VI c.i, VI c.part, c.b.v, c.ks.v] : List Value)) (([VI c.kind] : List Value)) (([VI c.i] : List Value)) (([VI c.part, c.b.v, c.ks.v] : List Value)) 1 1 from ⟨(show ([VI c.kind, VI c.i, VI c.part, c.b.v, c.ks.v] : List Value) = ([VI c.kind] : List Value) ++ ((([VI c.i] : List Value)) ++ (([VI c.part, c.b.v, c.ks.v] : List Value))) from by simp only [List.cons_append, List.nil_append]), (by rfl), (by rfl)⟩)) HS ?_
   refine t_take 10 rfl (by kernel_rfl) (by kernel_rfl) (by kernel_rfl) (fun _ _ _ h => h) (fun w HS => r_fa rfl fo70_3) HS ?_
   refine t_take 11 rfl (by kernel_rfl) (by kernel_rfl) (by kernel_rfl) (fun _ _ _ h => h) (fun w HS => r_l1 (v := c.b.v) HS (i := 0) rfl rfl ct57 (show Cut3 (([VI c.kind, VI c.i, VI c.part, c.b.v, c.ks.v] : List Value)) (([VI c.kind, VI c.i, VI c.part] : List Value)) (([c.b.v] : List Value)) (([c.ks.v] : List Value)) 3 1 from ⟨(show ([VI c.kind, VI c.i, VI c.part, c.b.v, c.ks.v] : List Value) = ([VI c.kind, VI c.i, VI c.part] : List Value) ++ ((([c.b.v] : List Value)) ++ (([c.ks.v] : List Value))) from by simp only [List.cons_append, List.nil_append]), (by rfl), (by rfl)⟩)) HS ?_
   refine t_step 5 rfl (by kernel_rfl) (o_callR Try.func31 rfl rfl rfl (full_ret _ c.b (hop.2.2.2.1.up H hap1)) ?_)
   rintro _ w ⟨fb6, rfl, Hc⟩
   replace H : Hp _ w _ (Ch.own (some fb6) 512 512 ((wh c.b.l).map V8) 5 1 :: Ch.blk b1 (([VI c.kind, VI c.i, VI c.part, c.b.v, c.ks.v] : List Value)) 70 :: Ch.blk db ([.slice (hd (some z.a1)) z.ls.length z.c1, .map (some z.mb), .bool z.off, VI z.armed, VI z.part, VI z.way, .slice (hd z.fa) z.fl.length z.fc, VI z.writes, VI z.lives]) 86 :: Ch.own (some z.a1) z.ls.length z.c1 ((z.ls).flatMap slE) 57 1 :: Ch.obj z.mb (mobj kI z.M z.mc) :: Ch.own z.fa z.fl.length z.fc ((z.fl).map V8) 5 1 :: Ch.blk rb ([.slice (hd y.a1) y.D.last.length y.c1, .slice (hd y.a2) y.D.last.length y.c2, .bool y.D.off, VI y.D.armed, VI y.D.part, VI y.D.way, .string ⟨(y.cm).toArray⟩, VI y.D.writes, VI y.D.lives]) 106 :: Ch.own y.a1 y.D.last.length y.c1 ((y.D.last).flatMap strD) 9 1 :: Ch.own y.a2 y.D.last.length y.c2 ((rwf y.D 0).flatMap strD) 9 1 :: z.T) := (H.call Hc).rot
   clear Hc
   refine ⟨H.sub (.cons _ (.cons_cons _ (List.nil_sublist _))), ?_⟩
   replace HS := H.sub (.cons _ (.cons_cons _ (List.nil_sublist _)))
   refine t_step 6 rfl (by kernel_rfl) (o_callR Try.func34 rfl rfl rfl (dwrite_ret _ db z (H.ownT (L := [.own (some fb6) 512 512 ((wh c.b.l).map V8) 5 1, .blk b1 (([VI c.kind, VI c.i, VI c.part, c.b.v, c.ks.v] : List Value)) 70, .blk db ([.slice (hd (some z.a1)) z.ls.length z.c1, .map (some z.mb), .bool z.off, VI z.armed, VI z.part, VI z.way, .slice (hd z.fa) z.fl.length z.fc, VI z.writes, VI z.lives]) 86, .own (some z.a1) z.ls.length z.c1 ((z.ls).flatMap slE) 57 1, .obj z.mb (mobj kI z.M z.mc), .own z.fa z.fl.length z.fc ((z.fl).map V8) 5 1, .blk rb ([.slice (hd y.a1) y.D.last.length y.c1, .slice (hd y.a2) y.D.last.length y.c2, .bool y.D.off, VI y.D.armed, VI y.D.part, VI y.D.way, .string ⟨(y.cm).toArray⟩, VI y.D.writes, VI y.D.lives]) 106, .own y.a1 y.D.last.length y.c1 ((y.D.last).flatMap strD) 9 1, .own y.a2 y.D.last.length y.c2 ((rwf y.D 0).flatMap strD) 9 1]) (L1 := [.blk db ([.slice (hd (some z.a1)) z.ls.length z.c1, .map (some z.mb), .bool z.off, VI z.armed, VI z.part, VI z.way, .slice (hd z.fa) z.fl.length z.fc, VI z.writes, VI z.lives]) 86, .own (some z.a1) z.ls.length z.c1 ((z.ls).flatMap slE) 57 1, .obj z.mb (mobj kI z.M z.mc), .own z.fa z.fl.length z.fc ((z.fl).map V8) 5 1]) (Lr := ([.own (some fb6) 512 512 ((wh c.b.l).map V8) 5 1, .blk b1 (([VI c.kind, VI c.i, VI c.part, c.b.v, c.ks.v] : List Value)) 70, .blk rb ([.slice (hd y.a1) y.D.last.length y.c1, .slice (hd y.a2) y.D.last.length y.c2, .bool y.D.off, VI y.D.armed, VI y.D.part, VI y.D.way, .string ⟨(y.cm).toArray⟩, VI y.D.writes, VI y.D.lives]) 106, .own y.a1 y.D.last.length y.c1 ((y.D.last).flatMap strD) 9 1, .own y.a2 y.D.last.length y.c2 ((rwf y.D 0).flatMap strD) 9 1] : List Ch)) (T := z.T) ((perm_front (j := 2) rfl).trans (.cons _ ((perm_front (j := 2) rfl).trans (.cons _ ((perm_front (j := 2) rfl).trans (.cons _ ((perm_front (j := 2) rfl).trans (.cons _ (.refl _)))))))))) hz c.i ⟨hd (some fb6), 512, 512, wh c.b.l⟩ (H.slOwn (i := 0) rfl) (fun _ => apart_own (L := [.own (some fb6) 512 512 ((wh c.b.l).map V8) 5 1, .blk b1 (([VI c.kind, VI c.i, VI c.part, c.b.v, c.ks.v] : List Value)) 70, .blk db ([.slice (hd (some z.a1)) z.ls.length z.c1, .map (some z.mb), .bool z.off, VI z.armed, VI z.part, VI z.way, .slice (hd z.fa) z.fl.length z.fc, VI z.writes, VI z.lives]) 86, .own (some z.a1) z.ls.length z.c1 ((z.ls).flatMap slE) 57 1, .obj z.mb (mobj kI z.M z.mc), .own z.fa z.fl.length z.fc ((z.fl).map V8) 5 1, .blk rb ([.slice (hd y.a1) y.D.last.length y.c1, .slice (hd y.a2) y.D.last.length y.c2, .bool y.D.off, VI y.D.armed, VI y.D.part, VI y.D.way, .string ⟨(y.cm).toArray⟩, VI y.D.writes, VI y.D.lives]) 106, .own y.a1 y.D.last.length y.c1 ((y.D.last).flatMap strD) 9 1, .own y.a2 y.D.last.length y.c2 ((rwf y.D 0).flatMap strD) 9 1]) (L1 := [.blk db ([.slice (hd (some z.a1)) z.ls.length z.c1, .map (some z.mb), .bool z.off, VI z.armed, VI z.part, VI z.way, .slice (hd z.fa) z.fl.length z.fc, VI z.writes, VI z.lives]) 86, .own (some z.a1) z.ls.length z.c1 ((z.ls).flatMap slE) 57 1, .obj z.mb (mobj kI z.M z.mc), .own z.fa z.fl.length z.fc ((z.fl).map V8) 5 1]) (Lr := ([.own (some fb6) 512 512 ((wh c.b.l).map V8) 5 1, .blk b1 (([VI c.kind, VI c.i, VI c.part, c.b.v, c.ks.v] : List Value)) 70, .blk rb ([.slice (hd y.a1) y.D.last.length y.c1, .slice (hd y.a2) y.D.last.length y.c2, .bool y.D.off, VI y.D.armed, VI y.D.part, VI y.D.way, .string ⟨(y.cm).toArray⟩, VI y.D.writes, VI y.D.lives]) 106, .own y.a1 y.D.last.length y.c1 ((y.D.last).flatMap strD) 9 1, .own y.a2 y.D.last.length y.c2 ((rwf y.D 0).flatMap strD) 9 1] : List Ch)) (T := z.T) H ((perm_front (j := 2) rfl).trans (.cons _ ((perm_front (j := 2) rfl).trans (.cons _ ((perm_front (j := 2) rfl).trans (.cons _ ((perm_front (j := 2) rfl).trans (.cons _ (.refl _))))))))) (List.mem_of_getElem? (i := 0) rfl)) (by omega)) ?_)
   rintro _ w ⟨rfl, y7, hya8, hyo9, hyt10, Hc⟩
   replace H := H.callT (L1' := [.blk db ([.slice (hd (some y7.a1)) y7.ls.length y7.c1, .map (some y7.mb), .bool y7.off, VI y7.armed, VI y7.part, VI y7.way, .slice (hd y7.fa) y7.fl.length y7.fc, VI y7.writes, VI y7.lives]) 86, .own (some y7.a1) y7.ls.length y7.c1 ((y7.ls).flatMap slE) 57 1, .obj y7.mb (mobj kI y7.M y7.mc), .own y7.fa y7.fl.length y7.fc ((y7.fl).map V8) 5 1]) (T' := y7.T) (L := [.own (some fb6) 512 512 ((wh c.b.l).map V8) 5 1, .blk b1 (([VI c.kind, VI c.i, VI c.part, c.b.v, c.ks.v] : List Value)) 70, .blk db ([.slice (hd (some z.a1)) z.ls.length z.c1, .map (some z.mb), .bool z.off, VI z.armed, VI z.part, VI z.way, .slice (hd z.fa) z.fl.length z.fc, VI z.writes, VI z.lives]) 86, .own (some z.a1) z.ls.length z.c1 ((z.ls).flatMap slE) 57 1, .obj z.mb (mobj kI z.M z.mc), .own z.fa z.fl.length z.fc ((z.fl).map V8) 5 1, .blk rb ([.slice (hd y.a1) y.D.last.length y.c1, .slice (hd y.a2) y.D.last.length y.c2, .bool y.D.off, VI y.D.armed, VI y.D.part, VI y.D.way, .string ⟨(y.cm).toArray⟩, VI y.D.writes, VI y.D.lives]) 106, .own y.a1 y.D.last.length y.c1 ((y.D.last).flatMap strD) 9 1, .own y.a2 y.D.last.length y.c2 ((rwf y.D 0).flatMap strD) 9 1]) (L1 := [.blk db ([.slice (hd (some z.a1)) z.ls.length z.c1, .map (some z.mb), .bool z.off, VI z.armed, VI z.part, VI z.way, .slice (hd z.fa) z.fl.length z.fc, VI z.writes, VI z.lives]) 86, .own (some z.a1) z.ls.length z.c1 ((z.ls).flatMap slE) 57 1, .obj z.mb (mobj kI z.M z.mc), .own z.fa z.fl.length z.fc ((z.fl).map V8) 5 1]) (Lr := ([.own (some fb6) 512 512 ((wh c.b.l).map V8) 5 1, .blk b1 (([VI c.kind, VI c.i, VI c.part, c.b.v, c.ks.v] : List Value)) 70, .blk rb ([.slice (hd y.a1) y.D.last.length y.c1, .slice (hd y.a2) y.D.last.length y.c2, .bool y.D.off, VI y.D.armed, VI y.D.part, VI y.D.way, .string ⟨(y.cm).toArray⟩, VI y.D.writes, VI y.D.lives]) 106, .own y.a1 y.D.last.length y.c1 ((y.D.last).flatMap strD) 9 1, .own y.a2 y.D.last.length y.c2 ((rwf y.D 0).flatMap strD) 9 1] : List Ch)) (T := z.T) ((perm_front (j := 2) rfl).trans (.cons _ ((perm_front (j := 2) rfl).trans (.cons _ ((perm_front (j := 2) rfl).trans (.cons _ ((perm_front (j := 2) rfl).trans (.cons _ (.refl _))))))))) Hc ((perm_front (j := 0) rfl).trans (.cons _ ((perm_front (j := 0) rfl).trans (.cons _ ((perm_front (j := 3) rfl).trans (.cons _ ((perm_front (j := 3) rfl).trans (.cons _ ((perm_front (j := 3) rfl).trans (.cons _ ((perm_front (j := 3) rfl).trans (.cons _ (.refl _)))))))))))))
   clear Hc
   replace H : Hp _ w _ (Ch.own (some fb6) 512 512 ((wh c.b.l).map V8) 5 1 :: Ch.blk b1 (([VI c.kind, VI c.i, VI c.part, c.b.v, c.ks.v] : List Value)) 70 :: Ch.blk db ([.slice (hd (some y7.a1)) y7.ls.length y7.c1, .map (some y7.mb), .bool y7.off, VI y7.armed, VI y7.part, VI y7.way, .slice (hd y7.fa) y7.fl.length y7.fc, VI y7.writes, VI y7.lives]) 86 :: Ch.own (some y7.a1) y7.ls.length y7.c1 ((y7.ls).flatMap slE) 57 1 :: Ch.obj y7.mb (mobj kI y7.M y7.mc) :: Ch.own y7.fa y7.fl.length y7.fc ((y7.fl).map V8) 5 1 :: Ch.blk rb ([.slice (hd y.a1) y.D.last.length y.c1, .slice (hd y.a2) y.D.last.length y.c2, .bool y.D.off, VI y.D.armed, VI y.D.part, VI y.D.way, .string ⟨(y.cm).toArray⟩, VI y.D.writes, VI y.D.lives]) 106 :: Ch.own y.a1 y.D.last.length y.c1 ((y.D.last).flatMap strD) 9 1 :: Ch.own y.a2 y.D.last.length y.c2 ((rwf y.D 0).flatMap strD) 9 1 :: y7.T) := H
   replace hya8 : y7.abs = dWrite z.abs c.i (wh c.b.l) := hya8
   have hya8w := dWrite_wl hya8
   have hyo9n := hyo9.n
   refine ⟨H.sub (.cons _ (.cons_cons _ (List.nil_sublist _))), ?_⟩
   replace HS := H.sub (.cons _ (.cons_cons _ (List.nil_sublist _)))
   refine t_step 12 rfl (by kernel_rfl) (o_callR Try.func31 rfl rfl rfl (full_ret _ c.b (hop.2.2.2.1.up H hap1)) ?_)
   rintro _ w ⟨fb11, rfl, Hc⟩
   replace H : Hp _ w _ (Ch.own (some fb11) 512 512 ((wh c.b.l).map V8) 5 1 :: Ch.own (some fb6) 512 512 ((wh c.b.l).map V8) 5 1 :: Ch.blk b1 (([VI c.kind, VI c.i, VI c.part, c.b.v, c.ks.v] : List Value)) 70 :: Ch.blk db ([.slice (hd (some y7.a1)) y7.ls.length y7.c1, .map (some y7.mb), .bool y7.off, VI y7.armed, VI y7.part, VI y7.way, .slice (hd y7.fa) y7.fl.length y7.fc, VI y7.writes, VI y7.lives]) 86 :: Ch.own (some y7.a1) y7.ls.length y7.c1 ((y7.ls).flatMap slE) 57 1 :: Ch.obj y7.mb (mobj kI y7.M y7.mc) :: Ch.own y7.fa y7.fl.length y7.fc ((y7.fl).map V8) 5 1 :: Ch.blk rb ([.slice (hd y.a1) y.D.last.length y.c1, .slice (hd y.a2) y.D.last.length y.c2, .bool y.D.off, VI y.D.armed, VI y.D.part, VI y.D.way, .string ⟨(y.cm).toArray⟩, VI y.D.writes, VI y.D.lives]) 106 :: Ch.own y.a1 y.D.last.length y.c1 ((y.D.last).flatMap strD) 9 1 :: Ch.own y.a2 y.D.last.length y.c2 ((rwf y.D 0).flatMap strD) 9 1 :: y7.T) := (H.call Hc).rot
   clear Hc
   refine ⟨H.sub (.cons _ (.cons _ (.cons_cons _ (List.nil_sublist _)))), ?_⟩
   replace HS := H.sub (.cons _ (.cons _ (.cons_cons _ (List.nil_sublist _))))
   refine t_step 13 rfl (by kernel_rfl) (o_val (r_b2S (s := ⟨hd (some fb11), 512, 512, wh c.b.l⟩) Try.underlying57 Try.underlying5 Try.underlying9 rfl (H.slOwn (i := 0) rfl)) ?_)
   refine ⟨H.sub (.cons _ (.cons _ (.cons_cons _ (List.nil_sublist _)))), ?_⟩
   replace HS := H.sub (.cons _ (.cons _ (.cons_cons _ (List.nil_sublist _))))
   refine t_step 14 rfl (by kernel_rfl) (o_callR Try.func60 rfl rfl rfl (rwrite_ret _ rb y (H.ownU (L := [.own (some fb11) 512 512 ((wh c.b.l).map V8) 5 1, .own (some fb6) 512 512 ((wh c.b.l).map V8) 5 1, .blk b1 (([VI c.kind, VI c.i, VI c.part, c.b.v, c.ks.v] : List Value)) 70, .blk db ([.slice (hd (some y7.a1)) y7.ls.length y7.c1, .map (some y7.mb), .bool y7.off, VI y7.armed, VI y7.part, VI y7.way, .slice (hd y7.fa) y7.fl.length y7.fc, VI y7.writes, VI y7.lives]) 86, .own (some y7.a1) y7.ls.length y7.c1 ((y7.ls).flatMap slE) 57 1, .obj y7.mb (mobj kI y7.M y7.mc), .own y7.fa y7.fl.length y7.fc ((y7.fl).map V8) 5 1, .blk rb ([.slice (hd y.a1) y.D.last.length y.c1, .slice (hd y.a2) y.D.last.length y.c2, .bool y.D.off, VI y.D.armed, VI y.D.part, VI y.D.way, .string ⟨(y.cm).toArray⟩, VI y.D.writes, VI y.D.lives]) 106, .own y.a1 y.D.last.length y.c1 ((y.D.last).flatMap strD) 9 1, .own y.a2 y.D.last.length y.c2 ((rwf y.D 0).flatMap strD) 9 1]) (L1 := [.blk rb ([.slice (hd y.a1) y.D.last.length y.c1, .slice (hd y.a2) y.D.last.length y.c2, .bool y.D.off, VI y.D.armed, VI y.D.part, VI y.D.way, .string ⟨(y.cm).toArray⟩, VI y.D.writes, VI y.D.lives]) 106, .own y.a1 y.D.last.length y.c1 ((y.D.last).flatMap strD) 9 1, .own y.a2 y.D.last.length y.c2 ((rwf y.D 0).flatMap strD) 9 1]) (Lr := ([.own (some fb11) 512 512 ((wh c.b.l).map V8) 5 1, .own (some fb6) 512 512 ((wh c.b.l).map V8) 5 1, .blk b1 (([VI c.kind, VI c.i, VI c.part, c.b.v, c.ks.v] : List Value)) 70, .blk db ([.slice (hd (some y7.a1)) y7.ls.length y7.c1, .map (some y7.mb), .bool y7.off, VI y7.armed, VI y7.part, VI y7.way, .slice (hd y7.fa) y7.fl.length y7.fc, VI y7.writes, VI y7.lives]) 86, .own (some y7.a1) y7.ls.length y7.c1 ((y7.ls).flatMap slE) 57 1, .obj y7.mb (mobj kI y7.M y7.mc), .own y7.fa y7.fl.length y7.fc ((y7.fl).map V8) 5 1] : List Ch)) (T := y7.T) ((perm_front (j := 7) rfl).trans (.cons _ ((perm_front (j := 7) rfl).trans (.cons _ ((perm_front (j := 7) rfl).trans (.cons _ (.refl _)))))))) hy c.i (wh c.b.l) (by omega)) ?_)
   rintro _ w ⟨rfl, y12, hyd13, hyo14, Hc⟩
   replace H := H.callU (L1' := [.blk rb ([.slice (hd y12.a1) y12.D.last.length y12.c1, .slice (hd y12.a2) y12.D.last.length y12.c2, .bool y12.D.off, VI y12.D.armed, VI y12.D.part, VI y12.D.way, .string ⟨(y12.cm).toArray⟩, VI y12.D.writes, VI y12.D.lives]) 106, .own y12.a1 y12.D.last.length y12.c1 ((y12.D.last).flatMap strD) 9 1, .own y12.a2 y12.D.last.length y12.c2 ((rwf y12.D 0).flatMap strD) 9 1]) (L := [.own (some fb11) 512 512 ((wh c.b.l).map V8) 5 1, .own (some fb6) 512 512 ((wh c.b.l).map V8) 5 1, .blk b1 (([VI c.kind, VI c.i, VI c.part, c.b.v, c.ks.v] : List Value)) 70, .blk db ([.slice (hd (some y7.a1)) y7.ls.length y7.c1, .map (some y7.mb), .bool y7.off, VI y7.armed, VI y7.part, VI y7.way, .slice (hd y7.fa) y7.fl.length y7.fc, VI y7.writes, VI y7.lives]) 86, .own (some y7.a1) y7.ls.length y7.c1 ((y7.ls).flatMap slE) 57 1, .obj y7.mb (mobj kI y7.M y7.mc), .own y7.fa y7.fl.length y7.fc ((y7.fl).map V8) 5 1, .blk rb ([.slice (hd y.a1) y.D.last.length y.c1, .slice (hd y.a2) y.D.last.length y.c2, .bool y.D.off, VI y.D.armed, VI y.D.part, VI y.D.way, .string ⟨(y.cm).toArray⟩, VI y.D.writes, VI y.D.lives]) 106, .own y.a1 y.D.last.length y.c1 ((y.D.last).flatMap strD) 9 1, .own y.a2 y.D.last.length y.c2 ((rwf y.D 0).flatMap strD) 9 1]) (L1 := [.blk rb ([.slice (hd y.a1) y.D.last.length y.c1, .slice (hd y.a2) y.D.last.length y.c2, .bool y.D.off, VI y.D.armed, VI y.D.part, VI y.D.way, .string ⟨(y.cm).toArray⟩, VI y.D.writes, VI y.D.lives]) 106, .own y.a1 y.D.last.length y.c1 ((y.D.last).flatMap strD) 9 1, .own y.a2 y.D.last.length y.c2 ((rwf y.D 0).flatMap strD) 9 1]) (Lr := ([.own (some fb11) 512 512 ((wh c.b.l).map V8) 5 1, .own (some fb6) 512 512 ((wh c.b.l).map V8) 5 1, .blk b1 (([VI c.kind, VI c.i, VI c.part, c.b.v, c.ks.v] : List Value)) 70, .blk db ([.slice (hd (some y7.a1)) y7.ls.length y7.c1, .map (some y7.mb), .bool y7.off, VI y7.armed, VI y7.part, VI y7.way, .slice (hd y7.fa) y7.fl.length y7.fc, VI y7.writes, VI y7.lives]) 86, .own (some y7.a1) y7.ls.length y7.c1 ((y7.ls).flatMap slE) 57 1, .obj y7.mb (mobj kI y7.M y7.mc), .own y7.fa y7.fl.length y7.fc ((y7.fl).map V8) 5 1] : List Ch)) (T := y7.T) ((perm_front (j := 7) rfl).trans (.cons _ ((perm_front (j := 7) rfl).trans (.cons _ ((perm_front (j := 7) rfl).trans (.cons _ (.refl _))))))) Hc (.refl _)
   clear Hc
   replace H : Hp _ w _ (Ch.own (some fb11) 512 512 ((wh c.b.l).map V8) 5 1 :: Ch.own (some fb6) 512 512 ((wh c.b.l).map V8) 5 1 :: Ch.blk b1 (([VI c.kind, VI c.i, VI c.part, c.b.v, c.ks.v] : List Value)) 70 :: Ch.blk db ([.slice (hd (some y7.a1)) y7.ls.length y7.c1, .map (some y7.mb), .bool y7.off, VI y7.armed, VI y7.part, VI y7.way, .slice (hd y7.fa) y7.fl.length y7.fc, VI y7.writes, VI y7.lives]) 86 :: Ch.own (some y7.a1) y7.ls.length y7.c1 ((y7.ls).flatMap slE) 57 1 :: Ch.obj y7.mb (mobj kI y7.M y7.mc) :: Ch.own y7.fa y7.fl.length y7.fc ((y7.fl).map V8) 5 1 :: Ch.blk rb ([.slice (hd y12.a1) y12.D.last.length y12.c1, .slice (hd y12.a2) y12.D.last.length y12.c2, .bool y12.D.off, VI y12.D.armed, VI y12.D.part, VI y12.D.way, .string ⟨(y12.cm).toArray⟩, VI y12.D.writes, VI y12.D.lives]) 106 :: Ch.own y12.a1 y12.D.last.length y12.c1 ((y12.D.last).flatMap strD) 9 1 :: Ch.own y12.a2 y12.D.last.length y12.c2 ((rwf y12.D 0).flatMap strD) 9 1 :: y7.T) := H
   refine ⟨H.sub (.cons _ (.cons _ (.cons_cons _ (List.nil_sublist _)))), ?_⟩
   replace HS := H.sub (.cons _ (.cons _ (.cons_cons _ (List.nil_sublist _))))
   refine t_take 15 rfl (by kernel_rfl) (by kernel_rfl) (by kernel_rfl) (fun _ _ _ h => h) (fun w HS => r_bin (a := dWriteE z.abs c.i (wh c.b.l)) (b := dWriteE y.D c.i (wh c.b.l)) rfl rfl (fun _ => b_eqlB true (decide_eq_true (by rw [hr])))) HS ?_
   refine t_take 16 rfl (by kernel_rfl) (by kernel_rfl) (by kernel_rfl) (fun _ _ _ h => h) (fun w HS => r_as) HS ?_
   refine t_done (by kernel_rfl) ?_
   clear HS
   refine c_ret ?_
   try dsimp only [Exit.then, Exit.inBlock]
   refine e_ret1 (v := .bool true) Try.results39 rfl ?_
   refine ⟨_, rfl, ?_⟩
   have hrel : y12.D = y7.abs := by rw [hyd13, hya8, hr]
   exact ⟨rfl, y7, y12, hyo9, hyo14, hrel, by omega, by omega, hyt10, (Hp.permT (L := [.own (some fb11) 512 512 ((wh c.b.l).map V8) 5 1, .own (some fb6) 512 512 ((wh c.b.l).map V8) 5 1, .blk b1 (([VI c.kind, VI c.i, VI c.part, c.b.v, c.ks.v] : List Value)) 70, .blk db ([.slice (hd (some y7.a1)) y7.ls.length y7.c1, .map (some y7.mb), .bool y7.off, VI y7.armed, VI y7.part, VI y7.way, .slice (hd y7.fa) y7.fl.length y7.fc, VI y7.writes, VI y7.lives]) 86, .own (some y7.a1) y7.ls.length y7.c1 ((y7.ls).flatMap slE) 57 1, .obj y7.mb (mobj kI y7.M y7.mc), .own y7.fa y7.fl.length y7.fc ((y7.fl).map V8) 5 1, .blk rb ([.slice (hd y12.a1) y12.D.last.length y12.c1, .slice (hd y12.a2) y12.D.last.length y12.c2, .bool y12.D.off, VI y12.D.armed, VI y12.D.part, VI y12.D.way, .string ⟨(y12.cm).toArray⟩, VI y12.D.writes, VI y12.D.lives]) 106, .own y12.a1 y12.D.last.length y12.c1 ((y12.D.last).flatMap strD) 9 1, .own y12.a2 y12.D.last.length y12.c2 ((rwf y12.D 0).flatMap strD) 9 1]) (T := y7.T) H ((perm_front (j := 3) rfl).trans (.cons _ ((perm_front (j := 3) rfl).trans (.cons _ ((perm_front (j := 3) rfl).trans (.cons _ ((perm_front (j := 3) rfl).trans (.cons _ ((perm_front (j := 3) rfl).trans (.cons _ ((perm_front (j := 3) rfl).trans (.cons _ ((perm_front (j := 3) rfl).trans (.cons _ (.refl _)))))))))))))))).sub (.cons_cons _ (.cons_cons _ (.cons_cons _ (.cons_cons _ (.cons_cons _ (.cons_cons _ (.cons_cons _ (.cons _ (.cons _ (.cons _ ((List.Sublist.refl _))))))))))))⟩
  ·
   repeat refine c_seq ?_
   refine c_no (by exact congrArg Value.bool (decide_eq_false hc5)) ?_
   repeat refine c_seq ?_
   refine c_region ?_
   refine l_op (o_val (r_bin (a := (m2 : Int)) (b := 1) rfl rfl (fun _ => b_eql)) ?_)
   refine l_op (o_val (r_as) ?_)
   first | refine l_end ?_ | refine l_nil ?_
   by_cases hc15 : (m2 : Int) = 1
   ·
    repeat refine c_seq ?_
    refine c_yes (by exact congrArg Value.bool (decide_eq_true hc15)) ?_
    repeat refine c_seq ?_
    refine c_region ?_
    refine l_op (o_val (r_fa rfl fo70_3) ?_)
    refine l_op (o_val (r_l1 (v := c.b.v) H (i := 0) rfl rfl ct57 (show Cut3 (([VI c.kind, VI c.i, VI c.part, c.b.v, c.ks.v] : List Value)) (([VI c.kind, VI c.i, VI c.part] : List Value)) (([c.b.v] : List Value)) (([c.ks.v] : List Value)) 3 1 from ⟨(show ([VI c.kind, VI c.i, VI c.part, c.b.v, c.ks.v] : List Value) = ([VI c.kind, VI c.i, VI c.part] : List Value) ++ ((([c.b.v] : List Value)) ++ (([c.ks.v] : List Value))) from by simp only [List.cons_append, List.nil_append]), (by rfl), (by rfl)⟩)) ?_)
    refine l_op (o_callR Try.func61 rfl rfl rfl (twin_ret _ c.b (hop.2.2.2.1.up H hap1) (by omega)) ?_)
    rintro _ w ⟨b16, rfl, Hc⟩
    replace H : Hp _ w _ (Ch.blk b16 (tw c.b.l 3) 5 :: Ch.blk b1 (([VI c.kind, VI c.i, VI c.part, c.b.v, c.ks.v] : List Value)) 70 :: Ch.blk db ([.slice (hd (some z.a1)) z.ls.length z.c1, .map (some z.mb), .bool z.off, VI z.armed, VI z.part, VI z.way, .slice (hd z.fa) z.fl.length z.fc, VI z.writes, VI z.lives]) 86 :: Ch.own (some z.a1) z.ls.length z.c1 ((z.ls).flatMap slE) 57 1 :: Ch.obj z.mb (mobj kI z.M z.mc) :: Ch.own z.fa z.fl.length z.fc ((z.fl).map V8) 5 1 :: Ch.blk rb ([.slice (hd y.a1) y.D.last.length y.c1, .slice (hd y.a2) y.D.last.length y.c2, .bool y.D.off, VI y.D.armed, VI y.D.part, VI y.D.way, .string ⟨(y.cm).toArray⟩, VI y.D.writes, VI y.D.lives]) 106 :: Ch.own y.a1 y.D.last.length y.c1 ((y.D.last).flatMap strD) 9 1 :: Ch.own y.a2 y.D.last.length y.c2 ((rwf y.D 0).flatMap strD) 9 1 :: z.T) := (H.call Hc).rot
    clear Hc
    refine l_op (o_val (r_as) ?_)
    first | refine l_end ?_ | refine l_nil ?_
    repeat refine c_seq ?_
    refine wp_held (fun w => Hp w0 w (keys (dch2 db rb z y)) [.blk b16 (tw c.b.l 3) 5, .blk b1 (([VI c.kind, VI c.i, VI c.part, c.b.v, c.ks.v] : List Value)) 70]) mixed ?_
    replace H := H.drew
    have HS := H.sub (.cons_cons _ (.cons_cons _ (List.nil_sublist _)))
    refine t_take 0 rfl (by kernel_rfl) (by kernel_rfl) (by kernel_rfl) (fun _ _ _ h => h) (fun w HS => r_mv) HS ?_
    refine t_take 1 rfl (by kernel_rfl) (by kernel_rfl) (by kernel_rfl) (fun _ _ _ h => h) (fun w HS => r_fa rfl fo70_1) HS ?_
    refine t_take 2 rfl (by kernel_rfl) (by kernel_rfl) (by kernel_rfl) (fun _ _ _ h => h) (fun w HS => r_l1 (v := VI c.i) HS (i := 1) rfl rfl ct3 (show Cut3 (([VI c.kind, VI c.i, VI c.part, c.b.v, c.ks.v] : List Value)) (([VI c.kind] : List Value)) (([VI c.i] : List Value)) (([VI c.part, c.b.v, c.ks.v] : List Value)) 1 1 from ⟨(show ([VI c.kind, VI c.i, VI c.part, c.b.v, c.ks.v] : List Value) = ([VI c.kind] : List Value) ++ ((([VI c.i] : List Value)) ++ (([VI c.part, c.b.v, c.ks.v] : List Value))) from by simp only [List.cons_append, List.nil_append]), (by rfl), (by rfl)⟩)) HS ?_
    refine t_take 3 rfl (by kernel_rfl) (by kernel_rfl) (by kernel_rfl) (fun _ _ _ h => h) (fun w HS => r_mv) HS ?_
    refine t_take 5 rfl (by kernel_rfl) (by kernel_rfl) (by kernel_rfl) (fun _ _ _ h => h) (fun w HS => r_mv) HS ?_
    refine t_take 6 rfl (by kernel_rfl) (by kernel_rfl) (by kernel_rfl) (fun _ _ _ h => h) (fun w HS => r_fa rfl fo70_1) HS ?_
    refine t_take 7 rfl (by kernel_rfl) (by kernel_rfl) (by kernel_rfl) (fun _ _ _ h => h) (fun w HS => r_l1 (v := VI c.i) HS (i := 1) rfl rfl ct3 (show Cut3 (([VI c.kind, VI c.i, VI c.part, c.b.v, c.ks.v] : List Value)) (([VI c.kind] : List Value)) (([VI c.i] : List Value)) (([VI c.part, c.b.v, c.ks.v] : List Value)) 1 1 from ⟨(show ([VI c.kind, VI c.i, VI c.part, c.b.v, c.ks.v] : List Value) = ([VI c.kind] : List Value) ++ ((([VI c.i] : List Value)) ++ (([VI c.part, c.b.v, c.ks.v] : List Value))) from by simp only [List.cons_append, List.nil_append]), (by rfl), (by rfl)⟩)) HS ?_
    refine t_take 8 rfl (by kernel_rfl) (by kernel_rfl) (by kernel_rfl) (fun _ _ _ h => h) (fun w HS => r_fa rfl fo70_3) HS ?_
    refine t_take 9 rfl (by kernel_rfl) (by kernel_rfl) (by kernel_rfl) (fun _ _ _ h => h) (fun w HS => r_l1 (v := c.b.v) HS (i := 1) rfl rfl ct57 (show Cut3 (([VI c.kind, VI c.i, VI c.part, c.b.v, c.ks.v] : List Value)) (([VI c.kind, VI c.i, VI c.part] : List Value)) (([c.b.v] : List Value)) (([c.ks.v] : List Value)) 3 1 from ⟨(show ([VI c.kind, VI c.i, VI c.part, c.b.v, c.ks.v] : List Value) = ([VI c.kind, VI c.i, VI c.part] : List Value) ++ ((([c.b.v] : List Value)) ++ (([c.ks.v] : List Value))) from by simp only [List.cons_append, List.nil_append]), (by rfl), (by rfl)⟩)) HS ?_
    refine t_take 10 rfl (by kernel_rfl) (by kernel_rfl) (by kernel_rfl) (fun _ _ _ h => h) (fun w HS => r_b2S (s := c.b) Try.underlying57 Try.underlying5 Try.underlying9 rfl (hop.2.2.2.1.up HS hap1)) HS ?_
    refine t_step 4 rfl (by kernel_rfl) (o_callR Try.func34 rfl rfl rfl (dwrite_ret _ db z (H.ownT (L := [.blk b16 (tw c.b.l 3) 5, .blk b1 (([VI c.kind, VI c.i, VI c.part, c.b.v, c.ks.v] : List Value)) 70, .blk db ([.slice (hd (some z.a1)) z.ls.length z.c1, .map (some z.mb), .bool z.off, VI z.armed, VI z.part, VI z.way, .slice (hd z.fa) z.fl.length z.fc, VI z.writes, VI z.lives]) 86, .own (some z.a1) z.ls.length z.c1 ((z.ls).flatMap slE) 57 1, .obj z.mb (mobj kI z.M z.mc), .own z.fa z.fl.length z.fc ((z.fl).map V8) 5 1, .blk rb ([.slice (hd y.a1) y.D.last.length y.c1, .slice (hd y.a2) y.D.last.length y.c2, .bool y.D.off, VI y.D.armed, VI y.D.part, VI y.D.way, .string ⟨(y.cm).toArray⟩, VI y.D.writes, VI y.D.lives]) 106, .own y.a1 y.D.last.length y.c1 ((y.D.last).flatMap strD) 9 1, .own y.a2 y.D.last.length y.c2 ((rwf y.D 0).flatMap strD) 9 1]) (L1 := [.blk db ([.slice (hd (some z.a1)) z.ls.length z.c1, .map (some z.mb), .bool z.off, VI z.armed, VI z.part, VI z.way, .slice (hd z.fa) z.fl.length z.fc, VI z.writes, VI z.lives]) 86, .own (some z.a1) z.ls.length z.c1 ((z.ls).flatMap slE) 57 1, .obj z.mb (mobj kI z.M z.mc), .own z.fa z.fl.length z.fc ((z.fl).map V8) 5 1]) (Lr := ([.blk b16 (tw c.b.l 3) 5, .blk b1 (([VI c.kind, VI c.i, VI c.part, c.b.v, c.ks.v] : List Value)) 70, .blk rb ([.slice (hd y.a1) y.D.last.length y.c1, .slice (hd y.a2) y.D.last.length y.c2, .bool y.D.off, VI y.D.armed, VI y.D.part, VI y.D.way, .string ⟨(y.cm).toArray⟩, VI y.D.writes, VI y.D.lives]) 106, .own y.a1 y.D.last.length y.c1 ((y.D.last).flatMap strD) 9 1, .own y.a2 y.D.last.length y.c2 ((rwf y.D 0).flatMap strD) 9 1] : List Ch)) (T := z.T) ((perm_front (j := 2) rfl).trans (.cons _ ((perm_front (j := 2) rfl).trans (.cons _ ((perm_front (j := 2) rfl).trans (.cons _ ((perm_front (j := 2) rfl).trans (.cons _ (.refl _)))))))))) hz c.i (⟨some ⟨b16, 0, none⟩, c.b.len, c.b.len + 3, c.b.l⟩ : Sl) (kept_of_blk (H.has (.blk b16 (tw c.b.l 3) 5) (by simp)) c.b.len (by omega) (by omega)).ok (fun _ => apart_blk (L := [.blk b16 (tw c.b.l 3) 5, .blk b1 (([VI c.kind, VI c.i, VI c.part, c.b.v, c.ks.v] : List Value)) 70, .blk db ([.slice (hd (some z.a1)) z.ls.length z.c1, .map (some z.mb), .bool z.off, VI z.armed, VI z.part, VI z.way, .slice (hd z.fa) z.fl.length z.fc, VI z.writes, VI z.lives]) 86, .own (some z.a1) z.ls.length z.c1 ((z.ls).flatMap slE) 57 1, .obj z.mb (mobj kI z.M z.mc), .own z.fa z.fl.length z.fc ((z.fl).map V8) 5 1, .blk rb ([.slice (hd y.a1) y.D.last.length y.c1, .slice (hd y.a2) y.D.last.length y.c2, .bool y.D.off, VI y.D.armed, VI y.D.part, VI y.D.way, .string ⟨(y.cm).toArray⟩, VI y.D.writes, VI y.D.lives]) 106, .own y.a1 y.D.last.length y.c1 ((y.D.last).flatMap strD) 9 1, .own y.a2 y.D.last.length y.c2 ((rwf y.D 0).flatMap strD) 9 1]) (L1 := [.blk db ([.slice (hd (some z.a1)) z.ls.length z.c1, .map (some z.mb), .bool z.off, VI z.armed, VI z.part, VI z.way, .slice (hd z.fa) z.fl.length z.fc, VI z.writes, VI z.lives]) 86, .own (some z.a1) z.ls.length z.c1 ((z.ls).flatMap slE) 57 1, .obj z.mb (mobj kI z.M z.mc), .own z.fa z.fl.length z.fc ((z.fl).map V8) 5 1]) (Lr := ([.blk b16 (tw c.b.l 3) 5, .blk b1 (([VI c.kind, VI c.i, VI c.part, c.b.v, c.ks.v] : List Value)) 70, .blk rb ([.slice (hd y.a1) y.D.last.length y.c1, .slice (hd y.a2) y.D.last.length y.c2, .bool y.D.off, VI y.D.armed, VI y.D.part, VI y.D.way, .string ⟨(y.cm).toArray⟩, VI y.D.writes, VI y.D.lives]) 106, .own y.a1 y.D.last.length y.c1 ((y.D.last).flatMap strD) 9 1, .own y.a2 y.D.last.length y.c2 ((rwf y.D 0).flatMap strD) 9 1] : List Ch)) (T := z.T) H ((perm_front (j := 2) rfl).trans (.cons _ ((perm_front (j := 2) rfl).trans (.cons _ ((perm_front (j := 2) rfl).trans (.cons _ ((perm_front (j := 2) rfl).trans (.cons _ (.refl _))))))))) (List.mem_of_getElem? (i := 0) rfl)) (by omega)) ?_)
    rintro _ w ⟨rfl, y17, hya18, hyo19, hyt20, Hc⟩
    replace H := H.callT (L1' := [.blk db ([.slice (hd (some y17.a1)) y17.ls.length y17.c1, .map (some y17.mb), .bool y17.off, VI y17.armed, VI y17.part, VI y17.way, .slice (hd y17.fa) y17.fl.length y17.fc, VI y17.writes, VI y17.lives]) 86, .own (some y17.a1) y17.ls.length y17.c1 ((y17.ls).flatMap slE) 57 1, .obj y17.mb (mobj kI y17.M y17.mc), .own y17.fa y17.fl.length y17.fc ((y17.fl).map V8) 5 1]) (T' := y17.T) (L := [.blk b16 (tw c.b.l 3) 5, .blk b1 (([VI c.kind, VI c.i, VI c.part, c.b.v, c.ks.v] : List Value)) 70, .blk db ([.slice (hd (some z.a1)) z.ls.length z.c1, .map (some z.mb), .bool z.off, VI z.armed, VI z.part, VI z.way, .slice (hd z.fa) z.fl.length z.fc, VI z.writes, VI z.lives]) 86, .own (some z.a1) z.ls.length z.c1 ((z.ls).flatMap slE) 57 1, .obj z.mb (mobj kI z.M z.mc), .own z.fa z.fl.length z.fc ((z.fl).map V8) 5 1, .blk rb ([.slice (hd y.a1) y.D.last.length y.c1, .slice (hd y.a2) y.D.last.length y.c2, .bool y.D.off, VI y.D.armed, VI y.D.part, VI y.D.way, .string ⟨(y.cm).toArray⟩, VI y.D.writes, VI y.D.lives]) 106, .own y.a1 y.D.last.length y.c1 ((y.D.last).flatMap strD) 9 1, .own y.a2 y.D.last.length y.c2 ((rwf y.D 0).flatMap strD) 9 1]) (L1 := [.blk db ([.slice (hd (some z.a1)) z.ls.length z.c1, .map (some z.mb), .bool z.off, VI z.armed, VI z.part, VI z.way, .slice (hd z.fa) z.fl.length z.fc, VI z.writes, VI z.lives]) 86, .own (some z.a1) z.ls.length z.c1 ((z.ls).flatMap slE) 57 1, .obj z.mb (mobj kI z.M z.mc), .own z.fa z.fl.length z.fc ((z.fl).map V8) 5 1]) (Lr := ([.blk b16 (tw c.b.l 3) 5, .blk b1 (([VI c.kind, VI c.i, VI c.part, c.b.v, c.ks.v] : List Value)) 70, .blk rb ([.slice (hd y.a1) y.D.last.length y.c1, .slice (hd y.a2) y.D.last.length y.c2, .bool y.D.off, VI y.D.armed, VI y.D.part, VI y.D.way, .string ⟨(y.cm).toArray⟩, VI y.D.writes, VI y.D.lives]) 106, .own y.a1 y.D.last.length y.c1 ((y.D.last).flatMap strD) 9 1, .own y.a2 y.D.last.length y.c2 ((rwf y.D 0).flatMap strD) 9 1] : List Ch)) (T := z.T) ((perm_front (j := 2) rfl).trans (.cons _ ((perm_front (j := 2) rfl).trans (.cons _ ((perm_front (j := 2) rfl).trans (.cons _ ((perm_front (j := 2) rfl).trans (.cons _ (.refl _))))))))) Hc ((perm_front (j := 0) rfl).trans (.cons _ ((perm_front (j := 0) rfl).trans (.cons _ ((perm_front (j := 3) rfl).trans (.cons _ ((perm_front (j := 3) rfl).trans (.cons _ ((perm_front (j := 3) rfl).trans (.cons _ ((perm_front (j := 3) rfl).trans (.cons _ (.refl _)))))))))))))
    clear Hc
    replace H : Hp _ w _ (Ch.blk b16 (tw c.b.l 3) 5 :: Ch.blk b1 (([VI c.kind, VI c.i, VI c.part, c.b.v, c.ks.v] : List Value)) 70 :: Ch.blk db ([.slice (hd (some y17.a1)) y17.ls.length y17.c1, .map (some y17.mb), .bool y17.off, VI y17.armed, VI y17.part, VI y17.way, .slice (hd y17.fa) y17.fl.length y17.fc, VI y17.writes, VI y17.lives]) 86 :: Ch.own (some y17.a1) y17.ls.length y17.c1 ((y17.ls).flatMap slE) 57 1 :: Ch.obj y17.mb (mobj kI y17.M y17.mc) :: Ch.own y17.fa y17.fl.length y17.fc ((y17.fl).map V8) 5 1 :: Ch.blk rb ([.slice (hd y.a1) y.D.last.length y.c1, .slice (hd y.a2) y.D.last.length y.c2, .bool y.D.off, VI y.D.armed, VI y.D.part, VI y.D.way, .string ⟨(y.cm).toArray⟩, VI y.D.writes, VI y.D.lives]) 106 :: Ch.own y.a1 y.D.last.length y.c1 ((y.D.last).flatMap strD) 9 1 :: Ch.own y.a2 y.D.last.length y.c2 ((rwf y.D 0).flatMap strD) 9 1 :: y17.T) := H
    replace hya18 : y17.abs = dWrite z.abs c.i c.b.l := hya18
    have hya18w := dWrite_wl hya18
    have hyo19n := hyo19.n
    refine ⟨H.sub (.cons_cons _ (.cons_cons _ (List.nil_sublist _))), ?_⟩
    replace HS := H.sub (.cons_cons _ (.cons_cons _ (List.nil_sublist _)))
    refine t_step 11 rfl (by kernel_rfl) (o_callR Try.func60 rfl rfl rfl (rwrite_ret _ rb y (H.ownU (L := [.blk b16 (tw c.b.l 3) 5, .blk b1 (([VI c.kind, VI c.i, VI c.part, c.b.v, c.ks.v] : List Value)) 70, .blk db ([.slice (hd (some y17.a1)) y17.ls.length y17.c1, .map (some y17.mb), .bool y17.off, VI y17.armed, VI y17.part, VI y17.way, .slice (hd y17.fa) y17.fl.length y17.fc, VI y17.writes, VI y17.lives]) 86, .own (some y17.a1) y17.ls.length y17.c1 ((y17.ls).flatMap slE) 57 1, .obj y17.mb (mobj kI y17.M y17.mc), .own y17.fa y17.fl.length y17.fc ((y17.fl).map V8) 5 1, .blk rb ([.slice (hd y.a1) y.D.last.length y.c1, .slice (hd y.a2) y.D.last.length y.c2, .bool y.D.off, VI y.D.armed, VI y.D.part, VI y.D.way, .string ⟨(y.cm).toArray⟩, VI y.D.writes, VI y.D.lives]) 106, .own y.a1 y.D.last.length y.c1 ((y.D.last).flatMap strD) 9 1, .own y.a2 y.D.last.length y.c2 ((rwf y.D 0).flatMap strD) 9 1]) (L1 := [.blk rb ([.slice (hd y.a1) y.D.last.length y.c1, .slice (hd y.a2) y.D.last.length y.c2, .bool y.D.off, VI y.D.armed, VI y.D.part, VI y.D.way, .string ⟨(y.cm).toArray⟩, VI y.D.writes, VI y.D.lives]) 106, .own y.a1 y.D.last.length y.c1 ((y.D.last).flatMap strD) 9 1, .own y.a2 y.D.last.length y.c2 ((rwf y.D 0).flatMap strD) 9 1]) (Lr := ([.blk b16 (tw c.b.l 3) 5, .blk b1 (([VI c.kind, VI c.i, VI c.part, c.b.v, c.ks.v] : List Value)) 70, .blk db ([.slice (hd (some y17.a1)) y17.ls.length y17.c1, .map (some y17.mb), .bool y17.off, VI y17.armed, VI y17.part, VI y17.way, .slice (hd y17.fa) y17.fl.length y17.fc, VI y17.writes, VI y17.lives]) 86, .own (some y17.a1) y17.ls.length y17.c1 ((y17.ls).flatMap slE) 57 1, .obj y17.mb (mobj kI y17.M y17.mc), .own y17.fa y17.fl.length y17.fc ((y17.fl).map V8) 5 1] : List Ch)) (T := y17.T) ((perm_front (j := 6) rfl).trans (.cons _ ((perm_front (j := 6) rfl).trans (.cons _ ((perm_front (j := 6) rfl).trans (.cons _ (.refl _)))))))) hy c.i c.b.l (by omega)) ?_)
    rintro _ w ⟨rfl, y21, hyd22, hyo23, Hc⟩
    replace H := H.callU (L1' := [.blk rb ([.slice (hd y21.a1) y21.D.last.length y21.c1, .slice (hd y21.a2) y21.D.last.length y21.c2, .bool y21.D.off, VI y21.D.armed, VI y21.D.part, VI y21.D.way, .string ⟨(y21.cm).toArray⟩, VI y21.D.writes, VI y21.D.lives]) 106, .own y21.a1 y21.D.last.length y21.c1 ((y21.D.last).flatMap strD) 9 1, .own y21.a2 y21.D.last.length y21.c2 ((rwf y21.D 0).flatMap strD) 9 1]) (L := [.blk b16 (tw c.b.l 3) 5, .blk b1 (([VI c.kind, VI c.i, VI c.part, c.b.v, c.ks.v] : List Value)) 70, .blk db ([.slice (hd (some y17.a1)) y17.ls.length y17.c1, .map (some y17.mb), .bool y17.off, VI y17.armed, VI y17.part, VI y17.way, .slice (hd y17.fa) y17.fl.length y17.fc, VI y17.writes, VI y17.lives]) 86, .own (some y17.a1) y17.ls.length y17.c1 ((y17.ls).flatMap slE) 57 1, .obj y17.mb (mobj kI y17.M y17.mc), .own y17.fa y17.fl.length y17.fc ((y17.fl).map V8) 5 1, .blk rb ([.slice (hd y.a1) y.D.last.length y.c1, .slice (hd y.a2) y.D.last.length y.c2, .bool y.D.off, VI y.D.armed, VI y.D.part, VI y.D.way, .string ⟨(y.cm).toArray⟩, VI y.D.writes, VI y.D.lives]) 106, .own y.a1 y.D.last.length y.c1 ((y.D.last).flatMap strD) 9 1, .own y.a2 y.D.last.length y.c2 ((rwf y.D 0).flatMap strD) 9 1]) (L1 := [.blk rb ([.slice (hd y.a1) y.D.last.length y.c1, .slice (hd y.a2) y.D.last.length y.c2, .bool y.D.off, VI y.D.armed, VI y.D.part, VI y.D.way, .string ⟨(y.cm).toArray⟩, VI y.D.writes, VI y.D.lives]) 106, .own y.a1 y.D.last.length y.c1 ((y.D.last).flatMap strD) 9 1, .own y.a2 y.D.last.length y.c2 ((rwf y.D 0).flatMap strD) 9 1]) (Lr := ([.blk b16 (tw c.b.l 3) 5, .blk b1 (([VI c.kind, VI c.i, VI c.part, c.b.v, c.ks.v] : List Value)) 70, .blk db ([.slice (hd (some y17.a1)) y17.ls.length y17.c1, .map (some y17.mb), .bool y17.off, VI y17.armed, VI y17.part, VI y17.way, .slice (hd y17.fa) y17.fl.length y17.fc, VI y17.writes, VI y17.lives]) 86, .own (some y17.a1) y17.ls.length y17.c1 ((y17.ls).flatMap slE) 57 1, .obj y17.mb (mobj kI y17.M y17.mc), .own y17.fa y17.fl.length y17.fc ((y17.fl).map V8) 5 1] : List Ch)) (T := y17.T) ((perm_front (j := 6) rfl).trans (.cons _ ((perm_front (j := 6) rfl).trans (.cons _ ((perm_front (j := 6) rfl).trans (.cons _ (.refl _))))))) Hc (.refl _)
    clear Hc
    replace H : Hp _ w _ (Ch.blk b16 (tw c.b.l 3) 5 :: Ch.blk b1 (([VI c.kind, VI c.i, VI c.part, c.b.v, c.ks.v] : List Value)) 70 :: Ch.blk db ([.slice (hd (some y17.a1)) y17.ls.length y17.c1, .map (some y17.mb), .bool y17.off, VI y17.armed, VI y17.part, VI y17.way, .slice (hd y17.fa) y17.fl.length y17.fc, VI y17.writes, VI y17.lives]) 86 :: Ch.own (some y17.a1) y17.ls.length y17.c1 ((y17.ls).flatMap slE) 57 1 :: Ch.obj y17.mb (mobj kI y17.M y17.mc) :: Ch.own y17.fa y17.fl.length y17.fc ((y17.fl).map V8) 5 1 :: Ch.blk rb ([.slice (hd y21.a1) y21.D.last.length y21.c1, .slice (hd y21.a2) y21.D.last.length y21.c2, .bool y21.D.off, VI y21.D.armed, VI y21.D.part, VI y21.D.way, .string ⟨(y21.cm).toArray⟩, VI y21.D.writes, VI y21.D.lives]) 106 :: Ch.own y21.a1 y21.D.last.length y21.c1 ((y21.D.last).flatMap strD) 9 1 :: Ch.own y21.a2 y21.D.last.length y21.c2 ((rwf y21.D 0).flatMap strD) 9 1 :: y17.T) := H
    refine ⟨H.sub (.cons_cons _ (.cons_cons _ (List.nil_sublist _))), ?_⟩
    replace HS := H.sub (.cons_cons _ (.cons_cons _ (List.nil_sublist _)))
    refine t_take 12 rfl (by kernel_rfl) (by kernel_rfl) (by kernel_rfl) (fun _ _ _ h => h) (fun w HS => r_bin (a := dWriteE z.abs c.i c.b.l) (b := dWriteE y.D c.i c.b.l) rfl rfl (fun _ => b_eqlB true (decide_eq_true (by rw [hr])))) HS ?_
    refine t_take 13 rfl (by kernel_rfl) (by kernel_rfl) (by kernel_rfl) (fun _ _ _ h => h) (fun w HS => r_mv) HS ?_
    refine t_takeg 14 rfl (by kernel_rfl) (by kernel_rfl) (by kernel_rfl) (fun _ _ _ h => h) (yielded_mk _ _ _ rfl _ rfl rfl) (fun w HS => r_mv) HS ?_
    refine t_takeg 15 rfl (by kernel_rfl) (by kernel_rfl) (by kernel_rfl) (fun _ _ _ h => h) (yielded_mk _ _ _ rfl _ rfl rfl) (fun w HS => r_fa rfl fo70_3) HS ?_
    refine t_takeg 16 rfl (by kernel_rfl) (by kernel_rfl) (by kernel_rfl) (fun _ _ _ h => h) (yielded_mk _ _ _ rfl _ rfl rfl) (fun w HS => r_l1 (v := c.b.v) HS (i := 1) rfl rfl ct57 (show Cut3 (([VI c.kind, VI c.i, VI c.part, c.b.v, c.ks.v] : List Value)) (([VI c.kind, VI c.i, VI c.part] : List Value)) (([c.b.v] : List Value)) (([c.ks.v] : List Value)) 3 1 from ⟨(show ([VI c.kind, VI c.i, VI c.part, c.b.v, c.ks.v] : List Value) = ([VI c.kind, VI c.i, VI c.part] : List Value) ++ ((([c.b.v] : List Value)) ++ (([c.ks.v] : List Value))) from by simp only [List.cons_append, List.nil_append]), (by rfl), (by rfl)⟩)) HS ?_
    refine t_stepg 17 rfl (by kernel_rfl) (yielded_mk _ _ _ rfl _ rfl rfl) (o_callR Try.func62 rfl rfl rfl (kept_ret _ (⟨some ⟨b16, 0, none⟩, c.b.len, c.b.len + 3, c.b.l⟩ : Sl) c.b (kept_of_blk (H.has (.blk b16 (tw c.b.l 3) 5) (by simp)) c.b.len (by omega) (by omega)) (hop.2.2.2.1.up H hap1) rfl (by (try dsimp only); omega)) ?_)
    rintro _ w ⟨rfl, Hc⟩
    replace H : Hp _ w _ (Ch.blk b16 (tw c.b.l 3) 5 :: Ch.blk b1 (([VI c.kind, VI c.i, VI c.part, c.b.v, c.ks.v] : List Value)) 70 :: Ch.blk db ([.slice (hd (some y17.a1)) y17.ls.length y17.c1, .map (some y17.mb), .bool y17.off, VI y17.armed, VI y17.part, VI y17.way, .slice (hd y17.fa) y17.fl.length y17.fc, VI y17.writes, VI y17.lives]) 86 :: Ch.own (some y17.a1) y17.ls.length y17.c1 ((y17.ls).flatMap slE) 57 1 :: Ch.obj y17.mb (mobj kI y17.M y17.mc) :: Ch.own y17.fa y17.fl.length y17.fc ((y17.fl).map V8) 5 1 :: Ch.blk rb ([.slice (hd y21.a1) y21.D.last.length y21.c1, .slice (hd y21.a2) y21.D.last.length y21.c2, .bool y21.D.off, VI y21.D.armed, VI y21.D.part, VI y21.D.way, .string ⟨(y21.cm).toArray⟩, VI y21.D.writes, VI y21.D.lives]) 106 :: Ch.own y21.a1 y21.D.last.length y21.c1 ((y21.D.last).flatMap strD) 9 1 :: Ch.own y21.a2 y21.D.last.length y21.c2 ((rwf y21.D 0).flatMap strD) 9 1 :: y17.T) := H.keep1 Hc
    clear Hc
    refine ⟨H.sub (.cons_cons _ (.cons_cons _ (List.nil_sublist _))), ?_⟩
    replace HS := H.sub (.cons_cons _ (.cons_cons _ (List.nil_sublist _)))
    refine t_take 18 rfl (by kernel_rfl) (by kernel_rfl) (by kernel_rfl) (fun _ _ _ h => h) (fun w HS => r_pick rfl) HS ?_
    refine t_take 19 rfl (by kernel_rfl) (by kernel_rfl) (by kernel_rfl) (fun _ _ _ h => h) (fun w HS => r_as) HS ?_
    refine t_done (by kernel_rfl) ?_
    clear HS
    repeat refine c_seq ?_
    refine c_region ?_
    refine l_op (o_val (r_mv) ?_)
    refine l_op (o_callR Try.func63 rfl rfl rfl (spoilBlk5_ret H (i := 0) (len := c.b.len) (cap := c.b.len + 3) rfl (by simp [tw]; omega) (by omega) (by omega)) ?_)
    rintro _ w ⟨rfl, Hc⟩
    clear H
    have H := Hc; clear Hc
    replace H : Hp _ w _ (Ch.blk b16 (List.replicate (c.b.len + 3) (V8 90)) 5 :: Ch.blk b1 (([VI c.kind, VI c.i, VI c.part, c.b.v, c.ks.v] : List Value)) 70 :: Ch.blk db ([.slice (hd (some y17.a1)) y17.ls.length y17.c1, .map (some y17.mb), .bool y17.off, VI y17.armed, VI y17.part, VI y17.way, .slice (hd y17.fa) y17.fl.length y17.fc, VI y17.writes, VI y17.lives]) 86 :: Ch.own (some y17.a1) y17.ls.length y17.c1 ((y17.ls).flatMap slE) 57 1 :: Ch.obj y17.mb (mobj kI y17.M y17.mc) :: Ch.own y17.fa y17.fl.length y17.fc ((y17.fl).map V8) 5 1 :: Ch.blk rb ([.slice (hd y21.a1) y21.D.last.length y21.c1, .slice (hd y21.a2) y21.D.last.length y21.c2, .bool y21.D.off, VI y21.D.armed, VI y21.D.part, VI y21.D.way, .string ⟨(y21.cm).toArray⟩, VI y21.D.writes, VI y21.D.lives]) 106 :: Ch.own y21.a1 y21.D.last.length y21.c1 ((y21.D.last).flatMap strD) 9 1 :: Ch.own y21.a2 y21.D.last.length y21.c2 ((rwf y21.D 0).flatMap strD) 9 1 :: y17.T) := H
    first | refine l_end ?_ | refine l_nil ?_
    repeat refine c_seq ?_
    refine c_region ?_
    refine l_op (o_val (r_mv) ?_)
    refine l_op (o_val (r_as) ?_)
    first | refine l_end ?_ | refine l_nil ?_
    refine c_ret ?_
    try dsimp only [Exit.then, Exit.inBlock]
    refine e_ret1 (v := .bool true) Try.results39 rfl ?_
    refine ⟨_, rfl, ?_⟩
    have hrel : y21.D = y17.abs := by rw [hyd22, hya18, hr]
    exact ⟨rfl, y17, y21, hyo19, hyo23, hrel, by omega, by omega, hyt20, (Hp.permT (L := [.blk b16 (List.replicate (c.b.len + 3) (V8 90)) 5, .blk b1 (([VI c.kind, VI c.i, VI c.part, c.b.v, c.ks.v] : List Value)) 70, .blk db ([.slice (hd (some y17.a1)) y17.ls.length y17.c1, .map (some y17.mb), .bool y17.off, VI y17.armed, VI y17.part, VI y17.way, .slice (hd y17.fa) y17.fl.length y17.fc, VI y17.writes, VI y17.lives]) 86, .own (some y17.a1) y17.ls.length y17.c1 ((y17.ls).flatMap slE) 57 1, .obj y17.mb (mobj kI y17.M y17.mc), .own y17.fa y17.fl.length y17.fc ((y17.fl).map V8) 5 1, .blk rb ([.slice (hd y21.a1) y21.D.last.length y21.c1, .slice (hd y21.a2) y21.D.last.length y21.c2, .bool y21.D.off, VI y21.D.armed, VI y21.D.part, VI y21.D.way, .string ⟨(y21.cm).toArray⟩, VI y21.D.writes, VI y21.D.lives]) 106, .own y21.a1 y21.D.last.length y21.c1 ((y21.D.last).flatMap strD) 9 1, .own y21.a2 y21.D.last.length y21.c2 ((rwf y21.D 0).flatMap strD) 9 1]) (T := y17.T) H ((perm_front (j := 2) rfl).trans (.cons _ ((perm_front (j := 2) rfl).trans (.cons _ ((perm_front (j := 2) rfl).trans (.cons _ ((perm_front (j := 2) rfl).trans (.cons _ ((perm_front (j := 2) rfl).trans (.cons _ ((perm_front (j := 2) rfl).trans (.cons _ ((perm_front (j := 2) rfl).trans (.cons _ (.refl _)))))))))))))))).sub (.cons_cons _ (.cons_cons _ (.cons_cons _ (.cons_cons _ (.cons_cons _ (.cons_cons _ (.cons_cons _ (.cons _ (.cons _ ((List.Sublist.refl _)))))))))))⟩
   ·
    repeat refine c_seq ?_
    refine c_no (by exact congrArg Value.bool (decide_eq_false hc15)) ?_
    repeat refine c_seq ?_
    refine c_region ?_
    refine l_op (o_val (r_bin (a := (m2 : Int)) (b := 2) rfl rfl (fun _ => b_eql)) ?_)
    refine l_op (o_val (r_as) ?_)
    first | refine l_end ?_ | refine l_nil ?_
    by_cases hc24 : (m2 : Int) = 2
    ·
     repeat refine c_seq ?_
     refine c_yes (by exact congrArg Value.bool (decide_eq_true hc24)) ?_
     repeat refine c_seq ?_
     refine c_region ?_
     refine l_op (o_val (r_mv) ?_)
     refine l_op (o_callR Try.func35 rfl rfl rfl (dflush_ret _ db z (H.ownT (L := [.blk b1 (([VI c.kind, VI c.i, VI c.part, c.b.v, c.ks.v] : List Value)) 70, .blk db ([.slice (hd (some z.a1)) z.ls.length z.c1, .map (some z.mb), .bool z.off, VI z.armed, VI z.part, VI z.way, .slice (hd z.fa) z.fl.length z.fc, VI z.writes, VI z.lives]) 86, .own (some z.a1) z.ls.length z.c1 ((z.ls).flatMap slE) 57 1, .obj z.mb (mobj kI z.M z.mc), .own z.fa z.fl.length z.fc ((z.fl).map V8) 5 1, .blk rb ([.slice (hd y.a1) y.D.last.length y.c1, .slice (hd y.a2) y.D.last.length y.c2, .bool y.D.off, VI y.D.armed, VI y.D.part, VI y.D.way, .string ⟨(y.cm).toArray⟩, VI y.D.writes, VI y.D.lives]) 106, .own y.a1 y.D.last.length y.c1 ((y.D.last).flatMap strD) 9 1, .own y.a2 y.D.last.length y.c2 ((rwf y.D 0).flatMap strD) 9 1]) (L1 := [.blk db ([.slice (hd (some z.a1)) z.ls.length z.c1, .map (some z.mb), .bool z.off, VI z.armed, VI z.part, VI z.way, .slice (hd z.fa) z.fl.length z.fc, VI z.writes, VI z.lives]) 86, .own (some z.a1) z.ls.length z.c1 ((z.ls).flatMap slE) 57 1, .obj z.mb (mobj kI z.M z.mc), .own z.fa z.fl.length z.fc ((z.fl).map V8) 5 1]) (Lr := ([.blk b1 (([VI c.kind, VI c.i, VI c.part, c.b.v, c.ks.v] : List Value)) 70, .blk rb ([.slice (hd y.a1) y.D.last.length y.c1, .slice (hd y.a2) y.D.last.length y.c2, .bool y.D.off, VI y.D.armed, VI y.D.part, VI y.D.way, .string ⟨(y.cm).toArray⟩, VI y.D.writes, VI y.D.lives]) 106, .own y.a1 y.D.last.length y.c1 ((y.D.last).flatMap strD) 9 1, .own y.a2 y.D.last.length y.c2 ((rwf y.D 0).flatMap strD) 9 1] : List Ch)) (T := z.T) ((perm_front (j := 1) rfl).trans (.cons _ ((perm_front (j := 1) rfl).trans (.cons _ ((perm_front (j := 1) rfl).trans (.cons _ ((perm_front (j := 1) rfl).trans (.cons _ (.refl _)))))))))) hz ) ?_)
     rintro _ w ⟨rfl, y25, hya26, hyo27, hyt28, Hc⟩
     replace H := H.callT (L1' := [.blk db ([.slice (hd (some y25.a1)) y25.ls.length y25.c1, .map (some y25.mb), .bool y25.off, VI y25.armed, VI y25.part, VI y25.way, .slice (hd y25.fa) y25.fl.length y25.fc, VI y25.writes, VI y25.lives]) 86, .own (some y25.a1) y25.ls.length y25.c1 ((y25.ls).flatMap slE) 57 1, .obj y25.mb (mobj kI y25.M y25.mc), .own y25.fa y25.fl.length y25.fc ((y25.fl).map V8) 5 1]) (T' := y25.T) (L := [.blk b1 (([VI c.kind, VI c.i, VI c.part, c.b.v, c.ks.v] : List Value)) 70, .blk db ([.slice (hd (some z.a1)) z.ls.length z.c1, .map (some z.mb), .bool z.off, VI z.armed, VI z.part, VI z.way, .slice (hd z.fa) z.fl.length z.fc, VI z.writes, VI z.lives]) 86, .own (some z.a1) z.ls.length z.c1 ((z.ls).flatMap slE) 57 1, .obj z.mb (mobj kI z.M z.mc), .own z.fa z.fl.length z.fc ((z.fl).map V8) 5 1, .blk rb ([.slice (hd y.a1) y.D.last.length y.c1, .slice (hd y.a2) y.D.last.length y.c2, .bool y.D.off, VI y.D.armed, VI y.D.part, VI y.D.way, .string ⟨(y.cm).toArray⟩, VI y.D.writes, VI y.D.lives]) 106, .own y.a1 y.D.last.length y.c1 ((y.D.last).flatMap strD) 9 1, .own y.a2 y.D.last.length y.c2 ((rwf y.D 0).flatMap strD) 9 1]) (L1 := [.blk db ([.slice (hd (some z.a1)) z.ls.length z.c1, .map (some z.mb), .bool z.off, VI z.armed, VI z.part, VI z.way, .slice (hd z.fa) z.fl.length z.fc, VI z.writes, VI z.lives]) 86, .own (some z.a1) z.ls.length z.c1 ((z.ls).flatMap slE) 57 1, .obj z.mb (mobj kI z.M z.mc), .own z.fa z.fl.length z.fc ((z.fl).map V8) 5 1]) (Lr := ([.blk b1 (([VI c.kind, VI c.i, VI c.part, c.b.v, c.ks.v] : List Value)) 70, .blk rb ([.slice (hd y.a1) y.D.last.length y.c1, .slice (hd y.a2) y.D.last.length y.c2, .bool y.D.off, VI y.D.armed, VI y.D.part, VI y.D.way, .string ⟨(y.cm).toArray⟩, VI y.D.writes, VI y.D.lives]) 106, .own y.a1 y.D.last.length y.c1 ((y.D.last).flatMap strD) 9 1, .own y.a2 y.D.last.length y.c2 ((rwf y.D 0).flatMap strD) 9 1] : List Ch)) (T := z.T) ((perm_front (j := 1) rfl).trans (.cons _ ((perm_front (j := 1) rfl).trans (.cons _ ((perm_front (j := 1) rfl).trans (.cons _ ((perm_front (j := 1) rfl).trans (.cons _ (.refl _))))))))) Hc ((perm_front (j := 0) rfl).trans (.cons _ ((perm_front (j := 3) rfl).trans (.cons _ ((perm_front (j := 3) rfl).trans (.cons _ ((perm_front (j := 3) rfl).trans (.cons _ ((perm_front (j := 3) rfl).trans (.cons _ (.refl _)))))))))))
     clear Hc
     replace H : Hp _ w _ (Ch.blk b1 (([VI c.kind, VI c.i, VI c.part, c.b.v, c.ks.v] : List Value)) 70 :: Ch.blk db ([.slice (hd (some y25.a1)) y25.ls.length y25.c1, .map (some y25.mb), .bool y25.off, VI y25.armed, VI y25.part, VI y25.way, .slice (hd y25.fa) y25.fl.length y25.fc, VI y25.writes, VI y25.lives]) 86 :: Ch.own (some y25.a1) y25.ls.length y25.c1 ((y25.ls).flatMap slE) 57 1 :: Ch.obj y25.mb (mobj kI y25.M y25.mc) :: Ch.own y25.fa y25.fl.length y25.fc ((y25.fl).map V8) 5 1 :: Ch.blk rb ([.slice (hd y.a1) y.D.last.length y.c1, .slice (hd y.a2) y.D.last.length y.c2, .bool y.D.off, VI y.D.armed, VI y.D.part, VI y.D.way, .string ⟨(y.cm).toArray⟩, VI y.D.writes, VI y.D.lives]) 106 :: Ch.own y.a1 y.D.last.length y.c1 ((y.D.last).flatMap strD) 9 1 :: Ch.own y.a2 y.D.last.length y.c2 ((rwf y.D 0).flatMap strD) 9 1 :: y25.T) := H
     replace hya26 : y25.abs = dFlush z.abs := hya26
     have hya26w := dFlush_wl hya26
     have hyo27n := hyo27.n
     refine l_op (o_val (r_mv) ?_)
     refine l_op (o_callR Try.func64 rfl rfl rfl (rflush_ret _ rb y (H.ownU (L := [.blk b1 (([VI c.kind, VI c.i, VI c.part, c.b.v, c.ks.v] : List Value)) 70, .blk db ([.slice (hd (some y25.a1)) y25.ls.length y25.c1, .map (some y25.mb), .bool y25.off, VI y25.armed, VI y25.part, VI y25.way, .slice (hd y25.fa) y25.fl.length y25.fc, VI y25.writes, VI y25.lives]) 86, .own (some y25.a1) y25.ls.length y25.c1 ((y25.ls).flatMap slE) 57 1, .obj y25.mb (mobj kI y25.M y25.mc), .own y25.fa y25.fl.length y25.fc ((y25.fl).map V8) 5 1, .blk rb ([.slice (hd y.a1) y.D.last.length y.c1, .slice (hd y.a2) y.D.last.length y.c2, .bool y.D.off, VI y.D.armed, VI y.D.part, VI y.D.way, .string ⟨(y.cm).toArray⟩, VI y.D.writes, VI y.D.lives]) 106, .own y.a1 y.D.last.length y.c1 ((y.D.last).flatMap strD) 9 1, .own y.a2 y.D.last.length y.c2 ((rwf y.D 0).flatMap strD) 9 1]) (L1 := [.blk rb ([.slice (hd y.a1) y.D.last.length y.c1, .slice (hd y.a2) y.D.last.length y.c2, .bool y.D.off, VI y.D.armed, VI y.D.part, VI y.D.way, .string ⟨(y.cm).toArray⟩, VI y.D.writes, VI y.D.lives]) 106, .own y.a1 y.D.last.length y.c1 ((y.D.last).flatMap strD) 9 1, .own y.a2 y.D.last.length y.c2 ((rwf y.D 0).flatMap strD) 9 1]) (Lr := ([.blk b1 (([VI c.kind, VI c.i, VI c.part, c.b.v, c.ks.v] : List Value)) 70, .blk db ([.slice (hd (some y25.a1)) y25.ls.length y25.c1, .map (some y25.mb), .bool y25.off, VI y25.armed, VI y25.part, VI y25.way, .slice (hd y25.fa) y25.fl.length y25.fc, VI y25.writes, VI y25.lives]) 86, .own (some y25.a1) y25.ls.length y25.c1 ((y25.ls).flatMap slE) 57 1, .obj y25.mb (mobj kI y25.M y25.mc), .own y25.fa y25.fl.length y25.fc ((y25.fl).map V8) 5 1] : List Ch)) (T := y25.T) ((perm_front (j := 5) rfl).trans (.cons _ ((perm_front (j := 5) rfl).trans (.cons _ ((perm_front (j := 5) rfl).trans (.cons _ (.refl _)))))))) hy ) ?_)
     rintro _ w ⟨rfl, y29, hyd30, hyo31, Hc⟩
     replace H := H.callU (L1' := [.blk rb ([.slice (hd y29.a1) y29.D.last.length y29.c1, .slice (hd y29.a2) y29.D.last.length y29.c2, .bool y29.D.off, VI y29.D.armed, VI y29.D.part, VI y29.D.way, .string ⟨(y29.cm).toArray⟩, VI y29.D.writes, VI y29.D.lives]) 106, .own y29.a1 y29.D.last.length y29.c1 ((y29.D.last).flatMap strD) 9 1, .own y29.a2 y29.D.last.length y29.c2 ((rwf y29.D 0).flatMap strD) 9 1]) (L := [.blk b1 (([VI c.kind, VI c.i, VI c.part, c.b.v, c.ks.v] : List Value)) 70, .blk db ([.slice (hd (some y25.a1)) y25.ls.length y25.c1, .map (some y25.mb), .bool y25.off, VI y25.armed, VI y25.part, VI y25.way, .slice (hd y25.fa) y25.fl.length y25.fc, VI y25.writes, VI y25.lives]) 86, .own (some y25.a1) y25.ls.length y25.c1 ((y25.ls).flatMap slE) 57 1, .obj y25.mb (mobj kI y25.M y25.mc), .own y25.fa y25.fl.length y25.fc ((y25.fl).map V8) 5 1, .blk rb ([.slice (hd y.a1) y.D.last.length y.c1, .slice (hd y.a2) y.D.last.length y.c2, .bool y.D.off, VI y.D.armed, VI y.D.part, VI y.D.way, .string ⟨(y.cm).toArray⟩, VI y.D.writes, VI y.D.lives]) 106, .own y.a1 y.D.last.length y.c1 ((y.D.last).flatMap strD) 9 1, .own y.a2 y.D.last.length y.c2 ((rwf y.D 0).flatMap strD) 9 1]) (L1 := [.blk rb ([.slice (hd y.a1) y.D.last.length y.c1, .slice (hd y.a2) y.D.last.length y.c2, .bool y.D.off, VI y.D.armed, VI y.D.part, VI y.D.way, .string ⟨(y.cm).toArray⟩, VI y.D.writes, VI y.D.lives]) 106, .own y.a1 y.D.last.length y.c1 ((y.D.last).flatMap strD) 9 1, .own y.a2 y.D.last.length y.c2 ((rwf y.D 0).flatMap strD) 9 1]) (Lr := ([.blk b1 (([VI c.kind, VI c.i, VI c.part, c.b.v, c.ks.v] : List Value)) 70, .blk db ([.slice (hd (some y25.a1)) y25.ls.length y25.c1, .map (some y25.mb), .bool y25.off, VI y25.armed, VI y25.part, VI y25.way, .slice (hd y25.fa) y25.fl.length y25.fc, VI y25.writes, VI y25.lives]) 86, .own (some y25.a1) y25.ls.length y25.c1 ((y25.ls).flatMap slE) 57 1, .obj y25.mb (mobj kI y25.M y25.mc), .own y25.fa y25.fl.length y25.fc ((y25.fl).map V8) 5 1] : List Ch)) (T := y25.T) ((perm_front (j := 5) rfl).trans (.cons _ ((perm_front (j := 5) rfl).trans (.cons _ ((perm_front (j := 5) rfl).trans (.cons _ (.refl _))))))) Hc (.refl _)
     clear Hc
     replace H : Hp _ w _ (Ch.blk b1 (([VI c.kind, VI c.i, VI c.part, c.b.v, c.ks.v] : List Value)) 70 :: Ch.blk db ([.slice (hd (some y25.a1)) y25.ls.length y25.c1, .map (some y25.mb), .bool y25.off, VI y25.armed, VI y25.part, VI y25.way, .slice (hd y25.fa) y25.fl.length y25.fc, VI y25.writes, VI y25.lives]) 86 :: Ch.own (some y25.a1) y25.ls.length y25.c1 ((y25.ls).flatMap slE) 57 1 :: Ch.obj y25.mb (mobj kI y25.M y25.mc) :: Ch.own y25.fa y25.fl.length y25.fc ((y25.fl).map V8) 5 1 :: Ch.blk rb ([.slice (hd y29.a1) y29.D.last.length y29.c1, .slice (hd y29.a2) y29.D.last.length y29.c2, .bool y29.D.off, VI y29.D.armed, VI y29.D.part, VI y29.D.way, .string ⟨(y29.cm).toArray⟩, VI y29.D.writes, VI y29.D.lives]) 106 :: Ch.own y29.a1 y29.D.last.length y29.c1 ((y29.D.last).flatMap strD) 9 1 :: Ch.own y29.a2 y29.D.last.length y29.c2 ((rwf y29.D 0).flatMap strD) 9 1 :: y25.T) := H
     refine l_op (o_val (r_bin (a := dFlushE z.abs) (b := dFlushE y.D) rfl rfl (fun _ => b_eqlB true (decide_eq_true (by rw [hr])))) ?_)
     refine l_op (o_val (r_as) ?_)
     first | refine l_end ?_ | refine l_nil ?_
     refine c_ret ?_
     try dsimp only [Exit.then, Exit.inBlock]
     refine e_ret1 (v := .bool true) Try.results39 rfl ?_
     refine ⟨_, rfl, ?_⟩
     have hrel : y29.D = y25.abs := by rw [hyd30, hya26, hr]
     exact ⟨rfl, y25, y29, hyo27, hyo31, hrel, by omega, by omega, hyt28, (Hp.permT (L := [.blk b1 (([VI c.kind, VI c.i, VI c.part, c.b.v, c.ks.v] : List Value)) 70, .blk db ([.slice (hd (some y25.a1)) y25.ls.length y25.c1, .map (some y25.mb), .bool y25.off, VI y25.armed, VI y25.part, VI y25.way, .slice (hd y25.fa) y25.fl.length y25.fc, VI y25.writes, VI y25.lives]) 86, .own (some y25.a1) y25.ls.length y25.c1 ((y25.ls).flatMap slE) 57 1, .obj y25.mb (mobj kI y25.M y25.mc), .own y25.fa y25.fl.length y25.fc ((y25.fl).map V8) 5 1, .blk rb ([.slice (hd y29.a1) y29.D.last.length y29.c1, .slice (hd y29.a2) y29.D.last.length y29.c2, .bool y29.D.off, VI y29.D.armed, VI y29.D.part, VI y29.D.way, .string ⟨(y29.cm).toArray⟩, VI y29.D.writes, VI y29.D.lives]) 106, .own y29.a1 y29.D.last.length y29.c1 ((y29.D.last).flatMap strD) 9 1, .own y29.a2 y29.D.last.length y29.c2 ((rwf y29.D 0).flatMap strD) 9 1]) (T := y25.T) H ((perm_front (j := 1) rfl).trans (.cons _ ((perm_front (j := 1) rfl).trans (.cons _ ((perm_front (j := 1) rfl).trans (.cons _ ((perm_front (j := 1) rfl).trans (.cons _ ((perm_front (j := 1) rfl).trans (.cons _ ((perm_front (j := 1) rfl).trans (.cons _ ((perm_front (j := 1) rfl).trans (.cons _ (.refl _)))))))))))))))).sub (.cons_cons _ (.cons_cons _ (.cons_cons _ (.cons_cons _ (.cons_cons _ (.cons_cons _ (.cons_cons _ (.cons _ ((List.Sublist.refl _))))))))))⟩
    ·
     repeat refine c_seq ?_
     refine c_no (by exact congrArg Value.bool (decide_eq_false hc24)) ?_
     repeat refine c_seq ?_
     refine c_region ?_
     refine l_op (o_val (r_bin (a := (m2 : Int)) (b := 3) rfl rfl (fun _ => b_eql)) ?_)
     refine l_op (o_val (r_as) ?_)
     first | refine l_end ?_ | refine l_nil ?_
     by_cases hc32 : (m2 : Int) = 3
     ·
      repeat refine c_seq ?_
      refine c_yes (by exact congrArg Value.bool (decide_eq_true hc32)) ?_
      repeat refine c_seq ?_
      refine c_region ?_
      refine l_op (o_val (r_mv) ?_)
      refine l_op (o_val (r_fa rfl fo70_1) ?_)
      refine l_op (o_val (r_l1 (v := VI c.i) H (i := 0) rfl rfl ct3 (show Cut3 (([VI c.kind, VI c.i, VI c.part, c.b.v, c.ks.v] : List Value)) (([VI c.kind] : List Value)) (([VI c.i] : List Value)) (([VI c.part, c.b.v, c.ks.v] : List Value)) 1 1 from ⟨(show ([VI c.kind, VI c.i, VI c.part, c.b.v, c.ks.v] : List Value) = ([VI c.kind] : List Value) ++ ((([VI c.i] : List Value)) ++ (([VI c.part, c.b.v, c.ks.v] : List Value))) from by simp only [List.cons_append, List.nil_append]), (by rfl), (by rfl)⟩)) ?_)
      refine l_op (o_val (r_fa rfl fo70_2) ?_)
      refine l_op (o_val (r_l1 (v := VI c.part) H (i := 0) rfl rfl ct3 (show Cut3 (([VI c.kind, VI c.i, VI c.part, c.b.v, c.ks.v] : List Value)) (([VI c.kind, VI c.i] : List Value)) (([VI c.part] : List Value)) (([c.b.v, c.ks.v] : List Value)) 2 1 from ⟨(show ([VI c.kind, VI c.i, VI c.part, c.b.v, c.ks.v] : List Value) = ([VI c.kind, VI c.i] : List Value) ++ ((([VI c.part] : List Value)) ++ (([c.b.v, c.ks.v] : List Value))) from by simp only [List.cons_append, List.nil_append]), (by rfl), (by rfl)⟩)) ?_)
      refine l_op (o_callR Try.func36 rfl rfl rfl (darm_ret _ db z (H.ownT (L := [.blk b1 (([VI c.kind, VI c.i, VI c.part, c.b.v, c.ks.v] : List Value)) 70, .blk db ([.slice (hd (some z.a1)) z.ls.length z.c1, .map (some z.mb), .bool z.off, VI z.armed, VI z.part, VI z.way, .slice (hd z.fa) z.fl.length z.fc, VI z.writes, VI z.lives]) 86, .own (some z.a1) z.ls.length z.c1 ((z.ls).flatMap slE) 57 1, .obj z.mb (mobj kI z.M z.mc), .own z.fa z.fl.length z.fc ((z.fl).map V8) 5 1, .blk rb ([.slice (hd y.a1) y.D.last.length y.c1, .slice (hd y.a2) y.D.last.length y.c2, .bool y.D.off, VI y.D.armed, VI y.D.part, VI y.D.way, .string ⟨(y.cm).toArray⟩, VI y.D.writes, VI y.D.lives]) 106, .own y.a1 y.D.last.length y.c1 ((y.D.last).flatMap strD) 9 1, .own y.a2 y.D.last.length y.c2 ((rwf y.D 0).flatMap strD) 9 1]) (L1 := [.blk db ([.slice (hd (some z.a1)) z.ls.length z.c1, .map (some z.mb), .bool z.off, VI z.armed, VI z.part, VI z.way, .slice (hd z.fa) z.fl.length z.fc, VI z.writes, VI z.lives]) 86, .own (some z.a1) z.ls.length z.c1 ((z.ls).flatMap slE) 57 1, .obj z.mb (mobj kI z.M z.mc), .own z.fa z.fl.length z.fc ((z.fl).map V8) 5 1]) (Lr := ([.blk b1 (([VI c.kind, VI c.i, VI c.part, c.b.v, c.ks.v] : List Value)) 70, .blk rb ([.slice (hd y.a1) y.D.last.length y.c1, .slice (hd y.a2) y.D.last.length y.c2, .bool y.D.off, VI y.D.armed, VI y.D.part, VI y.D.way, .string ⟨(y.cm).toArray⟩, VI y.D.writes, VI y.D.lives]) 106, .own y.a1 y.D.last.length y.c1 ((y.D.last).flatMap strD) 9 1, .own y.a2 y.D.last.length y.c2 ((rwf y.D 0).flatMap strD) 9 1] : List Ch)) (T := z.T) ((perm_front (j := 1) rfl).trans (.cons _ ((perm_front (j := 1) rfl).trans (.cons _ ((perm_front (j := 1) rfl).trans (.cons _ ((perm_front (j := 1) rfl).trans (.cons _ (.refl _)))))))))) hz c.i c.part (by omega)) ?_)
      rintro _ w ⟨rfl, y33, hya34, hyo35, hyt36, Hc⟩
      replace H := H.callT (L1' := [.blk db ([.slice (hd (some y33.a1)) y33.ls.length y33.c1, .map (some y33.mb), .bool y33.off, VI y33.armed, VI y33.part, VI y33.way, .slice (hd y33.fa) y33.fl.length y33.fc, VI y33.writes, VI y33.lives]) 86, .own (some y33.a1) y33.ls.length y33.c1 ((y33.ls).flatMap slE) 57 1, .obj y33.mb (mobj kI y33.M y33.mc), .own y33.fa y33.fl.length y33.fc ((y33.fl).map V8) 5 1]) (T' := y33.T) (L := [.blk b1 (([VI c.kind, VI c.i, VI c.part, c.b.v, c.ks.v] : List Value)) 70, .blk db ([.slice (hd (some z.a1)) z.ls.length z.c1, .map (some z.mb), .bool z.off, VI z.armed, VI z.part, VI z.way, .slice (hd z.fa) z.fl.length z.fc, VI z.writes, VI z.lives]) 86, .own (some z.a1) z.ls.length z.c1 ((z.ls).flatMap slE) 57 1, .obj z.mb (mobj kI z.M z.mc), .own z.fa z.fl.length z.fc ((z.fl).map V8) 5 1, .blk rb ([.slice (hd y.a1) y.D.last.length y.c1, .slice (hd y.a2) y.D.last.length y.c2, .bool y.D.off, VI y.D.armed, VI y.D.part, VI y.D.way, .string ⟨(y.cm).toArray⟩, VI y.D.writes, VI y.D.lives]) 106, .own y.a1 y.D.last.length y.c1 ((y.D.last).flatMap strD) 9 1, .own y.a2 y.D.last.length y.c2 ((rwf y.D 0).flatMap strD) 9 1]) (L1 := [.blk db ([.slice (hd (some z.a1)) z.ls.length z.c1, .map (some z.mb), .bool z.off, VI z.armed, VI z.part, VI z.way, .slice (hd z.fa) z.fl.length z.fc, VI z.writes, VI z.lives]) 86, .own (some z.a1) z.ls.length z.c1 ((z.ls).flatMap slE) 57 1, .obj z.mb (mobj kI z.M z.mc), .own z.fa z.fl.length z.fc ((z.fl).map V8) 5 1]) (Lr := ([.blk b1 (([VI c.kind, VI c.i, VI c.part, c.b.v, c.ks.v] : List Value)) 70, .blk rb ([.slice (hd y.a1) y.D.last.length y.c1, .slice (hd y.a2) y.D.last.length y.c2, .bool y.D.off, VI y.D.armed, VI y.D.part, VI y.D.way, .string ⟨(y.cm).toArray⟩, VI y.D.writes, VI y.D.lives]) 106, .own y.a1 y.D.last.length y.c1 ((y.D.last).flatMap strD) 9 1, .own y.a2 y.D.last.length y.c2 ((rwf y.D 0).flatMap strD) 9 1] : List Ch)) (T := z.T) ((perm_front (j := 1) rfl).trans (.cons _ ((perm_front (j := 1) rfl).trans (.cons _ ((perm_front (j := 1) rfl).trans (.cons _ ((perm_front (j := 1) rfl).trans (.cons _ (.refl _))))))))) Hc ((perm_front (j := 0) rfl).trans (.cons _ ((perm_front (j := 3) rfl).trans (.cons _ ((perm_front (j := 3) rfl).trans (.cons _ ((perm_front (j := 3) rfl).trans (.cons _ ((perm_front (j := 3) rfl).trans (.cons _ (.refl _)))))))))))
      clear Hc
      replace H : Hp _ w _ (Ch.blk b1 (([VI c.kind, VI c.i, VI c.part, c.b.v, c.ks.v] : List Value)) 70 :: Ch.blk db ([.slice (hd (some y33.a1)) y33.ls.length y33.c1, .map (some y33.mb), .bool y33.off, VI y33.armed, VI y33.part, VI y33.way, .slice (hd y33.fa) y33.fl.length y33.fc, VI y33.writes, VI y33.lives]) 86 :: Ch.own (some y33.a1) y33.ls.length y33.c1 ((y33.ls).flatMap slE) 57 1 :: Ch.obj y33.mb (mobj kI y33.M y33.mc) :: Ch.own y33.fa y33.fl.length y33.fc ((y33.fl).map V8) 5 1 :: Ch.blk rb ([.slice (hd y.a1) y.D.last.length y.c1, .slice (hd y.a2) y.D.last.length y.c2, .bool y.D.off, VI y.D.armed, VI y.D.part, VI y.D.way, .string ⟨(y.cm).toArray⟩, VI y.D.writes, VI y.D.lives]) 106 :: Ch.own y.a1 y.D.last.length y.c1 ((y.D.last).flatMap strD) 9 1 :: Ch.own y.a2 y.D.last.length y.c2 ((rwf y.D 0).flatMap strD) 9 1 :: y33.T) := H
      replace hya34 : y33.abs = dArm z.abs c.i c.part := hya34
      have hya34w := dArm_wl hya34
      have hyo35n := hyo35.n
      first | refine l_end ?_ | refine l_nil ?_
      repeat refine c_seq ?_
      refine c_region ?_
      refine l_op (o_val (r_mv) ?_)
      refine l_op (o_val (r_fa rfl fo70_1) ?_)
      refine l_op (o_val (r_l1 (v := VI c.i) H (i := 0) rfl rfl ct3 (show Cut3 (([VI c.kind, VI c.i, VI c.part, c.b.v, c.ks.v] : List Value)) (([VI c.kind] : List Value)) (([VI c.i] : List Value)) (([VI c.part, c.b.v, c.ks.v] : List Value)) 1 1 from ⟨(show ([VI c.kind, VI c.i, VI c.part, c.b.v, c.ks.v] : List Value) = ([VI c.kind] : List Value) ++ ((([VI c.i] : List Value)) ++ (([VI c.part, c.b.v, c.ks.v] : List Value))) from by simp only [List.cons_append, List.nil_append]), (by rfl), (by rfl)⟩)) ?_)
      refine l_op (o_val (r_fa rfl fo70_2) ?_)
      refine l_op (o_val (r_l1 (v := VI c.part) H (i := 0) rfl rfl ct3 (show Cut3 (([VI c.kind, VI c.i, VI c.part, c.b.v, c.ks.v] : List Value)) (([VI c.kind, VI c.i] : List Value)) (([VI c.part] : List Value)) (([c.b.v, c.ks.v] : List Value)) 2 1 from ⟨(show ([VI c.kind, VI c.i, VI c.part, c.b.v, c.ks.v] : List Value) = ([VI c.kind, VI c.i] : List Value) ++ ((([VI c.part] : List Value)) ++ (([c.b.v, c.ks.v] : List Value))) from by simp only [List.cons_append, List.nil_append]), (by rfl), (by rfl)⟩)) ?_)
      refine l_op (o_callR Try.func65 rfl rfl rfl (rarm_ret _ rb y (H.ownU (L := [.blk b1 (([VI c.kind, VI c.i, VI c.part, c.b.v, c.ks.v] : List Value)) 70, .blk db ([.slice (hd (some y33.a1)) y33.ls.length y33.c1, .map (some y33.mb), .bool y33.off, VI y33.armed, VI y33.part, VI y33.way, .slice (hd y33.fa) y33.fl.length y33.fc, VI y33.writes, VI y33.lives]) 86, .own (some y33.a1) y33.ls.length y33.c1 ((y33.ls).flatMap slE) 57 1, .obj y33.mb (mobj kI y33.M y33.mc), .own y33.fa y33.fl.length y33.fc ((y33.fl).map V8) 5 1, .blk rb ([.slice (hd y.a1) y.D.last.length y.c1, .slice (hd y.a2) y.D.last.length y.c2, .bool y.D.off, VI y.D.armed, VI y.D.part, VI y.D.way, .string ⟨(y.cm).toArray⟩, VI y.D.writes, VI y.D.lives]) 106, .own y.a1 y.D.last.length y.c1 ((y.D.last).flatMap strD) 9 1, .own y.a2 y.D.last.length y.c2 ((rwf y.D 0).flatMap strD) 9 1]) (L1 := [.blk rb ([.slice (hd y.a1) y.D.last.length y.c1, .slice (hd y.a2) y.D.last.length y.c2, .bool y.D.off, VI y.D.armed, VI y.D.part, VI y.D.way, .string ⟨(y.cm).toArray⟩, VI y.D.writes, VI y.D.lives]) 106, .own y.a1 y.D.last.length y.c1 ((y.D.last).flatMap strD) 9 1, .own y.a2 y.D.last.length y.c2 ((rwf y.D 0).flatMap strD) 9 1]) (Lr := ([.blk b1 (([VI c.kind, VI c.i, VI c.part, c.b.v, c.ks.v] : List Value)) 70, .blk db ([.slice (hd (some y33.a1)) y33.ls.length y33.c1, .map (some y33.mb), .bool y33.off, VI y33.armed, VI y33.part, VI y33.way, .slice (hd y33.fa) y33.fl.length y33.fc, VI y33.writes, VI y33.lives]) 86, .own (some y33.a1) y33.ls.length y33.c1 ((y33.ls).flatMap slE) 57 1, .obj y33.mb (mobj kI y33.M y33.mc), .own y33.fa y33.fl.length y33.fc ((y33.fl).map V8) 5 1] : List Ch)) (T := y33.T) ((perm_front (j := 5) rfl).trans (.cons _ ((perm_front (j := 5) rfl).trans (.cons _ ((perm_front (j := 5) rfl).trans (.cons _ (.refl _)))))))) hy c.i c.part (by omega)) ?_)
      rintro _ w ⟨rfl, y37, hyd38, hyo39, Hc⟩
      replace H := H.callU (L1' := [.blk rb ([.slice (hd y37.a1) y37.D.last.length y37.c1, .slice (hd y37.a2) y37.D.last.length y37.c2, .bool y37.D.off, VI y37.D.armed, VI y37.D.part, VI y37.D.way, .string ⟨(y37.cm).toArray⟩, VI y37.D.writes, VI y37.D.lives]) 106, .own y37.a1 y37.D.last.length y37.c1 ((y37.D.last).flatMap strD) 9 1, .own y37.a2 y37.D.last.length y37.c2 ((rwf y37.D 0).flatMap strD) 9 1]) (L := [.blk b1 (([VI c.kind, VI c.i, VI c.part, c.b.v, c.ks.v] : List Value)) 70, .blk db ([.slice (hd (some y33.a1)) y33.ls.length y33.c1, .map (some y33.mb), .bool y33.off, VI y33.armed, VI y33.part, VI y33.way, .slice (hd y33.fa) y33.fl.length y33.fc, VI y33.writes, VI y33.lives]) 86, .own (some y33.a1) y33.ls.length y33.c1 ((y33.ls).flatMap slE) 57 1, .obj y33.mb (mobj kI y33.M y33.mc), .own y33.fa y33.fl.length y33.fc ((y33.fl).map V8) 5 1, .blk rb ([.slice (hd y.a1) y.D.last.length y.c1, .slice (hd y.a2) y.D.last.length y.c2, .bool y.D.off, VI y.D.armed, VI y.D.part, VI y.D.way, .string ⟨(y.cm).toArray⟩, VI y.D.writes, VI y.D.lives]) 106, .own y.a1 y.D.last.length y.c1 ((y.D.last).flatMap strD) 9 1, .own y.a2 y.D.last.length y.c2 ((rwf y.D 0).flatMap strD) 9 1]) (L1 := [.blk rb ([.slice (hd y.a1) y.D.last.length y.c1, .slice (hd y.a2) y.D.last.length y.c2, .bool y.D.off, VI y.D.armed, VI y.D.part, VI y.D.way, .string ⟨(y.cm).toArray⟩, VI y.D.writes, VI y.D.lives]) 106, .own y.a1 y.D.last.length y.c1 ((y.D.last).flatMap strD) 9 1, .own y.a2 y.D.last.length y.c2 ((rwf y.D 0).flatMap strD) 9 1]) (Lr := ([.blk b1 (([VI c.kind, VI c.i, VI c.part, c.b.v, c.ks.v] : List Value)) 70, .blk db ([.slice (hd (some y33.a1)) y33.ls.length y33.c1, .map (some y33.mb), .bool y33.off, VI y33.armed, VI y33.part, VI y33.way, .slice (hd y33.fa) y33.fl.length y33.fc, VI y33.writes, VI y33.lives]) 86, .own (some y33.a1) y33.ls.length y33.c1 ((y33.ls).flatMap slE) 57 1, .obj y33.mb (mobj kI y33.M y33.mc), .own y33.fa y33.fl.length y33.fc ((y33.fl).map V8) 5 1] : List Ch)) (T := y33.T) ((perm_front (j := 5) rfl).trans (.cons _ ((perm_front (j := 5) rfl).trans (.cons _ ((perm_front (j := 5) rfl).trans (.cons _ (.refl _))))))) Hc (.refl _)
      clear Hc
      replace H : Hp _ w _ (Ch.blk b1 (([VI c.kind, VI c.i, VI c.part, c.b.v, c.ks.v] : List Value)) 70 :: Ch.blk db ([.slice (hd (some y33.a1)) y33.ls.length y33.c1, .map (some y33.mb), .bool y33.off, VI y33.armed, VI y33.part, VI y33.way, .slice (hd y33.fa) y33.fl.length y33.fc, VI y33.writes, VI y33.lives]) 86 :: Ch.own (some y33.a1) y33.ls.length y33.c1 ((y33.ls).flatMap slE) 57 1 :: Ch.obj y33.mb (mobj kI y33.M y33.mc) :: Ch.own y33.fa y33.fl.length y33.fc ((y33.fl).map V8) 5 1 :: Ch.blk rb ([.slice (hd y37.a1) y37.D.last.length y37.c1, .slice (hd y37.a2) y37.D.last.length y37.c2, .bool y37.D.off, VI y37.D.armed, VI y37.D.part, VI y37.D.way, .string ⟨(y37.cm).toArray⟩, VI y37.D.writes, VI y37.D.lives]) 106 :: Ch.own y37.a1 y37.D.last.length y37.c1 ((y37.D.last).flatMap strD) 9 1 :: Ch.own y37.a2 y37.D.last.length y37.c2 ((rwf y37.D 0).flatMap strD) 9 1 :: y33.T) := H
      first | refine l_end ?_ | refine l_nil ?_
      repeat refine c_seq ?_
      refine c_region ?_
      refine l_op (o_val (r_as) ?_)
      first | refine l_end ?_ | refine l_nil ?_
      refine c_ret ?_
      try dsimp only [Exit.then, Exit.inBlock]
      refine e_ret1 (v := .bool true) Try.results39 rfl ?_
      refine ⟨_, rfl, ?_⟩
      have hrel : y37.D = y33.abs := by rw [hyd38, hya34, hr]
      exact ⟨rfl, y33, y37, hyo35, hyo39, hrel, by omega, by omega, hyt36, (Hp.permT (L := [.blk b1 (([VI c.kind, VI c.i, VI c.part, c.b.v, c.ks.v] : List Value)) 70, .blk db ([.slice (hd (some y33.a1)) y33.ls.length y33.c1, .map (some y33.mb), .bool y33.off, VI y33.armed, VI y33.part, VI y33.way, .slice (hd y33.fa) y33.fl.length y33.fc, VI y33.writes, VI y33.lives]) 86, .own (some y33.a1) y33.ls.length y33.c1 ((y33.ls).flatMap slE) 57 1, .obj y33.mb (mobj kI y33.M y33.mc), .own y33.fa y33.fl.length y33.fc ((y33.fl).map V8) 5 1, .blk rb ([.slice (hd y37.a1) y37.D.last.length y37.c1, .slice (hd y37.a2) y37.D.last.length y37.c2, .bool y37.D.off, VI y37.D.armed, VI y37.D.part, VI y37.D.way, .string ⟨(y37.cm).toArray⟩, VI y37.D.writes, VI y37.D.lives]) 106, .own y37.a1 y37.D.last.length y37.c1 ((y37.D.last).flatMap strD) 9 1, .own y37.a2 y37.D.last.length y37.c2 ((rwf y37.D 0).flatMap strD) 9 1]) (T := y33.T) H ((perm_front (j := 1) rfl).trans (.cons _ ((perm_front (j := 1) rfl).trans (.cons _ ((perm_front (j := 1) rfl).trans (.cons _ ((perm_front (j := 1) rfl).trans (.cons _ ((perm_front (j := 1) rfl).trans (.cons _ ((perm_front (j := 1) rfl).trans (.cons _ ((perm_front (j := 1) rfl).trans (.cons _ (.refl _)))))))))))))))).sub (.cons_cons _ (.cons_cons _ (.cons_cons _ (.cons_cons _ (.cons_cons _ (.cons_cons _ (.cons_cons _ (.cons _ ((List.Sublist.refl _))))))))))⟩
     ·
      repeat refine c_seq ?_
      refine c_no (by exact congrArg Value.bool (decide_eq_false hc32)) ?_
      repeat refine c_seq ?_
      refine c_region ?_
      refine l_op (o_val (r_bin (a := (m2 : Int)) (b := 4) rfl rfl (fun _ => b_eql)) ?_)
      refine l_op (o_val (r_as) ?_)
      first | refine l_end ?_ | refine l_nil ?_
      by_cases hc40 : (m2 : Int) = 4
      ·
       repeat refine c_seq ?_
       refine c_yes (by exact congrArg Value.bool (decide_eq_true hc40)) ?_
       repeat refine c_seq ?_
       refine c_region ?_
       refine l_op (o_val (r_mv) ?_)
       refine l_op (o_val (r_fa rfl fo70_4) ?_)
       refine l_op (o_val (r_l1 (v := c.ks.v) H (i := 0) rfl rfl ct68 (show Cut3 (([VI c.kind, VI c.i, VI c.part, c.b.v, c.ks.v] : List Value)) (([VI c.kind, VI c.i, VI c.part, c.b.v] : List Value)) (([c.ks.v] : List Value)) (([] : List Value)) 4 1 from ⟨(show ([VI c.kind, VI c.i, VI c.part, c.b.v, c.ks.v] : List Value) = ([VI c.kind, VI c.i, VI c.part, c.b.v] : List Value) ++ ((([c.ks.v] : List Value)) ++ (([] : List Value))) from by simp only [List.cons_append, List.nil_append]), (by rfl), (by rfl)⟩)) ?_)
       refine l_op (o_callR Try.func37 rfl rfl rfl (dpower_ret _ db z (H.ownT (L := [.blk b1 (([VI c.kind, VI c.i, VI c.part, c.b.v, c.ks.v] : List Value)) 70, .blk db ([.slice (hd (some z.a1)) z.ls.length z.c1, .map (some z.mb), .bool z.off, VI z.armed, VI z.part, VI z.way, .slice (hd z.fa) z.fl.length z.fc, VI z.writes, VI z.lives]) 86, .own (some z.a1) z.ls.length z.c1 ((z.ls).flatMap slE) 57 1, .obj z.mb (mobj kI z.M z.mc), .own z.fa z.fl.length z.fc ((z.fl).map V8) 5 1, .blk rb ([.slice (hd y.a1) y.D.last.length y.c1, .slice (hd y.a2) y.D.last.length y.c2, .bool y.D.off, VI y.D.armed, VI y.D.part, VI y.D.way, .string ⟨(y.cm).toArray⟩, VI y.D.writes, VI y.D.lives]) 106, .own y.a1 y.D.last.length y.c1 ((y.D.last).flatMap strD) 9 1, .own y.a2 y.D.last.length y.c2 ((rwf y.D 0).flatMap strD) 9 1]) (L1 := [.blk db ([.slice (hd (some z.a1)) z.ls.length z.c1, .map (some z.mb), .bool z.off, VI z.armed, VI z.part, VI z.way, .slice (hd z.fa) z.fl.length z.fc, VI z.writes, VI z.lives]) 86, .own (some z.a1) z.ls.length z.c1 ((z.ls).flatMap slE) 57 1, .obj z.mb (mobj kI z.M z.mc), .own z.fa z.fl.length z.fc ((z.fl).map V8) 5 1]) (Lr := ([.blk b1 (([VI c.kind, VI c.i, VI c.part, c.b.v, c.ks.v] : List Value)) 70, .blk rb ([.slice (hd y.a1) y.D.last.length y.c1, .slice (hd y.a2) y.D.last.length y.c2, .bool y.D.off, VI y.D.armed, VI y.D.part, VI y.D.way, .string ⟨(y.cm).toArray⟩, VI y.D.writes, VI y.D.lives]) 106, .own y.a1 y.D.last.length y.c1 ((y.D.last).flatMap strD) 9 1, .own y.a2 y.D.last.length y.c2 ((rwf y.D 0).flatMap strD) 9 1] : List Ch)) (T := z.T) ((perm_front (j := 1) rfl).trans (.cons _ ((perm_front (j := 1) rfl).trans (.cons _ ((perm_front (j := 1) rfl).trans (.cons _ ((perm_front (j := 1) rfl).trans (.cons _ (.refl _)))))))))) hz c.ks (hop.2.2.2.2.upA H hap2) (fun hn => apart_sub (hap2 hn) keys_d) (by omega)) ?_)
       rintro _ w ⟨rfl, y41, hya42, hyo43, hyt44, Hc⟩
       replace H := H.callT (L1' := [.blk db ([.slice (hd (some y41.a1)) y41.ls.length y41.c1, .map (some y41.mb), .bool y41.off, VI y41.armed, VI y41.part, VI y41.way, .slice (hd y41.fa) y41.fl.length y41.fc, VI y41.writes, VI y41.lives]) 86, .own (some y41.a1) y41.ls.length y41.c1 ((y41.ls).flatMap slE) 57 1, .obj y41.mb (mobj kI y41.M y41.mc), .own y41.fa y41.fl.length y41.fc ((y41.fl).map V8) 5 1]) (T' := y41.T) (L := [.blk b1 (([VI c.kind, VI c.i, VI c.part, c.b.v, c.ks.v] : List Value)) 70, .blk db ([.slice (hd (some z.a1)) z.ls.length z.c1, .map (some z.mb), .bool z.off, VI z.armed, VI z.part, VI z.way, .slice (hd z.fa) z.fl.length z.fc, VI z.writes, VI z.lives]) 86, .own (some z.a1) z.ls.length z.c1 ((z.ls).flatMap slE) 57 1, .obj z.mb (mobj kI z.M z.mc), .own z.fa z.fl.length z.fc ((z.fl).map V8) 5 1, .blk rb ([.slice (hd y.a1) y.D.last.length y.c1, .slice (hd y.a2) y.D.last.length y.c2, .bool y.D.off, VI y.D.armed, VI y.D.part, VI y.D.way, .string ⟨(y.cm).toArray⟩, VI y.D.writes, VI y.D.lives]) 106, .own y.a1 y.D.last.length y.c1 ((y.D.last).flatMap strD) 9 1, .own y.a2 y.D.last.length y.c2 ((rwf y.D 0).flatMap strD) 9 1]) (L1 := [.blk db ([.slice (hd (some z.a1)) z.ls.length z.c1, .map (some z.mb), .bool z.off, VI z.armed, VI z.part, VI z.way, .slice (hd z.fa) z.fl.length z.fc, VI z.writes, VI z.lives]) 86, .own (some z.a1) z.ls.length z.c1 ((z.ls).flatMap slE) 57 1, .obj z.mb (mobj kI z.M z.mc), .own z.fa z.fl.length z.fc ((z.fl).map V8) 5 1]) (Lr := ([.blk b1 (([VI c.kind, VI c.i, VI c.part, c.b.v, c.ks.v] : List Value)) 70, .blk rb ([.slice (hd y.a1) y.D.last.length y.c1, .slice (hd y.a2) y.D.last.length y.c2, .bool y.D.off, VI y.D.armed, VI y.D.part, VI y.D.way, .string ⟨(y.cm).toArray⟩, VI y.D.writes, VI y.D.lives]) 106, .own y.a1 y.D.last.length y.c1 ((y.D.last).flatMap strD) 9 1, .own y.a2 y.D.last.length y.c2 ((rwf y.D 0).flatMap strD) 9 1] : List Ch)) (T := z.T) ((perm_front (j := 1) rfl).trans (.cons _ ((perm_front (j := 1) rfl).trans (.cons _ ((perm_front (j := 1) rfl).trans (.cons _ ((perm_front (j := 1) rfl).trans (.cons _ (.refl _))))))))) Hc ((perm_front (j := 0) rfl).trans (.cons _ ((perm_front (j := 3) rfl).trans (.cons _ ((perm_front (j := 3) rfl).trans (.cons _ ((perm_front (j := 3) rfl).trans (.cons _ ((perm_front (j := 3) rfl).trans (.cons _ (.refl _)))))))))))
       clear Hc
       replace H : Hp _ w _ (Ch.blk b1 (([VI c.kind, VI c.i, VI c.part, c.b.v, c.ks.v] : List Value)) 70 :: Ch.blk db ([.slice (hd (some y41.a1)) y41.ls.length y41.c1, .map (some y41.mb), .bool y41.off, VI y41.armed, VI y41.part, VI y41.way, .slice (hd y41.fa) y41.fl.length y41.fc, VI y41.writes, VI y41.lives]) 86 :: Ch.own (some y41.a1) y41.ls.length y41.c1 ((y41.ls).flatMap slE) 57 1 :: Ch.obj y41.mb (mobj kI y41.M y41.mc) :: Ch.own y41.fa y41.fl.length y41.fc ((y41.fl).map V8) 5 1 :: Ch.blk rb ([.slice (hd y.a1) y.D.last.length y.c1, .slice (hd y.a2) y.D.last.length y.c2, .bool y.D.off, VI y.D.armed, VI y.D.part, VI y.D.way, .string ⟨(y.cm).toArray⟩, VI y.D.writes, VI y.D.lives]) 106 :: Ch.own y.a1 y.D.last.length y.c1 ((y.D.last).flatMap strD) 9 1 :: Ch.own y.a2 y.D.last.length y.c2 ((rwf y.D 0).flatMap strD) 9 1 :: y41.T) := H
       replace hya42 : y41.abs = dPower z.abs c.ks.l := hya42
       have hya42w := dPower_wl hya42
       have hyo43n := hyo43.n
       first | refine l_end ?_ | refine l_nil ?_
       repeat refine c_seq ?_
       refine c_region ?_
       refine l_op (o_val (r_mv) ?_)
       refine l_op (o_val (r_fa rfl fo70_4) ?_)
       refine l_op (o_val (r_l1 (v := c.ks.v) H (i := 0) rfl rfl ct68 (show Cut3 (([VI c.kind, VI c.i, VI c.part, c.b.v, c.ks.v] : List Value)) (([VI c.kind, VI c.i, VI c.part, c.b.v] : List Value)) (([c.ks.v] : List Value)) (([] : List Value)) 4 1 from ⟨(show ([VI c.kind, VI c.i, VI c.part, c.b.v, c.ks.v] : List Value) = ([VI c.kind, VI c.i, VI c.part, c.b.v] : List Value) ++ ((([c.ks.v] : List Value)) ++ (([] : List Value))) from by simp only [List.cons_append, List.nil_append]), (by rfl), (by rfl)⟩)) ?_)
       refine l_op (o_callR Try.func42 rfl rfl rfl (rpower_ret _ rb y (H.ownU (L := [.blk b1 (([VI c.kind, VI c.i, VI c.part, c.b.v, c.ks.v] : List Value)) 70, .blk db ([.slice (hd (some y41.a1)) y41.ls.length y41.c1, .map (some y41.mb), .bool y41.off, VI y41.armed, VI y41.part, VI y41.way, .slice (hd y41.fa) y41.fl.length y41.fc, VI y41.writes, VI y41.lives]) 86, .own (some y41.a1) y41.ls.length y41.c1 ((y41.ls).flatMap slE) 57 1, .obj y41.mb (mobj kI y41.M y41.mc), .own y41.fa y41.fl.length y41.fc ((y41.fl).map V8) 5 1, .blk rb ([.slice (hd y.a1) y.D.last.length y.c1, .slice (hd y.a2) y.D.last.length y.c2, .bool y.D.off, VI y.D.armed, VI y.D.part, VI y.D.way, .string ⟨(y.cm).toArray⟩, VI y.D.writes, VI y.D.lives]) 106, .own y.a1 y.D.last.length y.c1 ((y.D.last).flatMap strD) 9 1, .own y.a2 y.D.last.length y.c2 ((rwf y.D 0).flatMap strD) 9 1]) (L1 := [.blk rb ([.slice (hd y.a1) y.D.last.length y.c1, .slice (hd y.a2) y.D.last.length y.c2, .bool y.D.off, VI y.D.armed, VI y.D.part, VI y.D.way, .string ⟨(y.cm).toArray⟩, VI y.D.writes, VI y.D.lives]) 106, .own y.a1 y.D.last.length y.c1 ((y.D.last).flatMap strD) 9 1, .own y.a2 y.D.last.length y.c2 ((rwf y.D 0).flatMap strD) 9 1]) (Lr := ([.blk b1 (([VI c.kind, VI c.i, VI c.part, c.b.v, c.ks.v] : List Value)) 70, .blk db ([.slice (hd (some y41.a1)) y41.ls.length y41.c1, .map (some y41.mb), .bool y41.off, VI y41.armed, VI y41.part, VI y41.way, .slice (hd y41.fa) y41.fl.length y41.fc, VI y41.writes, VI y41.lives]) 86, .own (some y41.a1) y41.ls.length y41.c1 ((y41.ls).flatMap slE) 57 1, .obj y41.mb (mobj kI y41.M y41.mc), .own y41.fa y41.fl.length y41.fc ((y41.fl).map V8) 5 1] : List Ch)) (T := y41.T) ((perm_front (j := 5) rfl).trans (.cons _ ((perm_front (j := 5) rfl).trans (.cons _ ((perm_front (j := 5) rfl).trans (.cons _ (.refl _)))))))) hy c.ks (hop.2.2.2.2.upA H hap2) (fun hn => apart_sub (hap2 hn) keys_r) (by omega)) ?_)
       rintro _ w ⟨rfl, y45, hyd46, hyo47, Hc⟩
       replace H := H.callU (L1' := [.blk rb ([.slice (hd y45.a1) y45.D.last.length y45.c1, .slice (hd y45.a2) y45.D.last.length y45.c2, .bool y45.D.off, VI y45.D.armed, VI y45.D.part, VI y45.D.way, .string ⟨(y45.cm).toArray⟩, VI y45.D.writes, VI y45.D.lives]) 106, .own y45.a1 y45.D.last.length y45.c1 ((y45.D.last).flatMap strD) 9 1, .own y45.a2 y45.D.last.length y45.c2 ((rwf y45.D 0).flatMap strD) 9 1]) (L := [.blk b1 (([VI c.kind, VI c.i, VI c.part, c.b.v, c.ks.v] : List Value)) 70, .blk db ([.slice (hd (some y41.a1)) y41.ls.length y41.c1, .map (some y41.mb), .bool y41.off, VI y41.armed, VI y41.part, VI y41.way, .slice (hd y41.fa) y41.fl.length y41.fc, VI y41.writes, VI y41.lives]) 86, .own (some y41.a1) y41.ls.length y41.c1 ((y41.ls).flatMap slE) 57 1, .obj y41.mb (mobj kI y41.M y41.mc), .own y41.fa y41.fl.length y41.fc ((y41.fl).map V8) 5 1, .blk rb ([.slice (hd y.a1) y.D.last.length y.c1, .slice (hd y.a2) y.D.last.length y.c2, .bool y.D.off, VI y.D.armed, VI y.D.part, VI y.D.way, .string ⟨(y.cm).toArray⟩, VI y.D.writes, VI y.D.lives]) 106, .own y.a1 y.D.last.length y.c1 ((y.D.last).flatMap strD) 9 1, .own y.a2 y.D.last.length y.c2 ((rwf y.D 0).flatMap strD) 9 1]) (L1 := [.blk rb ([.slice (hd y.a1) y.D.last.length y.c1, .slice (hd y.a2) y.D.last.length y.c2, .bool y.D.off, VI y.D.armed, VI y.D.part, VI y.D.way, .string ⟨(y.cm).toArray⟩, VI y.D.writes, VI y.D.lives]) 106, .own y.a1 y.D.last.length y.c1 ((y.D.last).flatMap strD) 9 1, .own y.a2 y.D.last.length y.c2 ((rwf y.D 0).flatMap strD) 9 1]) (Lr := ([.blk b1 (([VI c.kind, VI c.i, VI c.part, c.b.v, c.ks.v] : List Value)) 70, .blk db ([.slice (hd (some y41.a1)) y41.ls.length y41.c1, .map (some y41.mb), .bool y41.off, VI y41.armed, VI y41.part, VI y41.way, .slice (hd y41.fa) y41.fl.length y41.fc, VI y41.writes, VI y41.lives]) 86, .own (some y41.a1) y41.ls.length y41.c1 ((y41.ls).flatMap slE) 57 1, .obj y41.mb (mobj kI y41.M y41.mc), .own y41.fa y41.fl.length y41.fc ((y41.fl).map V8) 5 1] : List Ch)) (T := y41.T) ((perm_front (j := 5) rfl).trans (.cons _ ((perm_front (j := 5) rfl).trans (.cons _ ((perm_front (j := 5) rfl).trans (.cons _ (.refl _))))))) Hc (.refl _)
       clear Hc
       replace H : Hp _ w _ (Ch.blk b1 (([VI c.kind, VI c.i, VI c.part, c.b.v, c.ks.v] : List Value)) 70 :: Ch.blk db ([.slice (hd (some y41.a1)) y41.ls.length y41.c1, .map (some y41.mb), .bool y41.off, VI y41.armed, VI y41.part, VI y41.way, .slice (hd y41.fa) y41.fl.length y41.fc, VI y41.writes, VI y41.lives]) 86 :: Ch.own (some y41.a1) y41.ls.length y41.c1 ((y41.ls).flatMap slE) 57 1 :: Ch.obj y41.mb (mobj kI y41.M y41.mc) :: Ch.own y41.fa y41.fl.length y41.fc ((y41.fl).map V8) 5 1 :: Ch.blk rb ([.slice (hd y45.a1) y45.D.last.length y45.c1, .slice (hd y45.a2) y45.D.last.length y45.c2, .bool y45.D.off, VI y45.D.armed, VI y45.D.part, VI y45.D.way, .string ⟨(y45.cm).toArray⟩, VI y45.D.writes, VI y45.D.lives]) 106 :: Ch.own y45.a1 y45.D.last.length y45.c1 ((y45.D.last).flatMap strD) 9 1 :: Ch.own y45.a2 y45.D.last.length y45.c2 ((rwf y45.D 0).flatMap strD) 9 1 :: y41.T) := H
       first | refine l_end ?_ | refine l_nil ?_
       repeat refine c_seq ?_
       refine c_region ?_
       refine l_op (o_val (r_as) ?_)
       first | refine l_end ?_ | refine l_nil ?_
       refine c_ret ?_
       try dsimp only [Exit.then, Exit.inBlock]
       refine e_ret1 (v := .bool true) Try.results39 rfl ?_
       refine ⟨_, rfl, ?_⟩
       have hrel : y45.D = y41.abs := by rw [hyd46, hya42, hr]
       exact ⟨rfl, y41, y45, hyo43, hyo47, hrel, by omega, by omega, hyt44, (Hp.permT (L := [.blk b1 (([VI c.kind, VI c.i, VI c.part, c.b.v, c.ks.v] : List Value)) 70, .blk db ([.slice (hd (some y41.a1)) y41.ls.length y41.c1, .map (some y41.mb), .bool y41.off, VI y41.armed, VI y41.part, VI y41.way, .slice (hd y41.fa) y41.fl.length y41.fc, VI y41.writes, VI y41.lives]) 86, .own (some y41.a1) y41.ls.length y41.c1 ((y41.ls).flatMap slE) 57 1, .obj y41.mb (mobj kI y41.M y41.mc), .own y41.fa y41.fl.length y41.fc ((y41.fl).map V8) 5 1, .blk rb ([.slice (hd y45.a1) y45.D.last.length y45.c1, .slice (hd y45.a2) y45.D.last.length y45.c2, .bool y45.D.off, VI y45.D.armed, VI y45.D.part, VI y45.D.way, .string ⟨(y45.cm).toArray⟩, VI y45.D.writes, VI y45.D.lives]) 106, .own y45.a1 y45.D.last.length y45.c1 ((y45.D.last).flatMap strD) 9 1, .own y45.a2 y45.D.last.length y45.c2 ((rwf y45.D 0).flatMap strD) 9 1]) (T := y41.T) H ((perm_front (j := 1) rfl).trans (.cons _ ((perm_front (j := 1) rfl).trans (.cons _ ((perm_front (j := 1) rfl).trans (.cons _ ((perm_front (j := 1) rfl).trans (.cons _ ((perm_front (j := 1) rfl).trans (.cons _ ((perm_front (j := 1) rfl).trans (.cons _ ((perm_front (j := 1) rfl).trans (.cons _ (.refl _)))))))))))))))).sub (.cons_cons _ (.cons_cons _ (.cons_cons _ (.cons_cons _ (.cons_cons _ (.cons_cons _ (.cons_cons _ (.cons _ ((List.Sublist.refl _))))))))))⟩
      ·
       repeat refine c_seq ?_
       refine c_no (by exact congrArg Value.bool (decide_eq_false hc40)) ?_
       repeat refine c_seq ?_
       refine c_region ?_
       refine l_op (o_val (r_mv) ?_)
       refine l_op (o_val (r_fa rfl fo70_1) ?_)
       refine l_op (o_val (r_l1 (v := VI c.i) H (i := 0) rfl rfl ct3 (show Cut3 (([VI c.kind, VI c.i, VI c.part, c.b.v, c.ks.v] : List Value)) (([VI c.kind] : List Value)) (([VI c.i] : List Value)) (([VI c.part, c.b.v, c.ks.v] : List Value)) 1 1 from ⟨(show ([VI c.kind, VI c.i, VI c.part, c.b.v, c.ks.v] : List Value) = ([VI c.kind] : List Value) ++ ((([VI c.i] : List Value)) ++ (([VI c.part, c.b.v, c.ks.v] : List Value))) from by simp only [List.cons_append, List.nil_append]), (by rfl), (by rfl)⟩)) ?_)
       refine l_op (o_callR Try.func29 rfl rfl rfl (dread_ret _ db z (H.ownT (L := [.blk b1 (([VI c.kind, VI c.i, VI c.part, c.b.v, c.ks.v] : List Value)) 70, .blk db ([.slice (hd (some z.a1)) z.ls.length z.c1, .map (some z.mb), .bool z.off, VI z.armed, VI z.part, VI z.way, .slice (hd z.fa) z.fl.length z.fc, VI z.writes, VI z.lives]) 86, .own (some z.a1) z.ls.length z.c1 ((z.ls).flatMap slE) 57 1, .obj z.mb (mobj kI z.M z.mc), .own z.fa z.fl.length z.fc ((z.fl).map V8) 5 1, .blk rb ([.slice (hd y.a1) y.D.last.length y.c1, .slice (hd y.a2) y.D.last.length y.c2, .bool y.D.off, VI y.D.armed, VI y.D.part, VI y.D.way, .string ⟨(y.cm).toArray⟩, VI y.D.writes, VI y.D.lives]) 106, .own y.a1 y.D.last.length y.c1 ((y.D.last).flatMap strD) 9 1, .own y.a2 y.D.last.length y.c2 ((rwf y.D 0).flatMap strD) 9 1]) (L1 := [.blk db ([.slice (hd (some z.a1)) z.ls.length z.c1, .map (some z.mb), .bool z.off, VI z.armed, VI z.part, VI z.way, .slice (hd z.fa) z.fl.length z.fc, VI z.writes, VI z.lives]) 86, .own (some z.a1) z.ls.length z.c1 ((z.ls).flatMap slE) 57 1, .obj z.mb (mobj kI z.M z.mc), .own z.fa z.fl.length z.fc ((z.fl).map V8) 5 1]) (Lr := ([.blk b1 (([VI c.kind, VI c.i, VI c.part, c.b.v, c.ks.v] : List Value)) 70, .blk rb ([.slice (hd y.a1) y.D.last.length y.c1, .slice (hd y.a2) y.D.last.length y.c2, .bool y.D.off, VI y.D.armed, VI y.D.part, VI y.D.way, .string ⟨(y.cm).toArray⟩, VI y.D.writes, VI y.D.lives]) 106, .own y.a1 y.D.last.length y.c1 ((y.D.last).flatMap strD) 9 1, .own y.a2 y.D.last.length y.c2 ((rwf y.D 0).flatMap strD) 9 1] : List Ch)) (T := z.T) ((perm_front (j := 1) rfl).trans (.cons _ ((perm_front (j := 1) rfl).trans (.cons _ ((perm_front (j := 1) rfl).trans (.cons _ ((perm_front (j := 1) rfl).trans (.cons _ (.refl _)))))))))) hz c.i) ?_)
       rintro _ w ⟨a48, n49, c50, rl51, rfl, hrn52, hr053, hr154, Hc⟩
       replace H := H.callT (L1' := [.own a48 n49 c50 ((rl51).map V8) 5 1, .blk db ([.slice (hd (some z.a1)) z.ls.length z.c1, .map (some z.mb), .bool z.off, VI z.armed, VI z.part, VI z.way, .slice (hd z.fa) z.fl.length z.fc, VI z.writes, VI z.lives]) 86, .own (some z.a1) z.ls.length z.c1 ((z.ls).flatMap slE) 57 1, .obj z.mb (mobj kI z.M z.mc), .own z.fa z.fl.length z.fc ((z.fl).map V8) 5 1]) (T' := z.T) (L := [.blk b1 (([VI c.kind, VI c.i, VI c.part, c.b.v, c.ks.v] : List Value)) 70, .blk db ([.slice (hd (some z.a1)) z.ls.length z.c1, .map (some z.mb), .bool z.off, VI z.armed, VI z.part, VI z.way, .slice (hd z.fa) z.fl.length z.fc, VI z.writes, VI z.lives]) 86, .own (some z.a1) z.ls.length z.c1 ((z.ls).flatMap slE) 57 1, .obj z.mb (mobj kI z.M z.mc), .own z.fa z.fl.length z.fc ((z.fl).map V8) 5 1, .blk rb ([.slice (hd y.a1) y.D.last.length y.c1, .slice (hd y.a2) y.D.last.length y.c2, .bool y.D.off, VI y.D.armed, VI y.D.part, VI y.D.way, .string ⟨(y.cm).toArray⟩, VI y.D.writes, VI y.D.lives]) 106, .own y.a1 y.D.last.length y.c1 ((y.D.last).flatMap strD) 9 1, .own y.a2 y.D.last.length y.c2 ((rwf y.D 0).flatMap strD) 9 1]) (L1 := [.blk db ([.slice (hd (some z.a1)) z.ls.length z.c1, .map (some z.mb), .bool z.off, VI z.armed, VI z.part, VI z.way, .slice (hd z.fa) z.fl.length z.fc, VI z.writes, VI z.lives]) 86, .own (some z.a1) z.ls.length z.c1 ((z.ls).flatMap slE) 57 1, .obj z.mb (mobj kI z.M z.mc), .own z.fa z.fl.length z.fc ((z.fl).map V8) 5 1]) (Lr := ([.blk b1 (([VI c.kind, VI c.i, VI c.part, c.b.v, c.ks.v] : List Value)) 70, .blk rb ([.slice (hd y.a1) y.D.last.length y.c1, .slice (hd y.a2) y.D.last.length y.c2, .bool y.D.off, VI y.D.armed, VI y.D.part, VI y.D.way, .string ⟨(y.cm).toArray⟩, VI y.D.writes, VI y.D.lives]) 106, .own y.a1 y.D.last.length y.c1 ((y.D.last).flatMap strD) 9 1, .own y.a2 y.D.last.length y.c2 ((rwf y.D 0).flatMap strD) 9 1] : List Ch)) (T := z.T) ((perm_front (j := 1) rfl).trans (.cons _ ((perm_front (j := 1) rfl).trans (.cons _ ((perm_front (j := 1) rfl).trans (.cons _ ((perm_front (j := 1) rfl).trans (.cons _ (.refl _))))))))) Hc ((perm_front (j := 4) rfl).trans (.cons _ ((perm_front (j := 0) rfl).trans (.cons _ ((perm_front (j := 3) rfl).trans (.cons _ ((perm_front (j := 3) rfl).trans (.cons _ ((perm_front (j := 3) rfl).trans (.cons _ ((perm_front (j := 3) rfl).trans (.cons _ (.refl _)))))))))))))
       clear Hc
       replace H : Hp _ w _ (Ch.own a48 n49 c50 ((rl51).map V8) 5 1 :: Ch.blk b1 (([VI c.kind, VI c.i, VI c.part, c.b.v, c.ks.v] : List Value)) 70 :: Ch.blk db ([.slice (hd (some z.a1)) z.ls.length z.c1, .map (some z.mb), .bool z.off, VI z.armed, VI z.part, VI z.way, .slice (hd z.fa) z.fl.length z.fc, VI z.writes, VI z.lives]) 86 :: Ch.own (some z.a1) z.ls.length z.c1 ((z.ls).flatMap slE) 57 1 :: Ch.obj z.mb (mobj kI z.M z.mc) :: Ch.own z.fa z.fl.length z.fc ((z.fl).map V8) 5 1 :: Ch.blk rb ([.slice (hd y.a1) y.D.last.length y.c1, .slice (hd y.a2) y.D.last.length y.c2, .bool y.D.off, VI y.D.armed, VI y.D.part, VI y.D.way, .string ⟨(y.cm).toArray⟩, VI y.D.writes, VI y.D.lives]) 106 :: Ch.own y.a1 y.D.last.length y.c1 ((y.D.last).flatMap strD) 9 1 :: Ch.own y.a2 y.D.last.length y.c2 ((rwf y.D 0).flatMap strD) 9 1 :: z.T) := H
       refine l_op (o_val (r_mv) ?_)
       refine l_op (o_val (r_ext rfl rfl) ?_)
       refine l_op (o_val (r_ext rfl rfl) ?_)
       refine l_op (o_val (r_as) ?_)
       refine l_op (o_val (r_as) ?_)
       first | refine l_end ?_ | refine l_nil ?_
       repeat refine c_seq ?_
       refine c_region ?_
       refine l_op (o_val (r_mv) ?_)
       refine l_op (o_val (r_fa rfl fo70_1) ?_)
       refine l_op (o_val (r_l1 (v := VI c.i) H (i := 1) rfl rfl ct3 (show Cut3 (([VI c.kind, VI c.i, VI c.part, c.b.v, c.ks.v] : List Value)) (([VI c.kind] : List Value)) (([VI c.i] : List Value)) (([VI c.part, c.b.v, c.ks.v] : List Value)) 1 1 from ⟨(show ([VI c.kind, VI c.i, VI c.part, c.b.v, c.ks.v] : List Value) = ([VI c.kind] : List Value) ++ ((([VI c.i] : List Value)) ++ (([VI c.part, c.b.v, c.ks.v] : List Value))) from by simp only [List.cons_append, List.nil_append]), (by rfl), (by rfl)⟩)) ?_)
       refine l_op (o_callR Try.func66 rfl rfl rfl (rread_ret _ rb y (H.ownU (L := [.own a48 n49 c50 ((rl51).map V8) 5 1, .blk b1 (([VI c.kind, VI c.i, VI c.part, c.b.v, c.ks.v] : List Value)) 70, .blk db ([.slice (hd (some z.a1)) z.ls.length z.c1, .map (some z.mb), .bool z.off, VI z.armed, VI z.part, VI z.way, .slice (hd z.fa) z.fl.length z.fc, VI z.writes, VI z.lives]) 86, .own (some z.a1) z.ls.length z.c1 ((z.ls).flatMap slE) 57 1, .obj z.mb (mobj kI z.M z.mc), .own z.fa z.fl.length z.fc ((z.fl).map V8) 5 1, .blk rb ([.slice (hd y.a1) y.D.last.length y.c1, .slice (hd y.a2) y.D.last.length y.c2, .bool y.D.off, VI y.D.armed, VI y.D.part, VI y.D.way, .string ⟨(y.cm).toArray⟩, VI y.D.writes, VI y.D.lives]) 106, .own y.a1 y.D.last.length y.c1 ((y.D.last).flatMap strD) 9 1, .own y.a2 y.D.last.length y.c2 ((rwf y.D 0).flatMap strD) 9 1]) (L1 := [.blk rb ([.slice (hd y.a1) y.D.last.length y.c1, .slice (hd y.a2) y.D.last.length y.c2, .bool y.D.off, VI y.D.armed, VI y.D.part, VI y.D.way, .string ⟨(y.cm).toArray⟩, VI y.D.writes, VI y.D.lives]) 106, .own y.a1 y.D.last.length y.c1 ((y.D.last).flatMap strD) 9 1, .own y.a2 y.D.last.length y.c2 ((rwf y.D 0).flatMap strD) 9 1]) (Lr := ([.own a48 n49 c50 ((rl51).map V8) 5 1, .blk b1 (([VI c.kind, VI c.i, VI c.part, c.b.v, c.ks.v] : List Value)) 70, .blk db ([.slice (hd (some z.a1)) z.ls.length z.c1, .map (some z.mb), .bool z.off, VI z.armed, VI z.part, VI z.way, .slice (hd z.fa) z.fl.length z.fc, VI z.writes, VI z.lives]) 86, .own (some z.a1) z.ls.length z.c1 ((z.ls).flatMap slE) 57 1, .obj z.mb (mobj kI z.M z.mc), .own z.fa z.fl.length z.fc ((z.fl).map V8) 5 1] : List Ch)) (T := z.T) ((perm_front (j := 6) rfl).trans (.cons _ ((perm_front (j := 6) rfl).trans (.cons _ ((perm_front (j := 6) rfl).trans (.cons _ (.refl _)))))))) hy c.i) ?_)
       rintro _ w ⟨sl55, rfl, hsr56, hsr57, Hc⟩
       replace H := H.callU (L1' := [.blk rb ([.slice (hd y.a1) y.D.last.length y.c1, .slice (hd y.a2) y.D.last.length y.c2, .bool y.D.off, VI y.D.armed, VI y.D.part, VI y.D.way, .string ⟨(y.cm).toArray⟩, VI y.D.writes, VI y.D.lives]) 106, .own y.a1 y.D.last.length y.c1 ((y.D.last).flatMap strD) 9 1, .own y.a2 y.D.last.length y.c2 ((rwf y.D 0).flatMap strD) 9 1]) (L := [.own a48 n49 c50 ((rl51).map V8) 5 1, .blk b1 (([VI c.kind, VI c.i, VI c.part, c.b.v, c.ks.v] : List Value)) 70, .blk db ([.slice (hd (some z.a1)) z.ls.length z.c1, .map (some z.mb), .bool z.off, VI z.armed, VI z.part, VI z.way, .slice (hd z.fa) z.fl.length z.fc, VI z.writes, VI z.lives]) 86, .own (some z.a1) z.ls.length z.c1 ((z.ls).flatMap slE) 57 1, .obj z.mb (mobj kI z.M z.mc), .own z.fa z.fl.length z.fc ((z.fl).map V8) 5 1, .blk rb ([.slice (hd y.a1) y.D.last.length y.c1, .slice (hd y.a2) y.D.last.length y.c2, .bool y.D.off, VI y.D.armed, VI y.D.part, VI y.D.way, .string ⟨(y.cm).toArray⟩, VI y.D.writes, VI y.D.lives]) 106, .own y.a1 y.D.last.length y.c1 ((y.D.last).flatMap strD) 9 1, .own y.a2 y.D.last.length y.c2 ((rwf y.D 0).flatMap strD) 9 1]) (L1 := [.blk rb ([.slice (hd y.a1) y.D.last.length y.c1, .slice (hd y.a2) y.D.last.length y.c2, .bool y.D.off, VI y.D.armed, VI y.D.part, VI y.D.way, .string ⟨(y.cm).toArray⟩, VI y.D.writes, VI y.D.lives]) 106, .own y.a1 y.D.last.length y.c1 ((y.D.last).flatMap strD) 9 1, .own y.a2 y.D.last.length y.c2 ((rwf y.D 0).flatMap strD) 9 1]) (Lr := ([.own a48 n49 c50 ((rl51).map V8) 5 1, .blk b1 (([VI c.kind, VI c.i, VI c.part, c.b.v, c.ks.v] : List Value)) 70, .blk db ([.slice (hd (some z.a1)) z.ls.length z.c1, .map (some z.mb), .bool z.off, VI z.armed, VI z.part, VI z.way, .slice (hd z.fa) z.fl.length z.fc, VI z.writes, VI z.lives]) 86, .own (some z.a1) z.ls.length z.c1 ((z.ls).flatMap slE) 57 1, .obj z.mb (mobj kI z.M z.mc), .own z.fa z.fl.length z.fc ((z.fl).map V8) 5 1] : List Ch)) (T := z.T) ((perm_front (j := 6) rfl).trans (.cons _ ((perm_front (j := 6) rfl).trans (.cons _ ((perm_front (j := 6) rfl).trans (.cons _ (.refl _))))))) Hc (.refl _)
       clear Hc
       replace H : Hp _ w _ (Ch.own a48 n49 c50 ((rl51).map V8) 5 1 :: Ch.blk b1 (([VI c.kind, VI c.i, VI c.part, c.b.v, c.ks.v] : List Value)) 70 :: Ch.blk db ([.slice (hd (some z.a1)) z.ls.length z.c1, .map (some z.mb), .bool z.off, VI z.armed, VI z.part, VI z.way, .slice (hd z.fa) z.fl.length z.fc, VI z.writes, VI z.lives]) 86 :: Ch.own (some z.a1) z.ls.length z.c1 ((z.ls).flatMap slE) 57 1 :: Ch.obj z.mb (mobj kI z.M z.mc) :: Ch.own z.fa z.fl.length z.fc ((z.fl).map V8) 5 1 :: Ch.blk rb ([.slice (hd y.a1) y.D.last.length y.c1, .slice (hd y.a2) y.D.last.length y.c2, .bool y.D.off, VI y.D.armed, VI y.D.part, VI y.D.way, .string ⟨(y.cm).toArray⟩, VI y.D.writes, VI y.D.lives]) 106 :: Ch.own y.a1 y.D.last.length y.c1 ((y.D.last).flatMap strD) 9 1 :: Ch.own y.a2 y.D.last.length y.c2 ((rwf y.D 0).flatMap strD) 9 1 :: z.T) := H
       refine l_op (o_val (r_mv) ?_)
       refine l_op (o_val (r_ext rfl rfl) ?_)
       refine l_op (o_val (r_ext rfl rfl) ?_)
       refine l_op (o_val (r_as) ?_)
       refine l_op (o_val (r_as) ?_)
       first | refine l_end ?_ | refine l_nil ?_
       have hseq : rl51 = sl55 := by
         by_cases hm : dMay z.abs c.i = 0
         · rw [hr053 hm, hsr56 (by rw [hr]; exact hm), hr]
         · rw [hr154 hm, hsr57 (by rw [hr]; exact hm)]
       repeat refine c_seq ?_
       refine c_region ?_
       refine l_op (o_val (r_mv) ?_)
       refine l_op (o_val (r_mv) ?_)
       refine l_op (o_val (r_bin (a := dMay z.abs c.i) (b := dMay y.D c.i) rfl rfl (fun _ => b_eqlB true (decide_eq_true (by rw [hr])))) ?_)
       refine l_op (o_val (r_mv) ?_)
       refine l_yes rfl rfl rfl (o_val (r_mv) ?_)
       refine l_yes rfl rfl rfl (o_val (r_b2S (s := ⟨hd a48, n49, c50, rl51⟩) Try.underlying57 Try.underlying5 Try.underlying9 rfl (H.slOwn (i := 0) rfl)) ?_)
       refine l_yes rfl rfl rfl (o_val (r_mv) ?_)
       refine l_yes rfl rfl rfl (o_val (r_streq (a := rl51) (b := sl55) rfl rfl) ?_)
       have hk58 : (decide (rl51 = sl55)) = true := (decide_eq_true hseq)
       refine l_op (o_val (r_pick rfl) ?_)
       refine l_op (o_val (r_as) ?_)
       first | refine l_end ?_ | refine l_nil ?_
       refine c_ret ?_
       try dsimp only [Exit.then, Exit.inBlock]
       refine e_ret1 (v := .bool (decide (rl51 = sl55))) Try.results39 rfl ?_
       refine ⟨_, rfl, ?_⟩
       exact ⟨congrArg Value.bool hk58, ⟨z, y, hz, hy, hr, by omega, by omega, fun _ h => h, (Hp.permT (L := [.own a48 n49 c50 ((rl51).map V8) 5 1, .blk b1 (([VI c.kind, VI c.i, VI c.part, c.b.v, c.ks.v] : List Value)) 70, .blk db ([.slice (hd (some z.a1)) z.ls.length z.c1, .map (some z.mb), .bool z.off, VI z.armed, VI z.part, VI z.way, .slice (hd z.fa) z.fl.length z.fc, VI z.writes, VI z.lives]) 86, .own (some z.a1) z.ls.length z.c1 ((z.ls).flatMap slE) 57 1, .obj z.mb (mobj kI z.M z.mc), .own z.fa z.fl.length z.fc ((z.fl).map V8) 5 1, .blk rb ([.slice (hd y.a1) y.D.last.length y.c1, .slice (hd y.a2) y.D.last.length y.c2, .bool y.D.off, VI y.D.armed, VI y.D.part, VI y.D.way, .string ⟨(y.cm).toArray⟩, VI y.D.writes, VI y.D.lives]) 106, .own y.a1 y.D.last.length y.c1 ((y.D.last).flatMap strD) 9 1, .own y.a2 y.D.last.length y.c2 ((rwf y.D 0).flatMap strD) 9 1]) (T := z.T) H ((perm_front (j := 2) rfl).trans (.cons _ ((perm_front (j := 2) rfl).trans (.cons _ ((perm_front (j := 2) rfl).trans (.cons _ ((perm_front (j := 2) rfl).trans (.cons _ ((perm_front (j := 2) rfl).trans (.cons _ ((perm_front (j := 2) rfl).trans (.cons _ ((perm_front (j := 2) rfl).trans (.cons _ (.refl _)))))))))))))))).sub (.cons_cons _ (.cons_cons _ (.cons_cons _ (.cons_cons _ (.cons_cons _ (.cons_cons _ (.cons_cons _ (.cons _ (.cons _ ((List.Sublist.refl _)))))))))))⟩⟩
end Go.Proofs.Ytncmcgcilijfkaa
namespace Go.Proofs.Ytncmcgcilijfkaa
open Go
set_option maxRecDepth 100000
theorem DW.ok.moreT {z : DW} (hz : z.ok) {T : List Ch} (h : ∀ c ∈ z.T, c ∈ T) : DW.ok { z with T := T } :=
  ⟨hz.n, fun s hs => sec_mono h (hz.hl s hs), hz.hF, hz.hM, fun i s hi => ⟨(hz.hw i s hi).1, (hz.hw i s hi).2.1, sec_mono h (hz.hw i s hi).2.2⟩, hz.armed, hz.part, hz.way, hz.fl⟩
theorem sclone_ret (w0 : World) (s : Gl Sl) (hs : s.ok slE 1 w0) (hm : 1 ≤ s.len ∧ s.len ≤ 4096) :
    Ret Try.prog 68 [s.v] w0 fun v w' => ∃ a c, v = .slice (hd (some a)) s.len c ∧ Hp w0 w' [] [.own (some a) s.len c (s.l.flatMap slE) 57 1] := by
  refine ret_mk Try.func68 rfl Try.ntmps68 (by simp) ?_
  have H := Hp.refl w0 []
  have hsl0 := hs.ln
  have hsm := hs.le
  have hsx := hs.mx
  repeat refine c_seq ?_
  refine c_region ?_
  refine l_op (o_val (r_as) ?_)
  first | refine l_end ?_ | refine l_nil ?_
  repeat refine c_seq ?_
  refine c_region ?_
  refine l_op (o_val (r_mv) ?_)
  refine l_op (o_val (r_slnil Try.underlying83 (by kernel_rfl) rfl rfl) ?_)
  first | refine l_end ?_ | refine l_nil ?_
  have hc10 := Bool.eq_false_or_eq_true (s.a.isNone)
  rcases hc10 with hc1 | hc1
  ·
   repeat refine c_seq ?_
   refine c_yes (by exact congrArg Value.bool hc1) ?_
   repeat refine c_seq ?_
   refine c_region ?_
   refine l_op (o_val (r_as) ?_)
   first | refine l_end ?_ | refine l_nil ?_
   refine c_ret ?_
   try dsimp only [Exit.then, Exit.inBlock]
   refine e_ret1 (v := .slice none 0 0) Try.results68 rfl ?_
   refine ⟨_, rfl, ?_⟩
   exfalso
   obtain ⟨b, o, ha⟩ := hs.addr (by decide) (by omega)
   rw [ha] at hc1
   cases hc1
  ·
   repeat refine c_seq ?_
   refine c_no (by exact congrArg Value.bool hc1) ?_
   refine c_skip ?_
   repeat refine c_seq ?_
   refine c_region ?_
   refine l_op (o_bslG0 (α := Sl) (enc := slE) H sl83 zc57 (by decide) (fun b2 w H hb2 => ?_))
   replace H : Hp _ w _ ([.own (some b2) 0 0 ((([] : List Sl)).flatMap slE) 57 1]) := H
   refine l_op (o_val (r_mv) ?_)
   refine l_op (o_appG (enc := slE) (s := s) (l' := s.l) (len' := s.len) rfl (Nat.zero_add _) H (i := 0) rfl sl83 Try.underlying83 rfl rfl (hs.up H) (by decide) (fun _ _ => rfl) (by omega) (by decide) (fun a3 c4 w H => ?_))
   replace H : Hp _ w _ ([.own a3 s.len c4 ((s.l).flatMap slE) 57 1]) := H
   refine l_op (o_val (r_as) ?_)
   first | refine l_end ?_ | refine l_nil ?_
   refine c_ret ?_
   try dsimp only [Exit.then, Exit.inBlock]
   refine e_ret1 (v := .slice (hd a3) s.len c4) Try.results68 rfl ?_
   refine ⟨_, rfl, ?_⟩
   obtain ⟨b, hb⟩ := H.ownAddr (i := 0) rfl (by omega)
   cases ha3 : a3 with
   | none => rw [ha3] at hb; cases hb
   | some a => rw [ha3] at H; exact ⟨a, _, rfl, H.sub (.cons_cons _ (List.nil_sublist _))⟩
set_option maxHeartbeats 4000000 in
theorem dcopy_ret (w0 : World) (db : Nat) (z : DW) (hO : Own w0 (kch db z)) (hz : z.ok) :
    Ret Try.prog 44 [.pointer (some ⟨db, 0, none⟩)] w0 fun v w' => ∃ cb y, v = .pointer (some ⟨cb, 0, none⟩) ∧ y.abs = z.abs ∧ DW.ok y ∧ y.T = z.T ∧ Hp w0 w' (keys (kch db z)) ((k4 cb y ++ k4 db z) ++ z.T) := by
  refine ret_mk Try.func44 rfl Try.ntmps44 (by simp) ?_
  have H : Hp w0 w0 (keys (kch db z)) (Ch.blk db ([.slice (hd (some z.a1)) z.ls.length z.c1, .map (some z.mb), .bool z.off, VI z.armed, VI z.part, VI z.way, .slice (hd z.fa) z.fl.length z.fc, VI z.writes, VI z.lives]) 86 :: Ch.own (some z.a1) z.ls.length z.c1 ((z.ls).flatMap slE) 57 1 :: Ch.obj z.mb (mobj kI z.M z.mc) :: Ch.own z.fa z.fl.length z.fc ((z.fl).map V8) 5 1 :: z.T) := hO.start
  have hzn := hz.n
  have hza := hz.armed
  have hzp := hz.part
  have hzw := hz.way
  have hzf := hz.fl
  have hzl := z.alen
  have hmL : maxLen = 9223372036854775807 := rfl
  repeat refine c_seq ?_
  refine c_region ?_
  refine l_op (o_val (r_as) ?_)
  first | refine l_end ?_ | refine l_nil ?_
  repeat refine c_seq ?_
  refine c_region ?_
  refine l_op (o_val (r_mv) ?_)
  refine l_op (o_callR Try.func30 rfl rfl rfl (dlen_ret _ _ z.ls.length z.c1 z.fl.length z.fc (hd (some z.a1)) (hd z.fa) (some z.mb) z.off z.armed z.part z.way z.writes z.lives (H.has _ (List.mem_of_getElem? (i := 0) rfl))) ?_)
  rintro _ w ⟨rfl, Hc⟩
  replace H := (H.callA (i := 0) rfl rfl rfl Hc)
  clear Hc
  replace H : Hp _ w _ (Ch.blk db ([.slice (hd (some z.a1)) z.ls.length z.c1, .map (some z.mb), .bool z.off, VI z.armed, VI z.part, VI z.way, .slice (hd z.fa) z.fl.length z.fc, VI z.writes, VI z.lives]) 86 :: Ch.own (some z.a1) z.ls.length z.c1 ((z.ls).flatMap slE) 57 1 :: Ch.obj z.mb (mobj kI z.M z.mc) :: Ch.own z.fa z.fl.length z.fc ((z.fl).map V8) 5 1 :: z.T) := H
  refine l_op (o_val (r_bin (a := (z.ls.length : Int)) (b := 0) rfl rfl (fun _ => b_eqlB false (decide_eq_false (by omega)))) ?_)
  first | refine l_end ?_ | refine l_nil ?_
  repeat refine c_seq ?_
  refine c_no rfl ?_
  refine c_skip ?_
  repeat refine c_seq ?_
  refine c_region ?_
  refine l_op (o_val (r_mv) ?_)
  refine l_op (o_val (r_nilc rfl) ?_)
  refine l_op (o_val (r_ldA (C := [.slice (hd (some z.a1)) z.ls.length z.c1, .map (some z.mb), .bool z.off, VI z.armed, VI z.part, VI z.way, .slice (hd z.fa) z.fl.length z.fc, VI z.writes, VI z.lives]) H (i := 0) rfl rfl rt86 (by rfl)) ?_)
  refine l_op (o_alloc H zc86 (fun b1 w H hb1 => ?_))
  replace H := H.rot
  replace H : Hp _ w _ (Ch.blk b1 ([.slice none 0 0, .map none, .bool false, VI 0, VI 0, VI 0, .slice none 0 0, VI 0, VI 0]) 86 :: Ch.blk db ([.slice (hd (some z.a1)) z.ls.length z.c1, .map (some z.mb), .bool z.off, VI z.armed, VI z.part, VI z.way, .slice (hd z.fa) z.fl.length z.fc, VI z.writes, VI z.lives]) 86 :: Ch.own (some z.a1) z.ls.length z.c1 ((z.ls).flatMap slE) 57 1 :: Ch.obj z.mb (mobj kI z.M z.mc) :: Ch.own z.fa z.fl.length z.fc ((z.fl).map V8) 5 1 :: z.T) := H
  refine l_op (o_stW (C' := [.slice (hd (some z.a1)) z.ls.length z.c1, .map (some z.mb), .bool z.off, VI z.armed, VI z.part, VI z.way, .slice (hd z.fa) z.fl.length z.fc, VI z.writes, VI z.lives]) H (i := 0) rfl rfl rfl cs86 (by simp [Value.oneCell']) (by rfl) (by rfl) (fun w H => ?_))
  replace H : Hp _ w _ (Ch.blk b1 ([.slice (hd (some z.a1)) z.ls.length z.c1, .map (some z.mb), .bool z.off, VI z.armed, VI z.part, VI z.way, .slice (hd z.fa) z.fl.length z.fc, VI z.writes, VI z.lives]) 86 :: Ch.blk db ([.slice (hd (some z.a1)) z.ls.length z.c1, .map (some z.mb), .bool z.off, VI z.armed, VI z.part, VI z.way, .slice (hd z.fa) z.fl.length z.fc, VI z.writes, VI z.lives]) 86 :: Ch.own (some z.a1) z.ls.length z.c1 ((z.ls).flatMap slE) 57 1 :: Ch.obj z.mb (mobj kI z.M z.mc) :: Ch.own z.fa z.fl.length z.fc ((z.fl).map V8) 5 1 :: z.T) := H
  first | refine l_end ?_ | refine l_nil ?_
  repeat refine c_seq ?_
  refine wp_held (fun w => Hp w0 w (keys (kch db z)) [.blk db ([.slice (hd (some z.a1)) z.ls.length z.c1, .map (some z.mb), .bool z.off, VI z.armed, VI z.part, VI z.way, .slice (hd z.fa) z.fl.length z.fc, VI z.writes, VI z.lives]) 86, .own (some z.a1) z.ls.length z.c1 ((z.ls).flatMap slE) 57 1, .obj z.mb (mobj kI z.M z.mc), .own z.fa z.fl.length z.fc ((z.fl).map V8) 5 1]) mixed ?_
  replace H := H.drew
  have HS := H.sub (.cons _ (.cons_cons _ (.cons_cons _ (.cons_cons _ (.cons_cons _ (List.nil_sublist _))))))
  refine t_take 0 rfl (by kernel_rfl) (by kernel_rfl) (by kernel_rfl) (fun _ _ _ h => h) (fun w HS => r_mv) HS ?_
  refine t_take 1 rfl (by kernel_rfl) (by kernel_rfl) (by kernel_rfl) (fun _ _ _ h => h) (fun w HS => r_nilc rfl) HS ?_
  refine t_take 2 rfl (by kernel_rfl) (by kernel_rfl) (by kernel_rfl) (fun _ _ _ h => h) (fun w HS => r_fa rfl fo86_0) HS ?_
  refine t_take 3 rfl (by kernel_rfl) (by kernel_rfl) (by kernel_rfl) (fun _ _ _ h => h) (fun w HS => r_ld (v := .slice (hd (some z.a1)) z.ls.length z.c1) HS (i := 0) rfl rfl ct83 rfl) HS ?_
  refine t_take 5 rfl (by kernel_rfl) (by kernel_rfl) (by kernel_rfl) (fun _ _ _ h => h) (fun w HS => r_mv) HS ?_
  refine t_take 6 rfl (by kernel_rfl) (by kernel_rfl) (by kernel_rfl) (fun _ _ _ h => h) (fun w HS => r_nilc rfl) HS ?_
  refine t_take 7 rfl (by kernel_rfl) (by kernel_rfl) (by kernel_rfl) (fun _ _ _ h => h) (fun w HS => r_fa rfl fo86_1) HS ?_
  refine t_take 8 rfl (by kernel_rfl) (by kernel_rfl) (by kernel_rfl) (fun _ _ _ h => h) (fun w HS => r_ld (v := .map (some z.mb)) HS (i := 0) rfl rfl ct84 rfl) HS ?_
  refine t_take 10 rfl (by kernel_rfl) (by kernel_rfl) (by kernel_rfl) (fun _ _ _ h => h) (fun w HS => r_mv) HS ?_
  refine t_take 11 rfl (by kernel_rfl) (by kernel_rfl) (by kernel_rfl) (fun _ _ _ h => h) (fun w HS => r_nilc rfl) HS ?_
  refine t_take 12 rfl (by kernel_rfl) (by kernel_rfl) (by kernel_rfl) (fun _ _ _ h => h) (fun w HS => r_fa rfl fo86_6) HS ?_
  refine t_take 13 rfl (by kernel_rfl) (by kernel_rfl) (by kernel_rfl) (fun _ _ _ h => h) (fun w HS => r_ld (v := .slice (hd z.fa) z.fl.length z.fc) HS (i := 0) rfl rfl ct57 rfl) HS ?_
  refine t_step 4 rfl (by kernel_rfl) (o_callR Try.func68 rfl rfl rfl (sclone_ret _ ⟨hd (some z.a1), z.ls.length, z.c1, z.ls⟩ (H.glOwn (i := 2) rfl (by decide) (fun _ _ => rfl)) (by (try dsimp only); omega)) ?_)
  rintro _ w ⟨a2, c3, rfl, Hc⟩
  replace H : Hp _ w _ (Ch.own (some a2) z.ls.length c3 ((z.ls).flatMap slE) 57 1 :: Ch.blk b1 ([.slice (hd (some z.a1)) z.ls.length z.c1, .map (some z.mb), .bool z.off, VI z.armed, VI z.part, VI z.way, .slice (hd z.fa) z.fl.length z.fc, VI z.writes, VI z.lives]) 86 :: Ch.blk db ([.slice (hd (some z.a1)) z.ls.length z.c1, .map (some z.mb), .bool z.off, VI z.armed, VI z.part, VI z.way, .slice (hd z.fa) z.fl.length z.fc, VI z.writes, VI z.lives]) 86 :: Ch.own (some z.a1) z.ls.length z.c1 ((z.ls).flatMap slE) 57 1 :: Ch.obj z.mb (mobj kI z.M z.mc) :: Ch.own z.fa z.fl.length z.fc ((z.fl).map V8) 5 1 :: z.T) := (H.call Hc).rot
  clear Hc
  refine ⟨H.sub (.cons _ (.cons _ (.cons_cons _ (.cons_cons _ (.cons_cons _ (.cons_cons _ (List.nil_sublist _))))))), ?_⟩
  replace HS := H.sub (.cons _ (.cons _ (.cons_cons _ (.cons_cons _ (.cons_cons _ (.cons_cons _ (List.nil_sublist _)))))))
  refine t_step 9 rfl (by kernel_rfl) (o_callR Try.func69 rfl rfl rfl (mclone_ret H (i := 4) rfl) ?_)
  rintro _ w ⟨nb4, rfl, Hc⟩
  clear H
  have H := Hc.rot; clear Hc
  replace H : Hp _ w _ (Ch.obj nb4 (mobj kI z.M z.mc) :: Ch.own (some a2) z.ls.length c3 ((z.ls).flatMap slE) 57 1 :: Ch.blk b1 ([.slice (hd (some z.a1)) z.ls.length z.c1, .map (some z.mb), .bool z.off, VI z.armed, VI z.part, VI z.way, .slice (hd z.fa) z.fl.length z.fc, VI z.writes, VI z.lives]) 86 :: Ch.blk db ([.slice (hd (some z.a1)) z.ls.length z.c1, .map (some z.mb), .bool z.off, VI z.armed, VI z.part, VI z.way, .slice (hd z.fa) z.fl.length z.fc, VI z.writes, VI z.lives]) 86 :: Ch.own (some z.a1) z.ls.length z.c1 ((z.ls).flatMap slE) 57 1 :: Ch.obj z.mb (mobj kI z.M z.mc) :: Ch.own z.fa z.fl.length z.fc ((z.fl).map V8) 5 1 :: z.T) := H
  refine ⟨H.sub (.cons _ (.cons _ (.cons _ (.cons_cons _ (.cons_cons _ (.cons_cons _ (.cons_cons _ (List.nil_sublist _)))))))), ?_⟩
  replace HS := H.sub (.cons _ (.cons _ (.cons _ (.cons_cons _ (.cons_cons _ (.cons_cons _ (.cons_cons _ (List.nil_sublist _))))))))
  refine t_step 14 rfl (by kernel_rfl) (o_callR Try.func59 rfl rfl rfl (bclone_ret _ ⟨hd z.fa, z.fl.length, z.fc, z.fl⟩ (H.slOwn (i := 6) rfl) (by (try dsimp only [Sl.cut]); omega)) ?_)
  rintro _ w ⟨a5, c6, rfl, Hc⟩
  replace H : Hp _ w _ (Ch.own a5 z.fl.length c6 ((z.fl).map V8) 5 1 :: Ch.obj nb4 (mobj kI z.M z.mc) :: Ch.own (some a2) z.ls.length c3 ((z.ls).flatMap slE) 57 1 :: Ch.blk b1 ([.slice (hd (some z.a1)) z.ls.length z.c1, .map (some z.mb), .bool z.off, VI z.armed, VI z.part, VI z.way, .slice (hd z.fa) z.fl.length z.fc, VI z.writes, VI z.lives]) 86 :: Ch.blk db ([.slice (hd (some z.a1)) z.ls.length z.c1, .map (some z.mb), .bool z.off, VI z.armed, VI z.part, VI z.way, .slice (hd z.fa) z.fl.length z.fc, VI z.writes, VI z.lives]) 86 :: Ch.own (some z.a1) z.ls.length z.c1 ((z.ls).flatMap slE) 57 1 :: Ch.obj z.mb (mobj kI z.M z.mc) :: Ch.own z.fa z.fl.length z.fc ((z.fl).map V8) 5 1 :: z.T) := (H.call Hc).rot
  clear Hc
  refine ⟨H.sub (.cons _ (.cons _ (.cons _ (.cons _ (.cons_cons _ (.cons_cons _ (.cons_cons _ (.cons_cons _ (List.nil_sublist _))))))))), ?_⟩
  replace HS := H.sub (.cons _ (.cons _ (.cons _ (.cons _ (.cons_cons _ (.cons_cons _ (.cons_cons _ (.cons_cons _ (List.nil_sublist _)))))))))
  refine t_take 15 rfl (by kernel_rfl) (by kernel_rfl) (by kernel_rfl) (fun _ _ _ h => h) (fun w HS => r_fa rfl fo86_0) HS ?_
  refine t_step 16 rfl (by kernel_rfl) (o_st (v := .slice (hd (some a2)) z.ls.length c3) H (i := 3) rfl rfl rfl cs83 rfl (by simp only [List.length_cons, List.length_nil]; omega) (fun w H => ?_))
  replace H : Hp _ w _ (Ch.own a5 z.fl.length c6 ((z.fl).map V8) 5 1 :: Ch.obj nb4 (mobj kI z.M z.mc) :: Ch.own (some a2) z.ls.length c3 ((z.ls).flatMap slE) 57 1 :: Ch.blk b1 ([.slice (hd (some a2)) z.ls.length c3, .map (some z.mb), .bool z.off, VI z.armed, VI z.part, VI z.way, .slice (hd z.fa) z.fl.length z.fc, VI z.writes, VI z.lives]) 86 :: Ch.blk db ([.slice (hd (some z.a1)) z.ls.length z.c1, .map (some z.mb), .bool z.off, VI z.armed, VI z.part, VI z.way, .slice (hd z.fa) z.fl.length z.fc, VI z.writes, VI z.lives]) 86 :: Ch.own (some z.a1) z.ls.length z.c1 ((z.ls).flatMap slE) 57 1 :: Ch.obj z.mb (mobj kI z.M z.mc) :: Ch.own z.fa z.fl.length z.fc ((z.fl).map V8) 5 1 :: z.T) := H
  refine ⟨H.sub (.cons _ (.cons _ (.cons _ (.cons _ (.cons_cons _ (.cons_cons _ (.cons_cons _ (.cons_cons _ (List.nil_sublist _))))))))), ?_⟩
  replace HS := H.sub (.cons _ (.cons _ (.cons _ (.cons _ (.cons_cons _ (.cons_cons _ (.cons_cons _ (.cons_cons _ (List.nil_sublist _)))))))))
  refine t_take 17 rfl (by kernel_rfl) (by kernel_rfl) (by kernel_rfl) (fun _ _ _ h => h) (fun w HS => r_fa rfl fo86_1) HS ?_
  refine t_step 18 rfl (by kernel_rfl) (o_st (v := .map (some nb4)) H (i := 3) rfl rfl rfl cs84 rfl (by simp only [List.length_cons, List.length_nil]; omega) (fun w H => ?_))
  replace H : Hp _ w _ (Ch.own a5 z.fl.length c6 ((z.fl).map V8) 5 1 :: Ch.obj nb4 (mobj kI z.M z.mc) :: Ch.own (some a2) z.ls.length c3 ((z.ls).flatMap slE) 57 1 :: Ch.blk b1 ([.slice (hd (some a2)) z.ls.length c3, .map (some nb4), .bool z.off, VI z.armed, VI z.part, VI z.way, .slice (hd z.fa) z.fl.length z.fc, VI z.writes, VI z.lives]) 86 :: Ch.blk db ([.slice (hd (some z.a1)) z.ls.length z.c1, .map (some z.mb), .bool z.off, VI z.armed, VI z.part, VI z.way, .slice (hd z.fa) z.fl.length z.fc, VI z.writes, VI z.lives]) 86 :: Ch.own (some z.a1) z.ls.length z.c1 ((z.ls).flatMap slE) 57 1 :: Ch.obj z.mb (mobj kI z.M z.mc) :: Ch.own z.fa z.fl.length z.fc ((z.fl).map V8) 5 1 :: z.T) := H
  refine ⟨H.sub (.cons _ (.cons _ (.cons _ (.cons _ (.cons_cons _ (.cons_cons _ (.cons_cons _ (.cons_cons _ (List.nil_sublist _))))))))), ?_⟩
  replace HS := H.sub (.cons _ (.cons _ (.cons _ (.cons _ (.cons_cons _ (.cons_cons _ (.cons_cons _ (.cons_cons _ (List.nil_sublist _)))))))))
  refine t_take 19 rfl (by kernel_rfl) (by kernel_rfl) (by kernel_rfl) (fun _ _ _ h => h) (fun w HS => r_fa rfl fo86_6) HS ?_
  refine t_step 20 rfl (by kernel_rfl) (o_st (v := .slice (hd a5) z.fl.length c6) H (i := 3) rfl rfl rfl cs57 rfl (by simp only [List.length_cons, List.length_nil]; omega) (fun w H => ?_))
  replace H : Hp _ w _ (Ch.own a5 z.fl.length c6 ((z.fl).map V8) 5 1 :: Ch.obj nb4 (mobj kI z.M z.mc) :: Ch.own (some a2) z.ls.length c3 ((z.ls).flatMap slE) 57 1 :: Ch.blk b1 ([.slice (hd (some a2)) z.ls.length c3, .map (some nb4), .bool z.off, VI z.armed, VI z.part, VI z.way, .slice (hd a5) z.fl.length c6, VI z.writes, VI z.lives]) 86 :: Ch.blk db ([.slice (hd (some z.a1)) z.ls.length z.c1, .map (some z.mb), .bool z.off, VI z.armed, VI z.part, VI z.way, .slice (hd z.fa) z.fl.length z.fc, VI z.writes, VI z.lives]) 86 :: Ch.own (some z.a1) z.ls.length z.c1 ((z.ls).flatMap slE) 57 1 :: Ch.obj z.mb (mobj kI z.M z.mc) :: Ch.own z.fa z.fl.length z.fc ((z.fl).map V8) 5 1 :: z.T) := H
  refine ⟨H.sub (.cons _ (.cons _ (.cons _ (.cons _ (.cons_cons _ (.cons_cons _ (.cons_cons _ (.cons_cons _ (List.nil_sublist _))))))))), ?_⟩
  replace HS := H.sub (.cons _ (.cons _ (.cons _ (.cons _ (.cons_cons _ (.cons_cons _ (.cons_cons _ (.cons_cons _ (List.nil_sublist _)))))))))
  refine t_done (by kernel_rfl) ?_
  clear HS
  repeat refine c_seq ?_
  refine c_region ?_
  refine l_op (o_val (r_as) ?_)
  first | refine l_end ?_ | refine l_nil ?_
  refine c_ret ?_
  try dsimp only [Exit.then, Exit.inBlock]
  refine e_ret1 (v := .pointer (some ⟨b1, 0, none⟩)) Try.results44 rfl ?_
  refine ⟨_, rfl, ?_⟩
  exact ⟨b1, { z with a1 := a2, c1 := c3, mb := nb4, fa := a5, fc := c6 }, rfl, rfl, ⟨hz.n, hz.hl, hz.hF, hz.hM, hz.hw, hz.armed, hz.part, hz.way, hz.fl⟩, rfl, (Hp.permT (L := [.own a5 z.fl.length c6 ((z.fl).map V8) 5 1, .obj nb4 (mobj kI z.M z.mc), .own (some a2) z.ls.length c3 ((z.ls).flatMap slE) 57 1, .blk b1 ([.slice (hd (some a2)) z.ls.length c3, .map (some nb4), .bool z.off, VI z.armed, VI z.part, VI z.way, .slice (hd a5) z.fl.length c6, VI z.writes, VI z.lives]) 86, .blk db ([.slice (hd (some z.a1)) z.ls.length z.c1, .map (some z.mb), .bool z.off, VI z.armed, VI z.part, VI z.way, .slice (hd z.fa) z.fl.length z.fc, VI z.writes, VI z.lives]) 86, .own (some z.a1) z.ls.length z.c1 ((z.ls).flatMap slE) 57 1, .obj z.mb (mobj kI z.M z.mc), .own z.fa z.fl.length z.fc ((z.fl).map V8) 5 1]) (T := z.T) H ((perm_front (j := 3) rfl).trans (.cons _ ((perm_front (j := 2) rfl).trans (.cons _ ((perm_front (j := 1) rfl).trans (.cons _ (.refl _)))))))).sub (.cons_cons _ (.cons_cons _ (.cons_cons _ (.cons_cons _ (.cons_cons _ (.cons_cons _ (.cons_cons _ (.cons_cons _ ((List.Sublist.refl _))))))))))⟩
set_option maxHeartbeats 4000000 in
theorem rcopy_ret (w0 : World) (rb : Nat) (z : RDW) (hO : Own w0 (rkc rb z)) (hz : z.ok) :
    Ret Try.prog 45 [.pointer (some ⟨rb, 0, none⟩)] w0 fun v w' => ∃ cb y, v = .pointer (some ⟨cb, 0, none⟩) ∧ y.D = z.D ∧ RDW.ok y ∧ Hp w0 w' (keys (rkc rb z)) (rkc rb z ++ rkc cb y) := by
  refine ret_mk Try.func45 rfl Try.ntmps45 (by simp) ?_
  have H : Hp w0 w0 (keys (rkc rb z)) [.blk rb ([.slice (hd z.a1) z.D.last.length z.c1, .slice (hd z.a2) z.D.last.length z.c2, .bool z.D.off, VI z.D.armed, VI z.D.part, VI z.D.way, .string ⟨(z.cm).toArray⟩, VI z.D.writes, VI z.D.lives]) 106, .own z.a1 z.D.last.length z.c1 ((z.D.last).flatMap strD) 9 1, .own z.a2 z.D.last.length z.c2 ((rwf z.D 0).flatMap strD) 9 1] := hO.start
  have hzn := hz.D.n
  have hza := hz.D.armed
  have hzp := hz.D.part
  have hzw := hz.D.way
  have hzf := hz.D.fl
  have hmL : maxLen = 9223372036854775807 := rfl
  have hrwl := rwf_len z.D 0
  repeat refine c_seq ?_
  refine c_region ?_
  refine l_op (o_val (r_as) ?_)
  first | refine l_end ?_ | refine l_nil ?_
  repeat refine c_seq ?_
  refine c_region ?_
  refine l_op (o_val (r_mv) ?_)
  refine l_op (o_val (r_nilc rfl) ?_)
  refine l_op (o_val (r_ldA (C := [.slice (hd z.a1) z.D.last.length z.c1, .slice (hd z.a2) z.D.last.length z.c2, .bool z.D.off, VI z.D.armed, VI z.D.part, VI z.D.way, .string ⟨(z.cm).toArray⟩, VI z.D.writes, VI z.D.lives]) H (i := 0) rfl rfl rt106 (by rfl)) ?_)
  refine l_op (o_alloc H zc106 (fun b1 w H hb1 => ?_))
  replace H : Hp _ w _ ([.blk rb ([.slice (hd z.a1) z.D.last.length z.c1, .slice (hd z.a2) z.D.last.length z.c2, .bool z.D.off, VI z.D.armed, VI z.D.part, VI z.D.way, .string ⟨(z.cm).toArray⟩, VI z.D.writes, VI z.D.lives]) 106, .own z.a1 z.D.last.length z.c1 ((z.D.last).flatMap strD) 9 1, .own z.a2 z.D.last.length z.c2 ((rwf z.D 0).flatMap strD) 9 1, .blk b1 ([.slice none 0 0, .slice none 0 0, .bool false, VI 0, VI 0, VI 0, .string ⟨(([] : List UInt8)).toArray⟩, VI 0, VI 0]) 106]) := H
  refine l_op (o_stW (C' := [.slice (hd z.a1) z.D.last.length z.c1, .slice (hd z.a2) z.D.last.length z.c2, .bool z.D.off, VI z.D.armed, VI z.D.part, VI z.D.way, .string ⟨(z.cm).toArray⟩, VI z.D.writes, VI z.D.lives]) H (i := 3) rfl rfl rfl cs106 (by simp [Value.oneCell']) (by rfl) (by rfl) (fun w H => ?_))
  replace H : Hp _ w _ ([_, _, _, .blk b1 ([.slice (hd z.a1) z.D.last.length z.c1, .slice (hd z.a2) z.D.last.length z.c2, .bool z.D.off, VI z.D.armed, VI z.D.part, VI z.D.way, .string ⟨(z.cm).toArray⟩, VI z.D.writes, VI z.D.lives]) 106]) := H
  first | refine l_end ?_ | refine l_nil ?_
  repeat refine c_seq ?_
  refine wp_held (fun w => Hp w0 w (keys (rkc rb z)) [.blk rb ([.slice (hd z.a1) z.D.last.length z.c1, .slice (hd z.a2) z.D.last.length z.c2, .bool z.D.off, VI z.D.armed, VI z.D.part, VI z.D.way, .string ⟨(z.cm).toArray⟩, VI z.D.writes, VI z.D.lives]) 106, .own z.a1 z.D.last.length z.c1 ((z.D.last).flatMap strD) 9 1, .own z.a2 z.D.last.length z.c2 ((rwf z.D 0).flatMap strD) 9 1]) mixed ?_
  replace H := H.drew
  have HS := H.sub (.cons_cons _ (.cons_cons _ (.cons_cons _ (List.nil_sublist _))))
  refine t_take 1 rfl (by kernel_rfl) (by kernel_rfl) (by kernel_rfl) (fun _ _ _ h => h) (fun w HS => r_mv) HS ?_
  refine t_take 2 rfl (by kernel_rfl) (by kernel_rfl) (by kernel_rfl) (fun _ _ _ h => h) (fun w HS => r_nilc rfl) HS ?_
  refine t_take 3 rfl (by kernel_rfl) (by kernel_rfl) (by kernel_rfl) (fun _ _ _ h => h) (fun w HS => r_fa rfl fo106_0) HS ?_
  refine t_take 4 rfl (by kernel_rfl) (by kernel_rfl) (by kernel_rfl) (fun _ _ _ h => h) (fun w HS => r_ld (v := .slice (hd z.a1) z.D.last.length z.c1) HS (i := 0) rfl rfl ct49 rfl) HS ?_
  refine t_take 7 rfl (by kernel_rfl) (by kernel_rfl) (by kernel_rfl) (fun _ _ _ h => h) (fun w HS => r_mv) HS ?_
  refine t_take 8 rfl (by kernel_rfl) (by kernel_rfl) (by kernel_rfl) (fun _ _ _ h => h) (fun w HS => r_nilc rfl) HS ?_
  refine t_take 9 rfl (by kernel_rfl) (by kernel_rfl) (by kernel_rfl) (fun _ _ _ h => h) (fun w HS => r_fa rfl fo106_1) HS ?_
  refine t_take 10 rfl (by kernel_rfl) (by kernel_rfl) (by kernel_rfl) (fun _ _ _ h => h) (fun w HS => r_ld (v := .slice (hd z.a2) z.D.last.length z.c2) HS (i := 0) rfl rfl ct49 rfl) HS ?_
  refine t_all [0, 6] (by kernel_rfl) (by simp) (all_cons (w_op 0 rfl ?_) (all_cons (w_op 6 rfl ?_) (all_nil)))
  ·
   refine (o_bslG0 (α := (List UInt8)) (enc := strD) H sl49 zc9 (by decide) (fun b2 w H hb2 => ?_))
   replace H : Hp _ w _ ([_, _, _, _, .own (some b2) 0 0 ((([] : List (List UInt8))).flatMap strD) 9 1]) := H
   refine ⟨H.sub (.cons_cons _ (.cons_cons _ (.cons_cons _ (List.nil_sublist _)))), ?_⟩
   replace HS := H.sub (.cons_cons _ (.cons_cons _ (.cons_cons _ (List.nil_sublist _))))
   refine t_all [5, 6] (by kernel_rfl) (by simp) (all_cons (w_op 5 rfl ?_) (all_cons (w_op 6 rfl ?_) (all_nil)))
   ·
    refine (o_appG (enc := strD) (s := ⟨hd z.a1, z.D.last.length, z.c1, z.D.last⟩) (l' := z.D.last) (len' := z.D.last.length) rfl (Nat.zero_add _) H (i := 4) rfl sl49 Try.underlying49 rfl rfl (H.glOwn (i := 1) rfl (by decide) (fun _ _ => rfl)) (by decide) (fun _ _ => rfl) (by omega) (by decide) (fun a3 c4 w H => ?_))
    replace H : Hp _ w _ ([_, _, _, _, .own a3 z.D.last.length c4 ((z.D.last).flatMap strD) 9 1]) := H
    refine ⟨H.sub (.cons_cons _ (.cons_cons _ (.cons_cons _ (List.nil_sublist _)))), ?_⟩
    replace HS := H.sub (.cons_cons _ (.cons_cons _ (.cons_cons _ (List.nil_sublist _))))
    refine t_step 6 rfl (by kernel_rfl) (o_bslG0 (α := (List UInt8)) (enc := strD) H sl49 zc9 (by decide) (fun b5 w H hb5 => ?_))
    replace H : Hp _ w _ ([_, _, _, _, _, .own (some b5) 0 0 ((([] : List (List UInt8))).flatMap strD) 9 1]) := H
    refine ⟨H.sub (.cons_cons _ (.cons_cons _ (.cons_cons _ (List.nil_sublist _)))), ?_⟩
    replace HS := H.sub (.cons_cons _ (.cons_cons _ (.cons_cons _ (List.nil_sublist _))))
    refine t_step 11 rfl (by kernel_rfl) (o_appG (enc := strD) (s := ⟨hd z.a2, z.D.last.length, z.c2, rwf z.D 0⟩) (l' := rwf z.D 0) (len' := z.D.last.length) rfl (Nat.zero_add _) H (i := 5) rfl sl49 Try.underlying49 rfl rfl (H.glOwn (i := 2) rfl (by decide) (fun _ _ => rfl)) (by decide) (fun _ _ => rfl) (by omega) (by decide) (fun a6 c7 w H => ?_))
    replace H : Hp _ w _ ([_, _, _, _, _, .own a6 z.D.last.length c7 ((rwf z.D 0).flatMap strD) 9 1]) := H
    refine ⟨H.sub (.cons_cons _ (.cons_cons _ (.cons_cons _ (List.nil_sublist _)))), ?_⟩
    replace HS := H.sub (.cons_cons _ (.cons_cons _ (.cons_cons _ (List.nil_sublist _))))
    refine t_take 12 rfl (by kernel_rfl) (by kernel_rfl) (by kernel_rfl) (fun _ _ _ h => h) (fun w HS => r_fa rfl fo106_0) HS ?_
    refine t_step 13 rfl (by kernel_rfl) (o_st (v := .slice (hd a3) z.D.last.length c4) H (i := 3) rfl rfl rfl cs49 rfl (by simp only [List.length_cons, List.length_nil]; omega) (fun w H => ?_))
    replace H : Hp _ w _ ([_, _, _, .blk b1 ([.slice (hd a3) z.D.last.length c4, .slice (hd z.a2) z.D.last.length z.c2, .bool z.D.off, VI z.D.armed, VI z.D.part, VI z.D.way, .string ⟨(z.cm).toArray⟩, VI z.D.writes, VI z.D.lives]) 106, _, _]) := H
    refine ⟨H.sub (.cons_cons _ (.cons_cons _ (.cons_cons _ (List.nil_sublist _)))), ?_⟩
    replace HS := H.sub (.cons_cons _ (.cons_cons _ (.cons_cons _ (List.nil_sublist _))))
    refine t_take 14 rfl (by kernel_rfl) (by kernel_rfl) (by kernel_rfl) (fun _ _ _ h => h) (fun w HS => r_fa rfl fo106_1) HS ?_
    refine t_step 15 rfl (by kernel_rfl) (o_st (v := .slice (hd a6) z.D.last.length c7) H (i := 3) rfl rfl rfl cs49 rfl (by simp only [List.length_cons, List.length_nil]; omega) (fun w H => ?_))
    replace H : Hp _ w _ ([_, _, _, .blk b1 ([.slice (hd a3) z.D.last.length c4, .slice (hd a6) z.D.last.length c7, .bool z.D.off, VI z.D.armed, VI z.D.part, VI z.D.way, .string ⟨(z.cm).toArray⟩, VI z.D.writes, VI z.D.lives]) 106, _, _]) := H
    refine ⟨H.sub (.cons_cons _ (.cons_cons _ (.cons_cons _ (List.nil_sublist _)))), ?_⟩
    replace HS := H.sub (.cons_cons _ (.cons_cons _ (.cons_cons _ (List.nil_sublist _))))
    refine t_done (by kernel_rfl) ?_
    clear HS
    repeat refine c_seq ?_
    refine c_region ?_
    refine l_op (o_val (r_as) ?_)
    first | refine l_end ?_ | refine l_nil ?_
    refine c_ret ?_
    try dsimp only [Exit.then, Exit.inBlock]
    refine e_ret1 (v := .pointer (some ⟨b1, 0, none⟩)) Try.results45 rfl ?_
    refine ⟨_, rfl, ?_⟩
    exact ⟨b1, { z with a1 := a3, c1 := c4, a2 := a6, c2 := c7 }, rfl, rfl, ⟨hz.D, hz.cm⟩, (H.permL (.refl _)).sub (.cons_cons _ (.cons_cons _ (.cons_cons _ (.cons_cons _ (.cons_cons _ (.cons_cons _ ((List.nil_sublist _))))))))⟩
   ·
    refine (o_bslG0 (α := (List UInt8)) (enc := strD) H sl49 zc9 (by decide) (fun b8 w H hb8 => ?_))
    replace H : Hp _ w _ ([_, _, _, _, _, .own (some b8) 0 0 ((([] : List (List UInt8))).flatMap strD) 9 1]) := H
    refine ⟨H.sub (.cons_cons _ (.cons_cons _ (.cons_cons _ (List.nil_sublist _)))), ?_⟩
    replace HS := H.sub (.cons_cons _ (.cons_cons _ (.cons_cons _ (List.nil_sublist _))))
    refine t_step 5 rfl (by kernel_rfl) (o_appG (enc := strD) (s := ⟨hd z.a1, z.D.last.length, z.c1, z.D.last⟩) (l' := z.D.last) (len' := z.D.last.length) rfl (Nat.zero_add _) H (i := 4) rfl sl49 Try.underlying49 rfl rfl (H.glOwn (i := 1) rfl (by decide) (fun _ _ => rfl)) (by decide) (fun _ _ => rfl) (by omega) (by decide) (fun a9 c10 w H => ?_))
    replace H : Hp _ w _ ([_, _, _, _, .own a9 z.D.last.length c10 ((z.D.last).flatMap strD) 9 1, _]) := H
    refine ⟨H.sub (.cons_cons _ (.cons_cons _ (.cons_cons _ (List.nil_sublist _)))), ?_⟩
    replace HS := H.sub (.cons_cons _ (.cons_cons _ (.cons_cons _ (List.nil_sublist _))))
    refine t_step 11 rfl (by kernel_rfl) (o_appG (enc := strD) (s := ⟨hd z.a2, z.D.last.length, z.c2, rwf z.D 0⟩) (l' := rwf z.D 0) (len' := z.D.last.length) rfl (Nat.zero_add _) H (i := 5) rfl sl49 Try.underlying49 rfl rfl (H.glOwn (i := 2) rfl (by decide) (fun _ _ => rfl)) (by decide) (fun _ _ => rfl) (by omega) (by decide) (fun a11 c12 w H => ?_))
    replace H : Hp _ w _ ([_, _, _, _, _, .own a11 z.D.last.length c12 ((rwf z.D 0).flatMap strD) 9 1]) := H
    refine ⟨H.sub (.cons_cons _ (.cons_cons _ (.cons_cons _ (List.nil_sublist _)))), ?_⟩
    replace HS := H.sub (.cons_cons _ (.cons_cons _ (.cons_cons _ (List.nil_sublist _))))
    refine t_take 12 rfl (by kernel_rfl) (by kernel_rfl) (by kernel_rfl) (fun _ _ _ h => h) (fun w HS => r_fa rfl fo106_0) HS ?_
    refine t_step 13 rfl (by kernel_rfl) (o_st (v := .slice (hd a9) z.D.last.length c10) H (i := 3) rfl rfl rfl cs49 rfl (by simp only [List.length_cons, List.length_nil]; omega) (fun w H => ?_))
    replace H : Hp _ w _ ([_, _, _, .blk b1 ([.slice (hd a9) z.D.last.length c10, .slice (hd z.a2) z.D.last.length z.c2, .bool z.D.off, VI z.D.armed, VI z.D.part, VI z.D.way, .string ⟨(z.cm).toArray⟩, VI z.D.writes, VI z.D.lives]) 106, _, _]) := H
    refine ⟨H.sub (.cons_cons _ (.cons_cons _ (.cons_cons _ (List.nil_sublist _)))), ?_⟩
    replace HS := H.sub (.cons_cons _ (.cons_cons _ (.cons_cons _ (List.nil_sublist _))))
    refine t_take 14 rfl (by kernel_rfl) (by kernel_rfl) (by kernel_rfl) (fun _ _ _ h => h) (fun w HS => r_fa rfl fo106_1) HS ?_
    refine t_step 15 rfl (by kernel_rfl) (o_st (v := .slice (hd a11) z.D.last.length c12) H (i := 3) rfl rfl rfl cs49 rfl (by simp only [List.length_cons, List.length_nil]; omega) (fun w H => ?_))
    replace H : Hp _ w _ ([_, _, _, .blk b1 ([.slice (hd a9) z.D.last.length c10, .slice (hd a11) z.D.last.length c12, .bool z.D.off, VI z.D.armed, VI z.D.part, VI z.D.way, .string ⟨(z.cm).toArray⟩, VI z.D.writes, VI z.D.lives]) 106, _, _]) := H
    refine ⟨H.sub (.cons_cons _ (.cons_cons _ (.cons_cons _ (List.nil_sublist _)))), ?_⟩
    replace HS := H.sub (.cons_cons _ (.cons_cons _ (.cons_cons _ (List.nil_sublist _))))
    refine t_done (by kernel_rfl) ?_
    clear HS
    repeat refine c_seq ?_
    refine c_region ?_
    refine l_op (o_val (r_as) ?_)
    first | refine l_end ?_ | refine l_nil ?_
    refine c_ret ?_
    try dsimp only [Exit.then, Exit.inBlock]
    refine e_ret1 (v := .pointer (some ⟨b1, 0, none⟩)) Try.results45 rfl ?_
    refine ⟨_, rfl, ?_⟩
    exact ⟨b1, { z with a1 := a9, c1 := c10, a2 := a11, c2 := c12 }, rfl, rfl, ⟨hz.D, hz.cm⟩, (H.permL (.refl _)).sub (.cons_cons _ (.cons_cons _ (.cons_cons _ (.cons_cons _ (.cons_cons _ (.cons_cons _ ((List.nil_sublist _))))))))⟩
  ·
   refine (o_bslG0 (α := (List UInt8)) (enc := strD) H sl49 zc9 (by decide) (fun b13 w H hb13 => ?_))
   replace H : Hp _ w _ ([_, _, _, _, .own (some b13) 0 0 ((([] : List (List UInt8))).flatMap strD) 9 1]) := H
   refine ⟨H.sub (.cons_cons _ (.cons_cons _ (.cons_cons _ (List.nil_sublist _)))), ?_⟩
   replace HS := H.sub (.cons_cons _ (.cons_cons _ (.cons_cons _ (List.nil_sublist _))))
   refine t_step 0 rfl (by kernel_rfl) (o_bslG0 (α := (List UInt8)) (enc := strD) H sl49 zc9 (by decide) (fun b14 w H hb14 => ?_))
   replace H : Hp _ w _ ([_, _, _, _, _, .own (some b14) 0 0 ((([] : List (List UInt8))).flatMap strD) 9 1]) := H
   refine ⟨H.sub (.cons_cons _ (.cons_cons _ (.cons_cons _ (List.nil_sublist _)))), ?_⟩
   replace HS := H.sub (.cons_cons _ (.cons_cons _ (.cons_cons _ (List.nil_sublist _))))
   refine t_step 5 rfl (by kernel_rfl) (o_appG (enc := strD) (s := ⟨hd z.a1, z.D.last.length, z.c1, z.D.last⟩) (l' := z.D.last) (len' := z.D.last.length) rfl (Nat.zero_add _) H (i := 5) rfl sl49 Try.underlying49 rfl rfl (H.glOwn (i := 1) rfl (by decide) (fun _ _ => rfl)) (by decide) (fun _ _ => rfl) (by omega) (by decide) (fun a15 c16 w H => ?_))
   replace H : Hp _ w _ ([_, _, _, _, _, .own a15 z.D.last.length c16 ((z.D.last).flatMap strD) 9 1]) := H
   refine ⟨H.sub (.cons_cons _ (.cons_cons _ (.cons_cons _ (List.nil_sublist _)))), ?_⟩
   replace HS := H.sub (.cons_cons _ (.cons_cons _ (.cons_cons _ (List.nil_sublist _))))
   refine t_step 11 rfl (by kernel_rfl) (o_appG (enc := strD) (s := ⟨hd z.a2, z.D.last.length, z.c2, rwf z.D 0⟩) (l' := rwf z.D 0) (len' := z.D.last.length) rfl (Nat.zero_add _) H (i := 4) rfl sl49 Try.underlying49 rfl rfl (H.glOwn (i := 2) rfl (by decide) (fun _ _ => rfl)) (by decide) (fun _ _ => rfl) (by omega) (by decide) (fun a17 c18 w H => ?_))
   replace H : Hp _ w _ ([_, _, _, _, .own a17 z.D.last.length c18 ((rwf z.D 0).flatMap strD) 9 1, _]) := H
   refine ⟨H.sub (.cons_cons _ (.cons_cons _ (.cons_cons _ (List.nil_sublist _)))), ?_⟩
   replace HS := H.sub (.cons_cons _ (.cons_cons _ (.cons_cons _ (List.nil_sublist _))))
   refine t_take 12 rfl (by kernel_rfl) (by kernel_rfl) (by kernel_rfl) (fun _ _ _ h => h) (fun w HS => r_fa rfl fo106_0) HS ?_
   refine t_step 13 rfl (by kernel_rfl) (o_st (v := .slice (hd a15) z.D.last.length c16) H (i := 3) rfl rfl rfl cs49 rfl (by simp only [List.length_cons, List.length_nil]; omega) (fun w H => ?_))
   replace H : Hp _ w _ ([_, _, _, .blk b1 ([.slice (hd a15) z.D.last.length c16, .slice (hd z.a2) z.D.last.length z.c2, .bool z.D.off, VI z.D.armed, VI z.D.part, VI z.D.way, .string ⟨(z.cm).toArray⟩, VI z.D.writes, VI z.D.lives]) 106, _, _]) := H
   refine ⟨H.sub (.cons_cons _ (.cons_cons _ (.cons_cons _ (List.nil_sublist _)))), ?_⟩
   replace HS := H.sub (.cons_cons _ (.cons_cons _ (.cons_cons _ (List.nil_sublist _))))
   refine t_take 14 rfl (by kernel_rfl) (by kernel_rfl) (by kernel_rfl) (fun _ _ _ h => h) (fun w HS => r_fa rfl fo106_1) HS ?_
   refine t_step 15 rfl (by kernel_rfl) (o_st (v := .slice (hd a17) z.D.last.length c18) H (i := 3) rfl rfl rfl cs49 rfl (by simp only [List.length_cons, List.length_nil]; omega) (fun w H => ?_))
   replace H : Hp _ w _ ([_, _, _, .blk b1 ([.slice (hd a15) z.D.last.length c16, .slice (hd a17) z.D.last.length c18, .bool z.D.off, VI z.D.armed, VI z.D.part, VI z.D.way, .string ⟨(z.cm).toArray⟩, VI z.D.writes, VI z.D.lives]) 106, _, _]) := H
   refine ⟨H.sub (.cons_cons _ (.cons_cons _ (.cons_cons _ (List.nil_sublist _)))), ?_⟩
   replace HS := H.sub (.cons_cons _ (.cons_cons _ (.cons_cons _ (List.nil_sublist _))))
   refine t_done (by kernel_rfl) ?_
   clear HS
   repeat refine c_seq ?_
   refine c_region ?_
   refine l_op (o_val (r_as) ?_)
   first | refine l_end ?_ | refine l_nil ?_
   refine c_ret ?_
   try dsimp only [Exit.then, Exit.inBlock]
   refine e_ret1 (v := .pointer (some ⟨b1, 0, none⟩)) Try.results45 rfl ?_
   refine ⟨_, rfl, ?_⟩
   exact ⟨b1, { z with a1 := a15, c1 := c16, a2 := a17, c2 := c18 }, rfl, rfl, ⟨hz.D, hz.cm⟩, (H.permL ((perm_front (j := 0) rfl).trans (.cons _ ((perm_front (j := 0) rfl).trans (.cons _ ((perm_front (j := 0) rfl).trans (.cons _ ((perm_front (j := 0) rfl).trans (.cons _ ((perm_front (j := 1) rfl).trans (.cons _ (.refl _)))))))))))).sub (.cons_cons _ (.cons_cons _ (.cons_cons _ (.cons_cons _ (.cons_cons _ (.cons_cons _ ((List.nil_sublist _))))))))⟩
end Go.Proofs.Ytncmcgcilijfkaa
namespace Go.Proofs.Ytncmcgcilijfkaa
open Go
set_option maxRecDepth 100000
theorem OpD.ok.up {w0 w : World} {L : List Ch} {c : OpD} (h : c.ok w0) (H : Hp w0 w [] L) : c.ok w := ⟨h.1, h.2.1, h.2.2.1, h.2.2.2.1.up H (fun _ => apart_nil _), h.2.2.2.2.up H⟩
theorem rnewI_ret (w0 : World) (n : Int) (hn : 32 ≤ n ∧ n ≤ 4096) : Ret Try.prog 38 [VI n] w0 fun v w' => ∃ rb z, v = .pointer (some ⟨rb, 0, none⟩) ∧ z.D = dNew n.toNat ∧ z.ok ∧ Hp w0 w' [] (rkc rb z) := by
  obtain ⟨m, rfl⟩ := Int.eq_ofNat_of_zero_le (show 0 ≤ n by omega)
  exact rnew_ret w0 m (by omega)
end Go.Proofs.Ytncmcgcilijfkaa
