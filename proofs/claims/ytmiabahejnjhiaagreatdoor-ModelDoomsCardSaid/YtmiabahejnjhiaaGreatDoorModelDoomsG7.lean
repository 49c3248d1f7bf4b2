/- Lemmas for the statement ModelDooms, part 7: rules of operations, walks through functions, plain laws. -/
import Derived.Test.YtmiabahejnjhiaaGreatDoorModelDoomsG6
import Derived.Lib.ItoaLen
import Derived.Shelf.LaysM
import Derived.Shelf.Strconv.Itoa4
namespace Go.Proofs.YtmiabahejnjhiaaGreatDoor
open Go
set_option maxRecDepth 100000
def idE (x : Id32) : List Value := x.1.map V8
theorem idE_len (x : Id32) : (idE x).length = 32 := by rw [idE, List.length_map, x.2]
theorem idE_all (x : Id32) : (idE x).all (·.oneCell') = true := by
  rw [idE, List.all_eq_true]; intro v hv; obtain ⟨c, _, rfl⟩ := List.mem_map.1 hv; rfl
abbrev nilS : Sl := ⟨none, 0, 0, []⟩
theorem zv_sl (w : World) : (zeroValue 33).run Tryz.prog w = .ok (Sl.v nilS) w := by
  have h : (Tryz.prog.info? 33).map (·.zero) = some (some (Sl.v nilS)) := by kernel_rfl
  cases hi : Tryz.prog.info? 33 with
  | none => rw [hi] at h; cases h
  | some i =>
    rw [hi] at h
    simp only [Option.map_some, Option.some.injEq] at h
    simp [zeroValue, typeInfo, hi, h]
theorem zv_i (w : World) : (zeroValue 3).run Tryz.prog w = .ok (VI 0) w := by
  have h : (Tryz.prog.info? 3).map (·.zero) = some (some (VI 0)) := by kernel_rfl
  cases hi : Tryz.prog.info? 3 with
  | none => rw [hi] at h; cases h
  | some i =>
    rw [hi] at h
    simp only [Option.map_some, Option.some.injEq] at h
    simp [zeroValue, typeInfo, hi, h]
def len8 : List UInt8 := [0, 1, 2, 2, 3, 3, 3, 3, 4, 4, 4, 4, 4, 4, 4, 4, 5, 5, 5, 5, 5, 5, 5, 5, 5, 5, 5, 5, 5, 5, 5, 5, 6, 6, 6, 6, 6, 6, 6, 6, 6, 6, 6, 6, 6, 6, 6, 6, 6, 6, 6, 6, 6, 6, 6, 6, 6, 6, 6, 6, 6, 6, 6, 6, 7, 7, 7, 7, 7, 7, 7, 7, 7, 7, 7, 7, 7, 7, 7, 7, 7, 7, 7, 7, 7, 7, 7, 7, 7, 7, 7, 7, 7, 7, 7, 7, 7, 7, 7, 7, 7, 7, 7, 7, 7, 7, 7, 7, 7, 7, 7, 7, 7, 7, 7, 7, 7, 7, 7, 7, 7, 7, 7, 7, 7, 7, 7, 7, 8, 8, 8, 8, 8, 8, 8, 8, 8, 8, 8, 8, 8, 8, 8, 8, 8, 8, 8, 8, 8, 8, 8, 8, 8, 8, 8, 8, 8, 8, 8, 8, 8, 8, 8, 8, 8, 8, 8, 8, 8, 8, 8, 8, 8, 8, 8, 8, 8, 8, 8, 8, 8, 8, 8, 8, 8, 8, 8, 8, 8, 8, 8, 8, 8, 8, 8, 8, 8, 8, 8, 8, 8, 8, 8, 8, 8, 8, 8, 8, 8, 8, 8, 8, 8, 8, 8, 8, 8, 8, 8, 8, 8, 8, 8, 8, 8, 8, 8, 8, 8, 8, 8, 8, 8, 8, 8, 8, 8, 8, 8, 8, 8, 8, 8, 8, 8, 8, 8, 8, 8, 8, 8, 8, 8, 8, 8, 8]
theorem len8_len : len8.length = 256 := by rfl
theorem len64_ret (w0 : World) (u : UInt64) (hu : u.toNat ≤ 1) :
    Ret Tryz.prog 195 [V64 u] w0 fun v w' => ∃ x : Int, v = VI x ∧ Hp w0 w' [] [] := by
  refine ret_mk Tryz.func195 rfl Tryz.ntmps195 (by simp) ?_
  have H := Hp.refl w0 []
  refine rG ?_; refine aZ ?_; refine eN ?_
  refine rG ?_; refine mV ?_; refine lV (r_bin (a := (u.toNat : Int)) (b := 4294967296) rfl rfl (fun _ => b_geqB false (decide_eq_false oM))) ?_; refine eN ?_
  refine qN ?_; refine c_skip ?_; refine rG ?_; refine mV ?_; refine lV (r_bin (a := (u.toNat : Int)) (b := 65536) rfl rfl (fun _ => b_geqB false (decide_eq_false oM))) ?_; refine eN ?_
  refine qN ?_; refine c_skip ?_; refine rG ?_; refine mV ?_; refine lV (r_bin (a := (u.toNat : Int)) (b := 256) rfl rfl (fun _ => b_geqB false (decide_eq_false oM))) ?_; refine eN ?_
  refine qN ?_; refine c_skip ?_; refine rG ?_; refine mV ?_; refine mV ?_; refine lV (r_conv Tryz.underlying25 Tryz.underlying5 rfl (w_u8_64 _)) ?_; have hu8 := u8_lt u.toUInt8
  have hl8 := len8_len
  have hg8 := u8_lt (len8.getD (u.toUInt8).toNat 0)
  refine lV (r_idxS (l := len8) (u.toUInt8).toNat Tryz.underlying9 rfl rfl oM oM) ?_; refine lV (r_conv Tryz.underlying5 Tryz.underlying3 rfl (w_i64_8 _)) ?_; refine lV (r_bin (a := 0) (b := ((len8.getD (u.toUInt8).toNat 0).toNat : Int)) rfl rfl (fun _ => b_add oM oM)) ?_; refine aZ ?_; refine eN ?_
  refine cR ?_
  refine e_ret1 (v := VI (0 + ((len8.getD (u.toUInt8).toNat 0).toNat : Int))) Tryz.results195 rfl ?_
  refine ⟨_, rfl, ?_⟩
  exact ⟨_, rfl, H⟩
theorem blen_ret (w0 : World) (u : UInt64) (hu : u.toNat ≤ 1) :
    Ret Tryz.prog 175 [V64 u] w0 fun v w' => ∃ x : Int, v = VI x ∧ Hp w0 w' [] [] := by
  refine ret_mk Tryz.func175 rfl Tryz.ntmps175 (by simp) ?_
  have H := Hp.refl w0 []
  refine rG ?_; refine aZ ?_; refine eN ?_
  refine qN ?_; refine c_skip ?_; refine rG ?_; refine mV ?_; refine l_op (o_callR Tryz.func195 rfl rfl rfl (len64_ret _ (u) (by first | decide | omega)) ?_); rintro _ w ⟨x1, rfl, Hc⟩
  replace H : Hp _ w _ ([]) := H.call Hc
  clear Hc
  refine aZ ?_; refine eN ?_
  refine cR ?_
  refine e_ret1 (v := VI x1) Tryz.results175 rfl ?_
  refine ⟨_, rfl, ?_⟩
  exact ⟨_, rfl, H⟩
theorem insA_ret (w0 : World) (x : Value) (n : Nat) (hn : n ≤ 1) (f : Value) :
    Ret Tryz.prog 186 [x, VI 0, VI (n : Int), f] w0 fun v w' => v = .tuple #[] ∧ Hp w0 w' [] [] := by
  refine ret_mk Tryz.func186 rfl Tryz.ntmps186 (by simp) ?_
  have H := Hp.refl w0 []
  refine rG ?_; refine mV ?_; refine lV (r_bin (a := 0) (b := 1) rfl rfl (fun _ => b_add oM oM)) ?_; refine aZ ?_; refine eN ?_
  refine qB ?_; repeat refine c_seq ?_
  refine c_loop (fun (i : Nat) => [(0, x), (1, VI 0), (2, VI (n : Int)), (3, f), (8, VI (i : Int))])
    (fun (i : Nat) w => (i = 1) ∧ Hp w0 w [] ([]))
    (fun (i : Nat) => 0) 1 ⟨rfl, rfl, rfl, rfl, rfl, trivial⟩ ⟨rfl, H⟩ ?_
  clear H
  rintro i τ w ⟨hi, H⟩
  refine rG ?_; refine mV ?_; refine mV ?_; refine lV (r_bin (a := (i : Int)) (b := (n : Int)) rfl rfl (fun _ => b_lssB false (decide_eq_false oM))) ?_; refine eN ?_
  refine qN ?_; refine c_exit ?_; refine eZ ?_; refine e_ret0 Tryz.results186 ?_
  refine ⟨_, rfl, ?_⟩
  exact ⟨rfl, H⟩
theorem pdqA_ret (w0 : World) (x : Value) (n : Nat) (hn : n ≤ 1) (m : Int) (f : Value) :
    Ret Tryz.prog 174 [x, VI 0, VI (n : Int), VI m, f] w0 fun v w' => v = .tuple #[] ∧ Hp w0 w' [] [] := by
  refine ret_mk Tryz.func174 rfl Tryz.ntmps174 (by simp) ?_
  have H := Hp.refl w0 []
  refine rG ?_; refine aZ ?_; refine eN ?_
  refine rG ?_; refine aZ ?_; refine eN ?_
  refine qB ?_; repeat refine c_seq ?_
  refine c_loop (fun (i : Nat) => [(0, x), (1, VI 0), (2, VI (n : Int)), (3, VI m), (4, f), (10, .bool true), (11, .bool true)])
    (fun (i : Nat) w => (i = 0) ∧ Hp w0 w [] ([]))
    (fun (i : Nat) => 0) 0 ⟨rfl, rfl, rfl, rfl, rfl, rfl, rfl, trivial⟩ ⟨rfl, H⟩ ?_
  clear H
  rintro i τ w ⟨hi, H⟩
  refine qB ?_; refine rG ?_; refine mV ?_; refine mV ?_; refine lV (r_bin (a := (n : Int)) (b := 0) rfl rfl (fun _ => b_sub oM oM)) ?_; refine aZ ?_; refine eN ?_
  refine rG ?_; refine mV ?_; refine lV (r_bin (a := (n : Int) - 0) (b := 12) rfl rfl (fun _ => b_leqB true (decide_eq_true oM))) ?_; refine eN ?_
  refine qY ?_; refine rG ?_; refine mV ?_; refine mV ?_; refine mV ?_; refine mV ?_; refine l_op (o_callR Tryz.func186 rfl rfl rfl (insA_ret _ x n hn f) ?_); rintro _ w ⟨rfl, Hc⟩
  replace H : Hp _ w _ ([]) := H.call Hc
  clear Hc
  refine eN ?_
  refine cR ?_
  refine e_ret0 Tryz.results174 ?_
  refine ⟨_, rfl, ?_⟩
  exact ⟨rfl, H⟩
theorem sort1_ret (w0 : World) (a : Option Addr) (n c : Nat) (hn : n ≤ 1) (f : Value) :
    Ret Tryz.prog 155 [.slice a n c, f] w0 fun v w' => v = .tuple #[] ∧ Hp w0 w' [] [] := by
  refine ret_mk Tryz.func155 rfl Tryz.ntmps155 (by simp) ?_
  have H := Hp.refl w0 []
  have hn2 : (UInt64.ofNat n).toNat ≤ 1 := by rw [UInt64.toNat_ofNat']; omega
  refine rG ?_; refine mV ?_; refine lV (r_lens el140 rfl) ?_; refine aZ ?_; refine eN ?_
  refine rG ?_; refine mV ?_; refine mV ?_; refine mV ?_; refine lV (r_conv (v := ((UInt64.ofNat n).toNat : Int)) Tryz.underlying3 Tryz.underlying131 rfl (w_u64_N n oM)) ?_; refine l_op (o_callR Tryz.func175 rfl rfl rfl (blen_ret _ (UInt64.ofNat n) oM) ?_); rintro _ w ⟨x1, rfl, Hc⟩
  replace H : Hp _ w _ ([]) := H.call Hc
  clear Hc
  refine mV ?_; refine l_op (o_callR Tryz.func174 rfl rfl rfl (pdqA_ret _ (.slice a n c) n hn (x1) f) ?_); rintro _ w ⟨rfl, Hc⟩
  replace H : Hp _ w _ ([]) := H.call Hc
  clear Hc
  refine eN ?_
  refine eZ ?_; refine e_ret0 Tryz.results155 ?_
  refine ⟨_, rfl, ?_⟩
  exact ⟨rfl, H⟩
theorem mkeysInt_ret (w0 : World) (b : Nat) :
    Ret Tryz.prog 131 [.map (some b)] w0 fun v w' => ∃ bb, v = .func (.func 156) #[] #[.pointer (some ⟨bb, 0, none⟩)] ∧ Hp w0 w' [] [.blk bb [.map (some b)] 161] := by
  refine ret_mk Tryz.func131 rfl Tryz.ntmps131 (by simp) ?_
  have H := Hp.refl w0 []
  refine rG ?_; refine l_op (o_box (v := .map (some b)) H rfl (fun b1 w H hb1 => ?_)); replace H : Hp _ w _ ([.blk b1 ([.map (some b)]) 161]) := H
  refine aZ ?_; refine eN ?_
  refine rG ?_; refine lV (r_mkfn (vs := [.pointer (some ⟨b1, 0, none⟩)]) rfl) ?_; refine aZ ?_; refine eN ?_
  refine cR ?_
  refine e_ret1 (v := .func (.func 156) #[] #[.pointer (some ⟨b1, 0, none⟩)]) Tryz.results131 rfl ?_
  refine ⟨_, rfl, ?_⟩
  exact ⟨_, rfl, H⟩
theorem appseq_ret (w0 : World) (bb b c : Nat) (M : List (Id32 × Value × Nat)) (F : Id32 → Option Int) (hF : MIs VI M F) (hM : MOk M c) (hO : Own w0 [.blk bb [.map (some b)] 161, .obj b (mobj kA M c)]) (hcard : ∀ l : List Id32, l.Nodup → (∀ j ∈ l, (F j).isSome = true) → l.length ≤ 1) :
    Ret Tryz.prog 173 [.slice none 0 0, .func (.func 156) #[] #[.pointer (some ⟨bb, 0, none⟩)]] w0 fun v w' => ∃ (a : Option Nat) (k : Nat) (R : List Id32), R.length ≤ 1 ∧ v = .slice (hd a) R.length k ∧ Hp w0 w' (keys [.blk bb [.map (some b)] 161, .obj b (mobj kA M c)]) [.blk bb [.map (some b)] 161, .obj b (mobj kA M c), .own a R.length k (R.flatMap idE) 24 32] := by
  refine ret_mkM Tryz.func173 rfl Tryz.ntmps173 (by simp) ?_
  have H := hO.start
  refine rG ?_; refine l_op (o_box (v := .slice none 0 0) H rfl (fun b1 w H hb1 => ?_)); replace H : Hp _ w _ ([.blk bb ([.map (some b)]) 161, .obj b (mobj kA M c), .blk b1 ([.slice none 0 0]) 140]) := H
  refine aZ ?_; refine eN ?_
  refine rG ?_; refine mV ?_; refine eN ?_
  refine qB ?_; replace H := H.nilEnd 24 32
  refine c_rangeK (FX := [.blk bb ([.map (some b)]) 161, .obj b (mobj kA M c)]) (Got := fun kk aa => F kk = some aa) (All := fun vis => vis.Nodup ∧ ∀ j, j ∈ vis ↔ (F j).isSome = true) (I := fun (vis : List Id32) (x : List Id32 × Option Nat × Nat) => match x with | (vis0, a, k) => vis0 = vis ∧ vis0.Nodup ∧ (∀ j ∈ vis0, (F j).isSome = true)) (x0 := ([], none, 0)) (itC := fun it vis => Ch.obj it (itO b M c vis)) (kv := kA) Tryz.func156 rfl rfl (fun Lv l w1 H1 hY => (keysItInt hM hF Lv (fun (vis : List Id32) (x : List Id32 × Option Nat × Nat) => match x with | (vis0, a, k) => vis0 = vis ∧ vis0.Nodup ∧ (∀ j ∈ vis0, (F j).isSome = true)) ([], none, 0) ⟨rfl, List.nodup_nil, fun _ h => (by cases h)⟩ H1 (fun it vis x kk aa W hI hf hk _ _ HW => hY it vis x kk aa W hI hf hk HW)).mono (fun _ _ ⟨vis, x, h1, h2, h3, h4⟩ => ⟨vis, x, h1, ⟨h2, h3⟩, h4⟩)) rfl (fun x : List Id32 × Option Nat × Nat => match x with | (vis0, a, k) => [.blk b1 ([.slice (hd a) vis0.length k]) 140, .own a vis0.length k ((vis0).flatMap idE) 24 32]) H ?_ ?_
  ·
   rintro l T vis x kk aa w hI hgot hk H
   obtain ⟨vis0, a, k⟩ := x
   replace hI : vis0 = vis ∧ vis0.Nodup ∧ (∀ j ∈ vis0, (F j).isSome = true) := hI
   replace H : Hp w0 w (keys [.blk bb [.map (some b)] 161, .obj b (mobj kA M c)]) (Ch.blk bb ([.map (some b)]) 161 :: Ch.obj b (mobj kA M c) :: Ch.blk b1 ([.slice (hd a) vis0.length k]) 140 :: Ch.own a vis0.length k ((vis0).flatMap idE) 24 32 :: T) := H
   repeat refine wpIn_seq ?_
   refine i_region (by rfl) (by rintro ⟨_, _, h⟩; first | exact (show False from h) | cases (And.left h : Exit.outgrown = Exit.normal)) ?_; refine l_op (o_alloc H zc24 (fun b2 w H hb2 => ?_)); replace H := H.rot
   replace H : Hp _ w _ (Ch.blk b2 ((List.replicate 32 (0 : UInt8)).map V8) 24 :: Ch.blk bb ([.map (some b)]) 161 :: Ch.obj b (mobj kA M c) :: Ch.blk b1 ([.slice (hd a) vis0.length k]) 140 :: Ch.own a vis0.length k ((vis0).flatMap idE) 24 32 :: T) := H
   refine l_op (o_stA (l' := kk.1) H (i := 0) rfl rfl rfl cs24 (show (List.replicate 32 (0 : UInt8)).length = 32 from (List.length_replicate ..)) (show (kk.1).length = 32 from kk.2) (fun w H => ?_)); replace H : Hp _ w _ (Ch.blk b2 ((kk.1).map V8) 24 :: Ch.blk bb ([.map (some b)]) 161 :: Ch.obj b (mobj kA M c) :: Ch.blk b1 ([.slice (hd a) vis0.length k]) 140 :: Ch.own a vis0.length k ((vis0).flatMap idE) 24 32 :: T) := H
   first | refine i_end ?_ | refine l_nil ?_
   try dsimp only [Exit.then, Exit.inBlock]
   refine ⟨[.blk b2 ((kk.1).map V8) 24, .blk bb ([.map (some b)]) 161, .obj b (mobj kA M c), .blk b1 ([.slice (hd a) vis0.length k]) 140, .own a vis0.length k ((vis0).flatMap idE) 24 32], H, ?_⟩
   intro T w H
   replace H : Hp w0 w (keys [.blk bb [.map (some b)] 161, .obj b (mobj kA M c)]) (Ch.blk b2 ((kk.1).map V8) 24 :: Ch.blk bb ([.map (some b)]) 161 :: Ch.obj b (mobj kA M c) :: Ch.blk b1 ([.slice (hd a) vis0.length k]) 140 :: Ch.own a vis0.length k ((vis0).flatMap idE) 24 32 :: T) := H
   repeat refine wpIn_seq ?_
   refine i_block ?_; obtain ⟨hv0, hvn, hvs0⟩ := hI
   subst hv0
   have hvs := vis_snoc hvn hvs0 hgot hk
   have hnv : vis0.length ≤ 1 := hcard vis0 hvn hvs0
   repeat refine wpIn_seq ?_
   refine i_region (by rfl) (by rintro ⟨_, _, h⟩; first | exact (show False from h) | cases (And.left h : Exit.outgrown = Exit.normal)) ?_; refine lV (r_ld H (i := 3) rfl rfl ct140 rfl) ?_; refine lV (r_ldAA (l := kk.1) H (i := 0) rfl rfl rt24 (show (kk.1).length = 32 from kk.2)) ?_; refine l_op (o_bslG1 (enc := idE) (kk) H sl140 zc24 (by rfl) (by decide) (by decide) rfl (idE_len _) (fun b3 w H hb3 => ?_)); replace H := H.rot
   replace H : Hp _ w _ (Ch.own (some b3) 1 1 (([kk]).flatMap idE) 24 32 :: Ch.blk b2 ((kk.1).map V8) 24 :: Ch.blk bb ([.map (some b)]) 161 :: Ch.obj b (mobj kA M c) :: Ch.blk b1 ([.slice (hd a) vis0.length k]) 140 :: Ch.own a vis0.length k ((vis0).flatMap idE) 24 32 :: T) := H
   refine l_op (o_appG (enc := idE) (s := ⟨hd (some b3), 1, 1, [kk]⟩) (l' := vis0 ++ ([kk])) (len' := vis0.length + 1) rfl rfl H (i := 5) rfl sl140 Tryz.underlying140 rfl rfl (H.glOwn (i := 0) rfl (by decide) (fun c _ => idE_len c)) (by decide) (fun c _ => idE_all c) oM (by decide) (fun a4 c5 w H => ?_)); replace H : Hp _ w _ (Ch.own (some b3) 1 1 (([kk]).flatMap idE) 24 32 :: Ch.blk b2 ((kk.1).map V8) 24 :: Ch.blk bb ([.map (some b)]) 161 :: Ch.obj b (mobj kA M c) :: Ch.blk b1 ([.slice (hd a) vis0.length k]) 140 :: Ch.own a4 (vis0.length + 1) c5 ((vis0 ++ ([kk])).flatMap idE) 24 32 :: T) := H
   refine l_op (o_st (v := .slice (hd a4) (vis0.length + 1) c5) H (i := 4) rfl rfl rfl cs140 rfl (by first | decide | simp) (fun w H => ?_)); replace H : Hp _ w _ (Ch.own (some b3) 1 1 (([kk]).flatMap idE) 24 32 :: Ch.blk b2 ((kk.1).map V8) 24 :: Ch.blk bb ([.map (some b)]) 161 :: Ch.obj b (mobj kA M c) :: Ch.blk b1 ([.slice (hd a4) (vis0.length + 1) c5]) 140 :: Ch.own a4 (vis0.length + 1) c5 ((vis0 ++ ([kk])).flatMap idE) 24 32 :: T) := H
   first | refine i_end ?_ | refine l_nil ?_
   try dsimp only [Exit.then, Exit.inBlock]
   have hfl2 : vis0.length + 1 = (vis0 ++ [kk]).length := by rw [List.length_append]; rfl
   rw [hfl2] at H
   exact ⟨rfl, (vis0 ++ [kk], a4, c5), ⟨rfl, hvs.1, fun j hj => hvs.2 j hj⟩, H.sub (.cons _ (.cons _ (.cons_cons _ (.cons_cons _ (.cons_cons _ (.cons_cons _ (List.Sublist.refl _)))))))⟩
  ·
   rintro D vis x w hI hA H
   obtain ⟨vis0, a, k⟩ := x
   replace hI : vis0 = vis ∧ vis0.Nodup ∧ (∀ j ∈ vis0, (F j).isSome = true) := hI
   replace H : Hp w0 w (keys [.blk bb [.map (some b)] 161, .obj b (mobj kA M c)]) ([.obj D (.deferred (some [])), .blk bb ([.map (some b)]) 161, .obj b (mobj kA M c), .blk b1 ([.slice (hd a) vis0.length k]) 140, .own a vis0.length k ((vis0).flatMap idE) 24 32]) := H
   obtain ⟨hv0, hvn, hvs0⟩ := hI
   subst hv0
   have hnv : vis0.length ≤ 1 := hcard vis0 hvn hvs0
   refine rG ?_; refine l_op (d_val (r_ld H (i := 3) rfl rfl ct140 rfl) ?_); refine l_op (d_val (r_as) ?_); refine eN ?_
   refine cR ?_
   refine m_ret1 (v := .slice (hd a) vis0.length k) Tryz.results173 rfl H (i := 0) rfl ?_
   intro w H
   replace H : Hp w0 w (keys [.blk bb [.map (some b)] 161, .obj b (mobj kA M c)]) ([.blk bb ([.map (some b)]) 161, .obj b (mobj kA M c), .blk b1 ([.slice (hd a) vis0.length k]) 140, .own a vis0.length k ((vis0).flatMap idE) 24 32]) := H
   refine ⟨_, rfl, ?_⟩
   refine ⟨a, k, vis0, hnv, rfl, H.sub (.cons_cons _ (.cons_cons _ (.cons _ (.cons_cons _ (List.nil_sublist _)))))⟩
theorem collect_ret (w0 : World) (bb b c : Nat) (M : List (Id32 × Value × Nat)) (F : Id32 → Option Int) (hF : MIs VI M F) (hM : MOk M c) (hO : Own w0 [.blk bb [.map (some b)] 161, .obj b (mobj kA M c)]) (hcard : ∀ l : List Id32, l.Nodup → (∀ j ∈ l, (F j).isSome = true) → l.length ≤ 1) :
    Ret Tryz.prog 154 [.func (.func 156) #[] #[.pointer (some ⟨bb, 0, none⟩)]] w0 fun v w' => ∃ (a : Option Nat) (k : Nat) (R : List Id32), R.length ≤ 1 ∧ v = .slice (hd a) R.length k ∧ Hp w0 w' (keys [.blk bb [.map (some b)] 161, .obj b (mobj kA M c)]) [.blk bb [.map (some b)] 161, .obj b (mobj kA M c), .own a R.length k (R.flatMap idE) 24 32] := by
  refine ret_mk Tryz.func154 rfl Tryz.ntmps154 (by simp) ?_
  have H := hO.start
  refine rG ?_; refine aZ ?_; refine eN ?_
  refine rG ?_; refine mV ?_; refine l_op (o_callR Tryz.func173 rfl rfl rfl (appseq_ret _ bb b c M F hF hM (H.ownP (.refl _) rfl) hcard) ?_); rintro _ w ⟨a1, k2, R3, hsq4, rfl, Hc⟩
  replace H := H.callP (.refl _) rfl Hc (.refl _)
  clear Hc
  replace H : Hp _ w _ ([.blk bb ([.map (some b)]) 161, .obj b (mobj kA M c), .own a1 R3.length k2 ((R3).flatMap idE) 24 32]) := H
  refine aZ ?_; refine eN ?_
  refine cR ?_
  refine e_ret1 (v := .slice (hd a1) R3.length k2) Tryz.results154 rfl ?_
  refine ⟨_, rfl, ?_⟩
  exact ⟨_, _, _, hsq4, rfl, H.sub (.cons_cons _ (.cons_cons _ (.cons_cons _ (List.nil_sublist _))))⟩
theorem sorted_ret (w0 : World) (bb b c : Nat) (M : List (Id32 × Value × Nat)) (F : Id32 → Option Int) (hF : MIs VI M F) (hM : MOk M c) (hO : Own w0 [.blk bb [.map (some b)] 161, .obj b (mobj kA M c)]) (hcard : ∀ l : List Id32, l.Nodup → (∀ j ∈ l, (F j).isSome = true) → l.length ≤ 1) :
    Ret Tryz.prog 130 [.func (.func 156) #[] #[.pointer (some ⟨bb, 0, none⟩)], .func (.func 132) #[] #[]] w0 fun v w' => ∃ (a : Option Nat) (k : Nat) (R : List Id32), R.length ≤ 1 ∧ v = .slice (hd a) R.length k ∧ Hp w0 w' (keys [.blk bb [.map (some b)] 161, .obj b (mobj kA M c)]) [.blk bb [.map (some b)] 161, .obj b (mobj kA M c), .own a R.length k (R.flatMap idE) 24 32] := by
  refine ret_mk Tryz.func130 rfl Tryz.ntmps130 (by simp) ?_
  have H := hO.start
  refine rG ?_; refine aZ ?_; refine eN ?_
  refine rG ?_; refine mV ?_; refine l_op (o_callR Tryz.func154 rfl rfl rfl (collect_ret _ bb b c M F hF hM (H.ownP (.refl _) rfl) hcard) ?_); rintro _ w ⟨a1, k2, R3, hsq4, rfl, Hc⟩
  replace H := H.callP (.refl _) rfl Hc (.refl _)
  clear Hc
  replace H : Hp _ w _ ([.blk bb ([.map (some b)]) 161, .obj b (mobj kA M c), .own a1 R3.length k2 ((R3).flatMap idE) 24 32]) := H
  refine aZ ?_; refine eN ?_
  refine rG ?_; refine mV ?_; refine mV ?_; refine l_op (o_callR Tryz.func155 rfl rfl rfl (sort1_ret _ (hd a1) R3.length k2 (by first | omega | assumption) (.func (.func 132) #[] #[])) ?_); rintro _ w ⟨rfl, Hc⟩
  replace H : Hp _ w _ ([_, _, _]) := H.call Hc
  clear Hc
  refine eN ?_
  refine rG ?_; refine mV ?_; refine aZ ?_; refine eN ?_
  refine cR ?_
  refine e_ret1 (v := .slice (hd a1) R3.length k2) Tryz.results130 rfl ?_
  refine ⟨_, rfl, ?_⟩
  exact ⟨_, _, _, hsq4, rfl, H.sub (.cons_cons _ (.cons_cons _ (.cons_cons _ (List.nil_sublist _))))⟩
end Go.Proofs.YtmiabahejnjhiaaGreatDoor
namespace Go.Proofs.YtmiabahejnjhiaaGreatDoor
open Go
set_option maxRecDepth 100000
section
variable {P : Program} {n : Nat} {σ : Nat → Value} {w : World} {ty : TypeId} {pos : String} {aft : Array Edge} {g : Option (Nat × Bool)} {d : Nat} {t : TypeId} {x y : Operand}
theorem ext_take (l : List UInt8) (h : Nat) : ByteArray.extract ⟨l.toArray⟩ 0 h = ⟨(l.take h).toArray⟩ := by
  apply ByteArray.ext; simp [ByteArray.data_extract]
theorem r_slstrH {l : List UInt8} {h : Nat} {kk : IntKind} {j : Int} (hu : P.underlying t = some .string) (hx : ev n σ x = .string ⟨l.toArray⟩) (hy : ev n σ y = .int kk j) (hj : j = (h : Int)) (hl : h ≤ l.length) :
    (execOp (ev n σ) ⟨some d, .slice t x none (some y) none, ty, pos, aft, g⟩).run P w = .ok (.value (.string ⟨(l.take h).toArray⟩)) w := by
  rw [← ext_take]
  exact r_sls (m := ByteArray.size ⟨l.toArray⟩) hu hx rfl (congrArg some hy) (fun w => sbh h hj (by simpa [ByteArray.size] using hl) w)
end
end Go.Proofs.YtmiabahejnjhiaaGreatDoor
namespace Go.Proofs.YtmiabahejnjhiaaGreatDoor
open Go
set_option maxRecDepth 100000
structure Ob where
  of : Id32
  data : Sl
def obE (x : Ob) : List Value := (x.of.1).map V8 ++ (([x.data.v] : List Value))
theorem obE_len (x : Ob) : (obE x).length = 33 := by
  show ((x.of.1).map V8 ++ (([x.data.v] : List Value))).length = 33
  exact (by simp only [List.length_append, List.length_map, List.length_cons, List.length_nil, (show (x.of.1).length = 32 from x.of.2)])
theorem obE_all (x : Ob) : (obE x).all (·.oneCell') = true := by
  show ((x.of.1).map V8 ++ (([x.data.v] : List Value))).all (·.oneCell') = true
  simp only [List.all_append, List.all_cons, List.all_nil, List.all_map]; simp [Value.oneCell', Function.comp_def, Sl.v]
theorem obE_c0 (x : Ob) : Cut3 (obE x) (([] : List Value)) ((x.of.1).map V8) (([x.data.v] : List Value)) 0 32 :=
  ⟨by simp only [obE, List.nil_append], (by rfl), (by simp only [List.length_map, (show (x.of.1).length = 32 from x.of.2)])⟩
theorem obE_p0 (x : Ob) (v : Id32) : Put3 (obE x) (obE ⟨v, x.data⟩) ((x.of.1).map V8) ((v.1).map V8) 0 32 :=
  .of (obE_c0 x) (by simp only [obE, List.nil_append]) (by simp only [List.length_map, (show (v.1).length = 32 from v.2)])
theorem obE_c1 (x : Ob) : Cut3 (obE x) ((x.of.1).map V8) (([x.data.v] : List Value)) (([] : List Value)) 32 1 :=
  ⟨by simp only [obE, List.append_nil], (by simp only [List.length_map, (show (x.of.1).length = 32 from x.of.2)]), (by rfl)⟩
theorem obE_p1 (x : Ob) (v : Sl) : Put3 (obE x) (obE ⟨x.of, v⟩) (([x.data.v] : List Value)) (([v.v] : List Value)) 32 1 :=
  .of (obE_c1 x) (by simp only [obE, List.append_nil]) (by rfl)
theorem hpx184_ret (w0 : World) :
    Ret Tryz.prog 184 [.string ⟨(([68, 49, 0] : List UInt8)).toArray⟩, .string ⟨(([68, 49] : List UInt8)).toArray⟩] w0 fun v w' => v = .bool true ∧ Hp w0 w' [] [] := by
  refine ret_mk Tryz.func184 rfl Tryz.ntmps184 (by simp) ?_
  have H := Hp.refl w0 []
  have hz3 : ([68, 49, 0] : List UInt8).length = 3 := rfl
  have hz2 : ([68, 49] : List UInt8).length = 2 := rfl
  refine rG ?_; refine aZ ?_; refine eN ?_
  refine rG ?_; refine mV ?_; refine lV (r_lenstr (s := ⟨(([68, 49, 0] : List UInt8)).toArray⟩) Tryz.underlying9 rfl) ?_; refine mV ?_; refine lV (r_lenstr (s := ⟨(([68, 49] : List UInt8)).toArray⟩) Tryz.underlying9 rfl) ?_; refine lV (r_bin (a := ((([68, 49, 0] : List UInt8)).length : Int)) (b := ((([68, 49] : List UInt8)).length : Int)) rfl rfl (fun _ => b_geqB true (decide_eq_true oM))) ?_; refine mV ?_; refine l_yes rfl rfl rfl (o_val r_mv ?_); refine l_yes rfl rfl rfl (o_val r_mv ?_); refine l_yes rfl rfl rfl (o_val (r_lenstr (s := ⟨(([68, 49] : List UInt8)).toArray⟩) Tryz.underlying9 rfl) ?_); refine l_yes rfl rfl rfl (o_val (r_slstrH (l := ([68, 49, 0] : List UInt8)) (h := ((([68, 49] : List UInt8)).length)) (j := ((([68, 49] : List UInt8)).length : Int)) Tryz.underlying9 rfl rfl oM oM) ?_); refine l_yes rfl rfl rfl (o_val r_mv ?_); refine l_yes rfl rfl rfl (o_val (r_streq (a := (([68, 49, 0] : List UInt8)).take ((([68, 49] : List UInt8)).length)) (b := ([68, 49] : List UInt8)) rfl rfl) ?_); have hk1 : (decide ((([68, 49, 0] : List UInt8)).take ((([68, 49] : List UInt8)).length) = ([68, 49] : List UInt8))) = true := (by rfl)
  refine lV (r_pick rfl) ?_; refine aZ ?_; refine eN ?_
  refine cR ?_
  refine e_ret1 (v := .bool (decide ((([68, 49, 0] : List UInt8)).take ((([68, 49] : List UInt8)).length) = ([68, 49] : List UInt8)))) Tryz.results184 rfl ?_
  refine ⟨_, rfl, ?_⟩
  exact ⟨rfl, H.sub (List.nil_sublist _)⟩
theorem hpx170_ret (w0 : World) :
    Ret Tryz.prog 170 [.string ⟨(([68, 49, 0] : List UInt8)).toArray⟩, .string ⟨(([68, 49] : List UInt8)).toArray⟩] w0 fun v w' => v = .bool true ∧ Hp w0 w' [] [] := by
  refine ret_mk Tryz.func170 rfl Tryz.ntmps170 (by simp) ?_
  have H := Hp.refl w0 []
  refine rG ?_; refine aZ ?_; refine eN ?_
  refine rG ?_; refine mV ?_; refine mV ?_; refine l_op (o_callR Tryz.func184 rfl rfl rfl (hpx184_ret _) ?_); rintro _ w ⟨rfl, Hc⟩
  replace H : Hp _ w _ ([]) := H.call Hc
  clear Hc
  refine aZ ?_; refine eN ?_
  refine cR ?_
  refine e_ret1 (v := .bool true) Tryz.results170 rfl ?_
  refine ⟨_, rfl, ?_⟩
  exact ⟨rfl, H.sub (List.nil_sublist _)⟩
theorem fmay0_ret (w0 : World) :
    Ret Tryz.prog 172 [.slice none 0 0] w0 fun v w' => v = .bool true ∧ Hp w0 w' [] [] := by
  refine ret_mk Tryz.func172 rfl Tryz.ntmps172 (by simp) ?_
  have H := Hp.refl w0 []
  refine rG ?_; refine aZ ?_; refine eN ?_
  refine rG ?_; refine mV ?_; refine lV (r_lens el218 rfl) ?_; refine lV (r_bin (a := 0) (b := 64) rfl rfl (fun _ => b_gtrB false (decide_eq_false (by decide)))) ?_; refine eN ?_
  refine qN ?_; refine c_skip ?_; refine rG ?_; refine mV ?_; refine lV (r_lens el218 rfl) ?_; refine mV ?_; refine eN ?_
  refine qB ?_; repeat refine c_seq ?_
  refine wp_loop_rounds 2 ?_; refine c_round ?_; refine rG ?_; refine lV (r_bin (a := 0) (b := 0) rfl rfl (fun _ => b_lssB false (decide_eq_false (by decide)))) ?_; refine eN ?_
  refine qN ?_; refine c_exit ?_; refine rG ?_; refine aZ ?_; refine eN ?_
  refine cR ?_
  refine e_ret1 (v := .bool true) Tryz.results172 rfl ?_
  refine ⟨_, rfl, ?_⟩
  exact ⟨rfl, H.sub (List.nil_sublist _)⟩
theorem ftake0_ret (w0 : World) (xa : Option Addr) (xc : Nat) (hd : (⟨xa, 3, xc, [68, 49, 0]⟩ : Sl).ok w0) :
    Ret Tryz.prog 152 [(⟨xa, 3, xc, [68, 49, 0]⟩ : Sl).v] w0 fun v w' => v = .tuple #[.slice none 0 0, VI 0] ∧ Hp w0 w' [] [] := by
  refine ret_mk Tryz.func152 rfl Tryz.ntmps152 (by simp) ?_
  have H := Hp.refl w0 []
  have hz0 : (0 : UInt64).toNat = 0 := rfl
  have hle : 3 ≤ xc := hd.le
  have hmx := hd.mx
  dsimp only at hmx
  refine rG ?_; refine aZ ?_; refine aZ ?_; refine eN ?_
  refine rG ?_; refine mV ?_; refine lV (r_lens el33 rfl) ?_; refine lV (r_bin (a := 3) (b := 4000) rfl rfl (fun _ => b_gtrB false (decide_eq_false (by decide)))) ?_; refine mV ?_; refine l_yes rfl rfl rfl (o_val r_mv ?_); refine l_yes rfl rfl rfl (o_val (r_b2S (s := (⟨xa, 3, xc, [68, 49, 0]⟩ : Sl)) Tryz.underlying33 Tryz.underlying5 Tryz.underlying9 rfl (hd.up H (fun _ => apart_nil _))) ?_); refine l_yes rfl rfl rfl (o_callR Tryz.func170 rfl rfl rfl (hpx170_ret _) ?_); rintro _ w ⟨rfl, Hc⟩
  replace H : Hp _ w _ ([]) := H.call Hc
  clear Hc
  refine l_yes rfl rfl rfl (o_val (r_not rfl) ?_); refine lV (r_pick rfl) ?_; refine eN ?_
  refine qN ?_; refine c_skip ?_; refine rG ?_; refine mV ?_; refine lV (r_slS (s := (⟨xa, 3, xc, [68, 49, 0]⟩ : Sl)) 2 3 xc (lv := some (VI 2)) (hv := none) (mv := none) rfl el33 rfl rfl rfl (fun w => by exact sbl 2 oM (by (try simp only []); omega) w)) ?_; refine aZ ?_; refine eN ?_
  refine rG ?_; refine mV ?_; refine l_op (o_callR Tryz.func148 rfl rfl rfl (tcnt0_ret _ (Sl.cut (⟨xa, 3, xc, [68, 49, 0]⟩ : Sl) 2 3 xc) ((hd.up H (fun _ => apart_nil _)).cut (l := 2) (h := 3) (m := xc) oM (by (try simp only []); omega) oM (by (try simp only []); omega)) (by show 1 ≤ 3 - 2; decide) rfl) ?_); rintro _ w ⟨rfl, Hc⟩
  replace H : Hp _ w _ ([]) := H.call Hc
  clear Hc
  refine mV ?_; refine lV (r_ext rfl rfl) ?_; refine lV (r_ext rfl rfl) ?_; refine lV (r_ext rfl rfl) ?_; refine aZ ?_; refine aZ ?_; refine aZ ?_; refine eN ?_
  refine rG ?_; refine mV ?_; refine lV (r_bin (a := 0) (b := 0) rfl rfl (fun _ => b_neqB false (decide_eq_false (by decide)))) ?_; refine mV ?_; refine l_yes rfl rfl rfl (o_val r_mv ?_); refine l_yes rfl rfl rfl (o_val (r_bin (a := ((0 : UInt64).toNat : Int)) (b := 64) rfl rfl (fun _ => b_gtrB false (decide_eq_false (by decide)))) ?_); refine lV (r_pick rfl) ?_; refine eN ?_
  refine qN ?_; refine c_skip ?_; refine rG ?_; refine mV ?_; refine mV ?_; refine lV (r_slS (s := (Sl.cut (⟨xa, 3, xc, [68, 49, 0]⟩ : Sl) 2 3 xc)) 1 1 (xc - 2) (lv := some (VI 1)) (hv := none) (mv := none) rfl el33 rfl rfl rfl (fun w => by exact sbl 1 oM (by (try simp only [Sl.cut]); omega) w)) ?_; refine aZ ?_; refine eN ?_
  refine rG ?_; refine aZ ?_; refine eN ?_
  refine rG ?_; refine mV ?_; refine lV (r_mvV (c64 0 (by decide))) ?_; refine eN ?_
  refine qB ?_; repeat refine c_seq ?_
  refine wp_loop_rounds 2 ?_; refine c_round ?_; refine rG ?_; refine lV (r_bin (a := ((0 : UInt64).toNat : Int)) (b := ((0 : UInt64).toNat : Int)) rfl rfl (fun _ => b_lssB false (decide_eq_false (by decide)))) ?_; refine eN ?_
  refine qN ?_; refine c_exit ?_; refine rG ?_; refine mV ?_; refine lV (r_lens el33 rfl) ?_; refine lV (r_bin (a := 0) (b := 0) rfl rfl (fun _ => b_gtrB false (decide_eq_false oM))) ?_; refine mV ?_; refine l_yes rfl rfl rfl (o_val r_mv ?_); refine l_yes rfl rfl rfl (o_callR Tryz.func172 rfl rfl rfl (fmay0_ret _) ?_); rintro _ w ⟨rfl, Hc⟩
  replace H : Hp _ w _ ([]) := H.call Hc
  clear Hc
  refine l_yes rfl rfl rfl (o_val (r_not rfl) ?_); refine lV (r_pick rfl) ?_; refine eN ?_
  refine qN ?_; refine c_skip ?_; refine rG ?_; refine mV ?_; refine aZ ?_; refine aZ ?_; refine eN ?_
  refine cR ?_
  refine e_retN (vs := [.slice none 0 0, VI 0]) _ Tryz.results152 rfl (resT (v := .slice none 0 0) rfl (resT (v := VI 0) rfl (resZ))) ?_
  refine ⟨_, rfl, ?_⟩
  exact ⟨rfl, H.sub (List.nil_sublist _)⟩
theorem bad0_ret (w0 : World) (wb : Nat) (m1 m2 : Option Nat) (n : Int) (hO : Own w0 [.blk wb ([.map m1, .map m2, VI n, .bool false, .slice none 0 0, VI 0]) 186]) :
    Ret Tryz.prog 150 [.pointer (some ⟨wb, 0, none⟩), VI 0] w0 fun v w' => v = .bool false ∧ Hp w0 w' (keys hO.l) hO.l := by
  refine ret_mk Tryz.func150 rfl Tryz.ntmps150 (by simp) ?_
  have H := hO.start
  refine rG ?_; refine aZ ?_; refine eN ?_
  refine rG ?_; refine mV ?_; refine lV (r_nilc rfl) ?_; refine lV (r_fa rfl fo186_5) ?_; refine lV (r_ld (v := VI 0) H (i := 0) rfl rfl ct34 rfl) ?_; refine lV (r_bin (a := 0) (b := 0) rfl rfl (fun _ => b_eqlB true (decide_eq_true (by decide)))) ?_; refine eN ?_
  refine qY ?_; refine rG ?_; refine mV ?_; refine mV ?_; refine lV (r_nilc rfl) ?_; refine lV (r_fa rfl fo186_5) ?_; refine l_op (o_st (v := VI 0) H (i := 0) rfl rfl rfl cs34 rfl (by simp only [List.length_cons, List.length_nil]; omega) (fun w H => ?_)); replace H : Hp _ w _ ([.blk wb ([.map m1, .map m2, VI n, .bool false, .slice none 0 0, VI 0]) 186]) := H
  refine eN ?_
  refine rG ?_; refine mV ?_; refine lV (r_nilc rfl) ?_; refine lV (r_fa rfl fo186_5) ?_; refine lV (r_ld (v := VI 0) H (i := 0) rfl rfl ct34 rfl) ?_; refine lV (r_bin (a := 0) (b := 0) rfl rfl (fun _ => b_neqB false (decide_eq_false (by decide)))) ?_; refine aZ ?_; refine eN ?_
  refine cR ?_
  refine e_ret1 (v := .bool false) Tryz.results150 rfl ?_
  refine ⟨_, rfl, ?_⟩
  exact ⟨rfl, H.sub (.cons_cons _ (List.nil_sublist _))⟩
theorem object0_ret (w0 : World) (wb mo co mm cm : Nat) (Mo Mm : List (Id32 × Value × Nat)) (F : Id32 → Option Sl) (G : Id32 → Option Int) (hF : MIs Sl.v Mo F) (_hFo : MOk Mo co) (hG : MIs VI Mm G) (hGo : MOk Mm cm) (xa : Option Addr) (xc : Nat) (of : Id32) (hFd : F of = some (⟨xa, 3, xc, [68, 49, 0]⟩ : Sl)) (hG0 : G of = none) (hO : Own w0 [.blk wb ([.map (some mo), .map (some mm), VI 0, .bool false, .slice none 0 0, VI 0]) 186, .obj mo (mobj kA Mo co), .obj mm (mobj kA Mm cm)]) :
    Ret Tryz.prog 151 [.pointer (some ⟨wb, 0, none⟩), .agg ((of.1).map V8).toArray] w0 fun v w' => ∃ Mm' cm' n', MIs VI Mm' (fput G of n') ∧ MOk Mm' cm' ∧ v = .tuple #[(⟨xa, 3, xc, [68, 49, 0]⟩ : Sl).v, .bool true] ∧ Hp w0 w' (keys hO.l) [.blk wb ([.map (some mo), .map (some mm), VI 1, .bool false, .slice none 0 0, VI 0]) 186, .obj mo (mobj kA Mo co), .obj mm (mobj kA Mm' cm')] := by
  refine ret_mk Tryz.func151 rfl Tryz.ntmps151 (by simp) ?_
  have H := hO.start
  have hFs : (F of).isSome = true := by rw [hFd]; rfl
  have hg0 : (G of).getD (0 : Int) = 0 := by rw [hG0]; rfl
  refine rG ?_; refine l_op (o_box (v := .agg ((of.1).map V8).toArray) H rfl (fun b1 w H hb1 => ?_)); replace H : Hp _ w _ ([.blk wb ([.map (some mo), .map (some mm), VI 0, .bool false, .slice none 0 0, VI 0]) 186, .obj mo (mobj kA Mo co), .obj mm (mobj kA Mm cm), .blk b1 ((of.1).map V8) 24]) := H
  refine aZ ?_; refine aZ ?_; refine eN ?_
  refine rG ?_; refine mV ?_; refine lV (r_nilc rfl) ?_; refine lV (r_fa rfl fo186_2) ?_; refine lV (r_ld (v := VI 0) H (i := 0) rfl rfl ct3 rfl) ?_; refine lV (r_bin (a := 0) (b := 1) (v := VI 1) rfl rfl (fun _ => b_add oM oM)) ?_; refine lV (r_nilc rfl) ?_; refine lV (r_fa rfl fo186_2) ?_; refine l_op (o_st (v := VI 1) H (i := 0) rfl rfl rfl cs3 rfl (by simp only [List.length_cons, List.length_nil]; omega) (fun w H => ?_)); replace H : Hp _ w _ ([.blk wb ([.map (some mo), .map (some mm), VI 1, .bool false, .slice none 0 0, VI 0]) 186, _, _, _]) := H
  refine eN ?_
  refine rG ?_; refine mV ?_; refine lV (r_nilc rfl) ?_; refine lV (r_fa rfl fo186_2) ?_; refine lV (r_ld (v := VI 1) H (i := 0) rfl rfl ct3 rfl) ?_; refine lV (r_bin (a := 1) (b := 1024) rfl rfl (fun _ => b_gtrB false (decide_eq_false (by decide)))) ?_; refine eN ?_
  refine qN ?_; refine c_skip ?_; repeat refine c_seq ?_
  refine c_still mixed (by kernel_rfl) ?_; replace H := H.drew
  refine s_op (r_mv) ?_; refine s_op (r_nilc rfl) ?_; refine s_op (r_fa rfl fo186_0) ?_; refine s_op (r_ld (v := .map (some mo)) H (i := 0) rfl rfl ct184 rfl) ?_; refine s_op (r_ldAA (l := of.1) H (i := 3) rfl rfl rt24 (show (of.1).length = 32 from of.2)) ?_; refine s_op (r_lookT (k := of) nilS hF H (i := 1) rfl Tryz.underlying184 keyA zv_sl rfl rfl) ?_; refine s_op (r_mv) ?_; refine s_op (r_ext rfl rfl) ?_; refine s_op (r_ext rfl rfl) ?_; have hk2 : ((F of).isSome) = true := hFs
  refine s_op (r_as) ?_; refine s_op (r_as) ?_; refine s_nil ?_; refine rG ?_; refine mV ?_; refine lV (r_not rfl) ?_; refine eN ?_
  repeat refine c_seq ?_
  refine c_no (by exact congrArg Value.bool (congrArg not hk2)) ?_; refine c_skip ?_; repeat refine c_seq ?_
  refine c_join (fun τ w => ∃ σ, τ = ups σ [(6, ((F of).getD nilS).v)] ∧ Hp w0 w (keys hO.l) ([.blk wb ([.map (some mo), .map (some mm), VI 1, .bool false, .slice none 0 0, VI 0]) 186, .obj mo (mobj kA Mo co), .obj mm (mobj kA (mput of (VI (((G of).getD (0 : Int)) + 1)) 0 (mput of ((mget Mm of).getD (VI (0 : Int))) cm Mm)) (mclk Mm of cm)), .blk b1 ((of.1).map V8) 24])) ?_ ?_; refine heldS H (H.sub (.cons_cons _ (.cons_cons _ (.cons _ (.cons_cons _ (List.nil_sublist _)))))) mixed fun H HS => ?_
  refine tK 0 rfl (fun w HS => r_mv) HS ?_; refine tK 1 rfl (fun w HS => r_nilc rfl) HS ?_; refine tK 2 rfl (fun w HS => r_fa rfl fo186_1) HS ?_; refine tK 3 rfl (fun w HS => r_ld (v := .map (some mm)) HS (i := 0) rfl rfl ct161 rfl) HS ?_; refine tK 4 rfl (fun w HS => r_ldAA (l := of.1) HS (i := 2) rfl rfl rt24 (show (of.1).length = 32 from of.2)) HS ?_; refine t_all [5, 7] (by kernel_rfl) (by simp) (all_cons (w_op 5 rfl ?_) (all_cons (w_op 7 rfl ?_) (all_nil)))
  ·
   refine (o_val (r_lookF (k := of) (0 : Int) hG H (i := 2) rfl Tryz.underlying161 keyA zv_i rfl rfl) ?_)
   replace HS := H.sub (.cons_cons _ (.cons_cons _ (.cons _ (.cons_cons _ (List.nil_sublist _)))))
   refine ⟨HS, ?_⟩
   refine tK 6 rfl (fun w HS => r_bin (a := ((G of).getD (0 : Int))) (b := 1) rfl rfl (fun _ => b_add oM oM)) HS ?_; refine tU 7 rfl (o_ment (kv := kA) (k := of) (z := VI (0 : Int)) H (i := 2) rfl Tryz.underlying161 keyA zv_i rfl rfl (fun w H => ?_)); replace H : Hp _ w _ ([_, _, .obj mm (mobj kA (mput of ((mget Mm of).getD (VI (0 : Int))) cm Mm) (mclk Mm of cm)), _]) := H
   replace HS := H.sub (.cons_cons _ (.cons_cons _ (.cons _ (.cons_cons _ (List.nil_sublist _)))))
   refine ⟨HS, ?_⟩
   refine tK 8 rfl (fun w HS => r_ext rfl rfl) HS ?_; refine tU 9 rfl (o_mset (kv := kA) (k := of) (v := VI (((G of).getD (0 : Int)) + 1)) (c' := 0) H (i := 2) rfl (hGo.put of ((mget Mm of).getD (VI (0 : Int)))) mborn_put.2 rfl rfl rfl (fun w H => ?_)); replace H : Hp _ w _ ([_, _, .obj mm (mobj kA (mput of (VI (((G of).getD (0 : Int)) + 1)) 0 (mput of ((mget Mm of).getD (VI (0 : Int))) cm Mm)) (mclk Mm of cm)), _]) := H
   replace HS := H.sub (.cons_cons _ (.cons_cons _ (.cons _ (.cons_cons _ (List.nil_sublist _)))))
   refine ⟨HS, ?_⟩
   refine t_done (by kernel_rfl) ?_
   clear HS
   exact nrm_mk ⟨_, join_fit ⟨rfl, trivial⟩, H⟩
  ·
   refine (o_ment (kv := kA) (k := of) (z := VI (0 : Int)) H (i := 2) rfl Tryz.underlying161 keyA zv_i rfl rfl (fun w H => ?_))
   replace H : Hp _ w _ ([_, _, .obj mm (mobj kA (mput of ((mget Mm of).getD (VI (0 : Int))) cm Mm) (mclk Mm of cm)), _]) := H
   replace HS := H.sub (.cons_cons _ (.cons_cons _ (.cons _ (.cons_cons _ (List.nil_sublist _)))))
   refine ⟨HS, ?_⟩
   refine tK 8 rfl (fun w HS => r_ext rfl rfl) HS ?_; refine tU 5 rfl (o_val (r_lookE (k := of) (0 : Int) hG H (i := 2) rfl Tryz.underlying161 keyA zv_i rfl rfl) ?_); replace HS := H.sub (.cons_cons _ (.cons_cons _ (.cons _ (.cons_cons _ (List.nil_sublist _)))))
   refine ⟨HS, ?_⟩
   refine tK 6 rfl (fun w HS => r_bin (a := ((G of).getD (0 : Int))) (b := 1) rfl rfl (fun _ => b_add oM oM)) HS ?_; refine tU 9 rfl (o_mset (kv := kA) (k := of) (v := VI (((G of).getD (0 : Int)) + 1)) (c' := 0) H (i := 2) rfl (hGo.put of ((mget Mm of).getD (VI (0 : Int)))) mborn_put.2 rfl rfl rfl (fun w H => ?_)); replace H : Hp _ w _ ([_, _, .obj mm (mobj kA (mput of (VI (((G of).getD (0 : Int)) + 1)) 0 (mput of ((mget Mm of).getD (VI (0 : Int))) cm Mm)) (mclk Mm of cm)), _]) := H
   replace HS := H.sub (.cons_cons _ (.cons_cons _ (.cons _ (.cons_cons _ (List.nil_sublist _)))))
   refine ⟨HS, ?_⟩
   refine t_done (by kernel_rfl) ?_
   clear HS
   exact nrm_mk ⟨_, join_fit ⟨rfl, trivial⟩, H⟩
  clear H
  rintro _ w ⟨τ, rfl, H⟩
  refine rG ?_; refine mV ?_; refine aZ ?_; refine aZ ?_; refine eN ?_
  refine cR ?_
  refine e_retN (vs := [((F of).getD nilS).v, .bool true]) _ Tryz.results151 rfl (resT (v := ((F of).getD nilS).v) rfl (resT (v := .bool true) rfl (resZ))) ?_
  refine ⟨_, rfl, ?_⟩
  have e : (F of).getD nilS = (⟨xa, 3, xc, [68, 49, 0]⟩ : Sl) := by rw [hFd]; rfl
  refine ⟨_, _, _, (MIs.ent hG of (((G of).getD (0 : Int)) + 1)), (MOk.ent (hGo.put of ((mget Mm of).getD (VI (0 : Int))))), ?_, (H.permL (.refl _)).sub (.cons_cons _ (.cons_cons _ (.cons_cons _ (List.nil_sublist _))))⟩
  rw [e]
theorem enter0_ret (w0 : World) (wb mo co mm cm : Nat) (Mo Mm : List (Id32 × Value × Nat)) (F : Id32 → Option Sl) (G : Id32 → Option Int) (hF : MIs Sl.v Mo F) (hFo : MOk Mo co) (hG : MIs VI Mm G) (hGo : MOk Mm cm) (xa : Option Addr) (xc : Nat) (of : Id32) (hFd : F of = some (⟨xa, 3, xc, [68, 49, 0]⟩ : Sl)) (hG0 : G of = none) (hd3 : (⟨xa, 3, xc, [68, 49, 0]⟩ : Sl).ok w0) (hap : ([68, 49, 0] : List UInt8) ≠ [] → Apart xa (keys [.blk wb ([.map (some mo), .map (some mm), VI 0, .bool false, .slice none 0 0, VI 0]) 186, .obj mo (mobj kA Mo co), .obj mm (mobj kA Mm cm)])) (hO : Own w0 [.blk wb ([.map (some mo), .map (some mm), VI 0, .bool false, .slice none 0 0, VI 0]) 186, .obj mo (mobj kA Mo co), .obj mm (mobj kA Mm cm)]) :
    Ret Tryz.prog 129 [.pointer (some ⟨wb, 0, none⟩), .agg ((of.1).map V8).toArray, .string ⟨(([] : List UInt8)).toArray⟩, VI 1] w0 fun v w' => ∃ Mm' cm' n', MIs VI Mm' (fput G of n') ∧ MOk Mm' cm' ∧ v = .tuple #[] ∧ Hp w0 w' (keys hO.l) [.blk wb ([.map (some mo), .map (some mm), VI 1, .bool false, .slice none 0 0, VI 0]) 186, .obj mo (mobj kA Mo co), .obj mm (mobj kA Mm' cm')] := by
  refine ret_mk Tryz.func129 rfl Tryz.ntmps129 (by simp) ?_
  have H := hO.start
  refine rG ?_; refine l_op (o_box (v := .agg ((of.1).map V8).toArray) H rfl (fun b1 w H hb1 => ?_)); replace H : Hp _ w _ ([.blk wb ([.map (some mo), .map (some mm), VI 0, .bool false, .slice none 0 0, VI 0]) 186, .obj mo (mobj kA Mo co), .obj mm (mobj kA Mm cm), .blk b1 ((of.1).map V8) 24]) := H
  refine eN ?_
  refine rG ?_; refine mV ?_; refine lV (r_bin (a := 1) (b := 8) rfl rfl (fun _ => b_gtrB false (decide_eq_false (by decide)))) ?_; refine mV ?_; refine l_no rfl rfl rfl rfl ?_; refine l_no rfl rfl rfl rfl ?_; refine lV (r_pick rfl) ?_; refine eN ?_
  refine qN ?_; refine c_skip ?_; refine rG ?_; refine mV ?_; refine lV (r_ldAA (l := of.1) H (i := 3) rfl rfl rt24 (show (of.1).length = 32 from of.2)) ?_; refine l_op (o_callR Tryz.func151 rfl rfl rfl (object0_ret _ wb mo co mm cm Mo Mm F G hF hFo hG hGo _ _ of hFd hG0 (H.ownP (.refl _) rfl)) ?_); rintro _ w ⟨m2, c3, n4, hG5, hN6, rfl, Hc⟩
  replace H := H.callP (.refl _) rfl Hc ((perm_front (j := 1) rfl).trans (.cons _ ((perm_front (j := 1) rfl).trans (.cons _ ((perm_front (j := 1) rfl).trans (.cons _ (.refl _)))))))
  clear Hc
  replace H : Hp _ w _ ([.blk wb ([.map (some mo), .map (some mm), VI 1, .bool false, .slice none 0 0, VI 0]) 186, _, .obj mm (mobj kA m2 c3), _]) := H
  refine mV ?_; refine lV (r_ext rfl rfl) ?_; refine lV (r_ext rfl rfl) ?_; refine aZ ?_; refine aZ ?_; refine eN ?_
  refine rG ?_; refine mV ?_; refine lV (r_not rfl) ?_; refine eN ?_
  refine qN ?_; refine c_skip ?_; refine rG ?_; refine mV ?_; refine l_op (o_callR Tryz.func152 rfl rfl rfl (ftake0_ret _ _ _ (hd3.up H hap)) ?_); rintro _ w ⟨rfl, Hc⟩
  replace H : Hp _ w _ ([_, _, _, _]) := H.call Hc
  clear Hc
  refine mV ?_; refine lV (r_ext rfl rfl) ?_; refine lV (r_ext rfl rfl) ?_; refine aZ ?_; refine aZ ?_; refine eN ?_
  refine rG ?_; refine mV ?_; refine mV ?_; refine l_op (o_callR Tryz.func150 rfl rfl rfl (bad0_ret _ _ _ _ _ (H.ownP (.refl _) rfl)) ?_); rintro _ w ⟨rfl, Hc⟩
  replace H := H.callP (.refl _) rfl Hc ((perm_front (j := 3) rfl).trans (.cons _ (.refl _)))
  clear Hc
  replace H : Hp _ w _ [_, _, _, _] := H
  refine eN ?_
  refine qN ?_; refine c_skip ?_; refine rG ?_; refine mV ?_; refine lV (r_lens el218 rfl) ?_; refine lV (r_bin (a := 0) (b := 0) rfl rfl (fun _ => b_eqlB true (decide_eq_true (by decide)))) ?_; refine mV ?_; refine l_yes rfl rfl rfl (o_val r_mv ?_); refine l_yes rfl rfl rfl (o_val (r_bin (a := 1) (b := 1) rfl rfl (fun _ => b_gtrB false (decide_eq_false (by decide)))) ?_); refine lV (r_pick rfl) ?_; refine mV ?_; refine l_no rfl rfl rfl rfl ?_; refine l_no rfl rfl rfl rfl ?_; refine l_no rfl rfl rfl rfl ?_; refine l_no rfl rfl rfl rfl ?_; refine lV (r_pick rfl) ?_; refine eN ?_
  refine qN ?_; refine c_skip ?_; refine rG ?_; refine mV ?_; refine lV (r_lens el218 rfl) ?_; refine mV ?_; refine eN ?_
  refine qB ?_; repeat refine c_seq ?_
  refine wp_loop_rounds 2 ?_; refine c_round ?_; refine rG ?_; refine lV (r_bin (a := 0) (b := 0) rfl rfl (fun _ => b_lssB false (decide_eq_false (by decide)))) ?_; refine eN ?_
  refine qN ?_; refine c_exit ?_; refine eZ ?_; refine e_ret0 Tryz.results129 ?_
  refine ⟨_, rfl, ?_⟩
  refine ⟨_, _, _, hG5, hN6, ?_, (H.permL (.refl _)).sub (.cons_cons _ (.cons_cons _ (.cons_cons _ (List.nil_sublist _))))⟩
  rfl
theorem begin0_ret (w0 : World) (oa : Option Addr) (ok : Nat) (xa : Option Addr) (xc : Nat) (of : Id32) (ho : (⟨oa, 1, ok, [(⟨of, ⟨xa, 3, xc, [68, 49, 0]⟩⟩ : Ob)]⟩ : Gl Ob).ok obE 33 w0) :
    Ret Tryz.prog 128 [(⟨oa, 1, ok, [(⟨of, ⟨xa, 3, xc, [68, 49, 0]⟩⟩ : Ob)]⟩ : Gl Ob).v, .bool false] w0 fun v w' => ∃ wb mo mm Mo co, MIs Sl.v Mo (fput (fun _ => none) of (⟨xa, 3, xc, [68, 49, 0]⟩ : Sl)) ∧ MOk Mo co ∧ v = .pointer (some ⟨wb, 0, none⟩) ∧ Hp w0 w' [] [.blk wb [.map (some mo), .map (some mm), VI 0, .bool false, .slice none 0 0, VI 0] 186, .obj mo (mobj kA Mo co), .obj mm (mobj kA [] 0)] := by
  refine ret_mk Tryz.func128 rfl Tryz.ntmps128 (by simp) ?_
  have H := Hp.refl w0 []
  refine rG ?_; refine aZ ?_; refine eN ?_
  refine rG ?_; refine mV ?_; refine l_op (o_mmake kA H (fun b1 w H hb1 => ?_)); replace H : Hp _ w _ ([.obj b1 (mobj kA ([] : List (Id32 × Value × Nat)) 0)]) := H
  refine l_op (o_mmake kA H (fun b2 w H hb2 => ?_)); replace H : Hp _ w _ ([_, .obj b2 (mobj kA ([] : List (Id32 × Value × Nat)) 0)]) := H
  refine lV (r_bld' (cells := ([.map (some b1), .map (some b2), VI 0, .bool false, .slice none 0 0, VI 0]).toArray) (pv := [(3, .bool false), (0, .map (some b1)), (1, .map (some b2))]) bd186 rfl rfl) ?_; refine l_op (o_box (v := .agg ([.map (some b1), .map (some b2), VI 0, .bool false, .slice none 0 0, VI 0]).toArray) H rfl (fun b3 w H hb3 => ?_)); replace H : Hp _ w _ ([_, _, .blk b3 ([.map (some b1), .map (some b2), VI 0, .bool false, .slice none 0 0, VI 0]) 186]) := H
  refine aZ ?_; refine eN ?_
  refine rG ?_; refine mV ?_; refine lV (r_lens el143 rfl) ?_; refine mV ?_; refine eN ?_
  refine qB ?_; repeat refine c_seq ?_
  refine wp_loop_rounds 3 ?_; refine c_round ?_; refine rG ?_; refine lV (r_bin (a := 0) (b := 1) rfl rfl (fun _ => b_lssB true (decide_eq_true (by decide)))) ?_; refine eN ?_
  refine qY ?_; refine c_skip ?_; refine qB ?_; refine rG ?_; have ah6 := ((ho.up H)).addr (by decide) (by first | omega | (dsimp only; omega))
  obtain ⟨ab4, ao5, ah6⟩ := ah6
  refine lV (r_isN 0 rfl rfl el143 ah6 oM (by (try simp only []); omega)) ?_; refine lV (r_ldRow (s := (⟨oa, 1, ok, [(⟨of, ⟨xa, 3, xc, [68, 49, 0]⟩⟩ : Ob)]⟩ : Gl Ob)) (k := 0) (ho.up H) ah6 rfl rt191 (by decide) rfl) ?_; refine l_op (o_alloc H zc191 (fun b10 w H hb10 => ?_)); replace H : Hp _ w _ ([_, _, _, .blk b10 (obE (⟨zId, ⟨none, 0, 0, []⟩⟩ : Ob)) 191]) := H
  refine l_op (o_stW (C' := obE (⟨of, (⟨xa, 3, xc, [68, 49, 0]⟩ : Sl)⟩ : Ob)) H (i := 3) rfl rfl rfl cs191 (obE_all _) (obE_len _) (obE_len _) (fun w H => ?_)); replace H : Hp _ w _ ([_, _, _, .blk b10 (obE (⟨of, (⟨xa, 3, xc, [68, 49, 0]⟩ : Sl)⟩ : Ob)) 191]) := H
  refine eN ?_
  repeat refine c_seq ?_
  refine c_still mixed (by kernel_rfl) ?_; replace H := H.drew
  refine s_op (r_mv) ?_; refine s_op (r_nilc rfl) ?_; refine s_op (r_fa rfl fo186_0) ?_; refine s_op (r_ld (v := .map (some b1)) H (i := 2) rfl rfl ct184 rfl) ?_; refine s_op (r_fa rfl fo191_0) ?_; refine s_op (r_lk H (i := 3) rfl rfl rt24 (obE_c0 _)) ?_; refine s_op (r_lookT (k := of) nilS (MIs.nil (enc := Sl.v)) H (i := 0) rfl Tryz.underlying184 keyA zv_sl rfl rfl) ?_; refine s_op (r_mv) ?_; refine s_op (r_ext rfl rfl) ?_; refine s_op (r_ext rfl rfl) ?_; have hk11 : (((fun _ => none : Id32 → Option Sl) of).isSome) = false := rfl
  refine s_op (r_as) ?_; refine s_op (r_as) ?_; refine s_nil ?_; refine rG ?_; refine mV ?_; refine lV (r_not rfl) ?_; refine eN ?_
  repeat refine c_seq ?_
  refine c_yes (by exact congrArg Value.bool (congrArg not hk11)) ?_; repeat refine c_seq ?_
  refine heldZ H (fun j => Nat.ble 8 j) mixed fun H => ?_
  have HS := H
  refine zA 0 rfl (fun w => r_mv) ?_; refine zA 1 rfl (fun w => r_nilc rfl) ?_; refine zA 2 rfl (fun w => r_fa rfl fo186_0) ?_; refine zT 3 rfl (fun w HS => r_ld (v := .map (some b1)) HS (i := 2) rfl rfl ct184 rfl) HS ?_; refine zA 4 rfl (fun w => r_fa rfl fo191_0) ?_; refine zT 5 rfl (fun w HS => r_lk HS (i := 3) rfl rfl rt24 (obE_c0 _)) HS ?_; refine zA 6 rfl (fun w => r_fa rfl fo191_1) ?_; refine zT 7 rfl (fun w HS => r_l1 (v := (⟨xa, 3, xc, [68, 49, 0]⟩ : Sl).v) HS (i := 3) rfl rfl ct33 (obE_c1 _)) HS ?_; refine zU 8 rfl (o_mput (kv := kA) (k := of) (v := Sl.v (⟨xa, 3, xc, [68, 49, 0]⟩ : Sl)) H (i := 0) rfl Tryz.underlying184 keyA rfl rfl rfl (fun w H => ?_)); replace H : Hp _ w _ ([.obj b1 (mobj kA (mput of (Sl.v (⟨xa, 3, xc, [68, 49, 0]⟩ : Sl)) 0 ([] : List (Id32 × Value × Nat))) (mclk ([] : List (Id32 × Value × Nat)) of 0)), _, _, _]) := H
  refine ⟨fun h => Bool.noConfusion (h : true = false), ?_⟩
  clear HS
  refine z_done (by kernel_rfl) ?_; refine rG ?_; refine lV (r_bin (a := 0) (b := 1) (v := VI 1) rfl rfl (fun _ => b_add oM oM)) ?_; refine mV ?_; refine eN ?_
  try dsimp only [Exit.then, Exit.inBlock]
  refine c_round ?_; refine rG ?_; refine lV (r_bin (a := 1) (b := 1) rfl rfl (fun _ => b_lssB false (decide_eq_false (by decide)))) ?_; refine eN ?_
  refine qN ?_; refine c_exit ?_; refine rG ?_; refine mV ?_; refine aZ ?_; refine eN ?_
  refine cR ?_
  refine e_ret1 (v := .pointer (some ⟨b3, 0, none⟩)) Tryz.results128 rfl ?_
  refine ⟨_, rfl, ?_⟩
  exact ⟨_, _, _, _, _, ((MIs.nil (enc := Sl.v)).put of (⟨xa, 3, xc, [68, 49, 0]⟩ : Sl) 0), (MOk.nil.put of (Sl.v (⟨xa, 3, xc, [68, 49, 0]⟩ : Sl))), rfl, (H.permL ((perm_front (j := 2) rfl).trans (.cons _ (.refl _)))).sub (.cons_cons _ (.cons_cons _ (.cons_cons _ (List.nil_sublist _))))⟩
theorem card1 (of : Id32) (n : Int) (l : List Id32) (hn : l.Nodup) (h : ∀ j ∈ l, ((fput (fun _ => none) of n : Id32 → Option Int) j).isSome = true) : l.length ≤ 1 := by
  have he : ∀ j ∈ l, j = of := fun j hj => by
    have h1 := h j hj
    by_cases e : j = of
    · exact e
    · simp [fput, e] at h1
  cases l with
  | nil => exact Nat.zero_le _
  | cons a l =>
    cases l with
    | nil => exact Nat.le_refl _
    | cons b l =>
      have h1 := he a (by simp)
      have h2 := he b (by simp)
      subst h1
      simp [h2] at hn
theorem close0_ret (w0 : World) (oa : Option Addr) (ok : Nat) (xa : Option Addr) (xc : Nat) (of : Id32) (ho : (⟨oa, 1, ok, [(⟨of, ⟨xa, 3, xc, [68, 49, 0]⟩⟩ : Ob)]⟩ : Gl Ob).ok obE 33 w0) (hd3 : (⟨xa, 3, xc, [68, 49, 0]⟩ : Sl).ok w0) :
    Ret Tryz.prog 89 [(⟨oa, 1, ok, [(⟨of, ⟨xa, 3, xc, [68, 49, 0]⟩⟩ : Ob)]⟩ : Gl Ob).v, .agg ((of.1).map V8).toArray] w0 fun v w' => ∃ (a : Option Nat) (k : Nat) (R : List Id32), R.length ≤ 1 ∧ v = .tuple #[.slice (hd a) R.length k, VI 0] ∧ Hp w0 w' [] [.own a R.length k (R.flatMap idE) 24 32] := by
  refine ret_mk Tryz.func89 rfl Tryz.ntmps89 (by simp) ?_
  have H := Hp.refl w0 []
  refine rG ?_; refine l_op (o_box (v := .agg ((of.1).map V8).toArray) H rfl (fun b1 w H hb1 => ?_)); replace H : Hp _ w _ ([.blk b1 ((of.1).map V8) 24]) := H
  refine aZ ?_; refine aZ ?_; refine eN ?_
  refine rG ?_; refine mV ?_; refine l_op (o_callR Tryz.func128 rfl rfl rfl (begin0_ret _ _ _ _ _ _ (ho.up H)) ?_); rintro _ w ⟨wb2, mo3, mm4, m5, c6, hF7, hM8, rfl, Hc⟩
  replace H : Hp _ w _ ([_, .blk wb2 ([.map (some mo3), .map (some mm4), VI 0, .bool false, .slice none 0 0, VI 0]) 186, .obj mo3 (mobj kA m5 c6), .obj mm4 (mobj kA ([]) 0)]) := H.call Hc
  clear Hc
  refine aZ ?_; refine eN ?_
  refine rG ?_; refine mV ?_; refine lV (r_ldAA (l := of.1) H (i := 0) rfl rfl rt24 (show (of.1).length = 32 from of.2)) ?_; refine l_op (o_callR Tryz.func129 rfl rfl rfl (enter0_ret _ wb2 mo3 c6 mm4 0 m5 ([]) (fput (fun _ => none) of (⟨xa, 3, xc, [68, 49, 0]⟩ : Sl)) (fun _ => none) hF7 hM8 MIs.nil MOk.nil _ _ of (by simp [fput]) rfl (hd3.up H (fun _ => apart_nil _)) (hd3.apP H ((perm_front (j := 1) rfl).trans (.cons _ ((perm_front (j := 1) rfl).trans (.cons _ ((perm_front (j := 1) rfl).trans (.cons _ (.refl _))))))) rfl) (H.ownP ((perm_front (j := 1) rfl).trans (.cons _ ((perm_front (j := 1) rfl).trans (.cons _ ((perm_front (j := 1) rfl).trans (.cons _ (.refl _))))))) rfl)) ?_); rintro _ w ⟨m9, c10, n11, hG12, hN13, rfl, Hc⟩
  replace H := H.callP ((perm_front (j := 1) rfl).trans (.cons _ ((perm_front (j := 1) rfl).trans (.cons _ ((perm_front (j := 1) rfl).trans (.cons _ (.refl _))))))) rfl Hc (.refl _)
  clear Hc
  replace H : Hp _ w _ ([_, .blk wb2 ([.map (some mo3), .map (some mm4), VI 1, .bool false, .slice none 0 0, VI 0]) 186, _, .obj mm4 (mobj kA m9 c10)]) := H
  refine eN ?_
  refine rG ?_; refine mV ?_; refine lV (r_nilc rfl) ?_; refine lV (r_fa rfl fo186_5) ?_; refine lV (r_ld (v := VI 0) H (i := 1) rfl rfl ct34 rfl) ?_; refine lV (r_bin (a := 0) (b := 0) rfl rfl (fun _ => b_neqB false (decide_eq_false (by decide)))) ?_; refine eN ?_
  refine qN ?_; refine c_skip ?_; refine rG ?_; refine mV ?_; refine lV (r_nilc rfl) ?_; refine lV (r_fa rfl fo186_1) ?_; refine lV (r_ld (v := .map (some mm4)) H (i := 1) rfl rfl ct161 rfl) ?_; refine l_op (o_callR Tryz.func131 rfl rfl rfl (mkeysInt_ret _ mm4) ?_); rintro _ w ⟨bb14, rfl, Hc⟩
  replace H : Hp _ w _ ([_, _, _, _, .blk bb14 ([.map (some mm4)]) 161]) := H.call Hc
  clear Hc
  refine l_op (o_callR Tryz.func130 rfl rfl rfl (sorted_ret _ bb14 mm4 c10 m9 (fput (fun _ => none) of n11) hG12 hN13 (H.ownP ((perm_front (j := 4) rfl).trans (.cons _ ((perm_front (j := 3) rfl).trans (.cons _ (.refl _))))) rfl) (card1 of _)) ?_); rintro _ w ⟨a15, k16, R17, hsq18, rfl, Hc⟩
  replace H := H.callP ((perm_front (j := 4) rfl).trans (.cons _ ((perm_front (j := 3) rfl).trans (.cons _ (.refl _))))) rfl Hc ((perm_front (j := 0) rfl).trans (.cons _ ((perm_front (j := 0) rfl).trans (.cons _ ((perm_front (j := 0) rfl).trans (.cons _ ((perm_front (j := 1) rfl).trans (.cons _ (.refl _)))))))))
  clear Hc
  replace H : Hp _ w _ ([_, _, _, _, _, .own a15 R17.length k16 ((R17).flatMap idE) 24 32]) := H
  refine aZ ?_; refine aZ ?_; refine eN ?_
  refine cR ?_
  refine e_retN (vs := [.slice (hd a15) R17.length k16, VI 0]) _ Tryz.results89 rfl (resT (v := .slice (hd a15) R17.length k16) rfl (resT (v := VI 0) rfl (resZ))) ?_
  refine ⟨_, rfl, ?_⟩
  exact ⟨_, _, _, hsq18, rfl, H.sub (.cons _ (.cons _ (.cons _ (.cons _ (.cons _ (.cons_cons _ (List.nil_sublist _)))))))⟩
end Go.Proofs.YtmiabahejnjhiaaGreatDoor
namespace Go.Proofs.YtmiabahejnjhiaaGreatDoor
open Go
set_option maxRecDepth 100000
theorem objects_ret (w0 : World) (wb tb tc : Nat) (ws : Option Nat) (op : Opr) (ser : UInt64) (nm : List UInt8) (key : Id32) (q nx : Int) (sns : Gl Sn) (dms : Gl Dm) (ba : Option Nat) (bc : Nat) (da : Option Nat) (dc : Nat) (of : Id32) (hO : Own w0 [.blk wb (wrkE (⟨ws, op, (some tb), ser⟩ : Wrk)) 75, .own (some tb) 1 tc (([((⟨nm, key, q, nx, ⟨hd ba, 1, bc, [((⟨of, ⟨hd da, 3, dc, [68, 49, 0]⟩⟩ : Bl))]⟩, sns, dms⟩ : Tn))]).flatMap tnE) 53 38, .own ba 1 bc (([((⟨of, ⟨hd da, 3, dc, [68, 49, 0]⟩⟩ : Bl))]).flatMap blE) 92 33]) :
    Ret Tryz.prog 90 [.pointer (some ⟨wb, 0, none⟩)] w0 fun v w' => ∃ a k, v = .slice (hd a) 1 k ∧ Hp w0 w' (keys hO.l) [.blk wb (wrkE (⟨ws, op, (some tb), ser⟩ : Wrk)) 75, .own (some tb) 1 tc (([((⟨nm, key, q, nx, ⟨hd ba, 1, bc, [((⟨of, ⟨hd da, 3, dc, [68, 49, 0]⟩⟩ : Bl))]⟩, sns, dms⟩ : Tn))]).flatMap tnE) 53 38, .own ba 1 bc (([((⟨of, ⟨hd da, 3, dc, [68, 49, 0]⟩⟩ : Bl))]).flatMap blE) 92 33, .own a 1 k (([((⟨of, ⟨hd da, 3, dc, [68, 49, 0]⟩⟩ : Ob))]).flatMap obE) 191 33] := by
  refine ret_mk Tryz.func90 rfl Tryz.ntmps90 (by simp) ?_
  have H := hO.start
  refine rG ?_; refine aZ ?_; refine eN ?_
  refine rG ?_; refine aZ ?_; refine eN ?_
  refine rG ?_; refine mV ?_; refine lV (r_nilc rfl) ?_; refine lV (r_fa rfl fo75_2) ?_; refine lV (r_l1 (v := .pointer (some ⟨tb, 0, none⟩)) H (i := 0) rfl rfl ct73 (wrkE_c2 _)) ?_; refine lV (r_nilc rfl) ?_; refine lV (r_fa rfl fo53_4) ?_; refine lV (r_g1 (v := .slice (hd ba) 1 bc) (s := (⟨hd (some tb), 1, tc, [((⟨nm, key, q, nx, ⟨hd ba, 1, bc, [((⟨of, ⟨hd da, 3, dc, [68, 49, 0]⟩⟩ : Bl))]⟩, sns, dms⟩ : Tn))]⟩ : Gl Tn)) (j := 0) (H.glOwn (i := 1) rfl (by decide) (fun c _ => tnE_len c)) rfl rfl ct49 rfl (by decide) (tnE_c4 _)) ?_; refine lV (r_lens el49 rfl) ?_; refine mV ?_; refine eN ?_
  refine qB ?_; repeat refine c_seq ?_
  refine wp_loop_rounds 3 ?_; refine c_round ?_; refine rG ?_; refine lV (r_bin (a := 0) (b := 1) rfl rfl (fun _ => b_lssB true (decide_eq_true (by decide)))) ?_; refine eN ?_
  refine qY ?_; refine c_skip ?_; refine qB ?_; refine rG ?_; have ah5 := H.ownAddr (i := 2) rfl oM
  obtain ⟨ab4, ah5⟩ := ah5
  refine lV (r_isN 0 rfl rfl el49 ah5 oM (by (try simp only [Sl.cut]); omega)) ?_; refine lV (r_ldRow (s := (⟨hd ba, 1, bc, [((⟨of, ⟨hd da, 3, dc, [68, 49, 0]⟩⟩ : Bl))]⟩ : Gl Bl)) (k := 0) (H.glOwn (i := 2) rfl (by decide) (fun c _ => blE_len c)) ah5 rfl rt92 (by decide) rfl) ?_; refine l_op (o_alloc H zc92 (fun b9 w H hb9 => ?_)); replace H : Hp _ w _ ([.blk wb (wrkE (⟨ws, op, (some tb), ser⟩ : Wrk)) 75, .own (some tb) 1 tc (([((⟨nm, key, q, nx, ⟨hd ba, 1, bc, [((⟨of, ⟨hd da, 3, dc, [68, 49, 0]⟩⟩ : Bl))]⟩, sns, dms⟩ : Tn))]).flatMap tnE) 53 38, .own ba 1 bc (([((⟨of, ⟨hd da, 3, dc, [68, 49, 0]⟩⟩ : Bl))]).flatMap blE) 92 33, .blk b9 (blE (⟨zId, ⟨none, 0, 0, []⟩⟩ : Bl)) 92]) := H
  refine l_op (o_stW (C' := blE (⟨of, ⟨hd da, 3, dc, [68, 49, 0]⟩⟩ : Bl)) H (i := 3) rfl rfl rfl cs92 (blE_all _) (blE_len _) (blE_len _) (fun w H => ?_)); replace H : Hp _ w _ ([_, _, _, .blk b9 (blE (⟨of, ⟨hd da, 3, dc, [68, 49, 0]⟩⟩ : Bl)) 92]) := H
  refine eN ?_
  refine rG ?_; refine mV ?_; refine lV (r_fa rfl fo92_0) ?_; refine lV (r_lk H (i := 3) rfl rfl rt24 (blE_c0 _)) ?_; refine lV (r_fa rfl fo92_1) ?_; refine lV (r_l1 (v := .slice (hd da) 3 dc) H (i := 3) rfl rfl ct33 (blE_c1 _)) ?_; refine lV (r_bldG (Z := obE (⟨zId, ⟨none, 0, 0, []⟩⟩ : Ob)) (E := obE (⟨of, ⟨hd da, 3, dc, [68, 49, 0]⟩⟩ : Ob)) (pv := [(0, .agg ((of.1).map V8).toArray), (1, .slice (hd da) 3 dc)]) bd191 rfl rfl (.consP rfl (obE_p0 _ of) rfl (.consP rfl (obE_p1 _ (⟨hd da, 3, dc, [68, 49, 0]⟩)) rfl (.nil _)))) ?_; refine l_op (o_bslG1 (enc := obE) ((⟨of, ⟨hd da, 3, dc, [68, 49, 0]⟩⟩ : Ob)) H sl143 zc191 (by rfl) (by decide) (by decide) rfl (obE_len _) (fun b10 w H hb10 => ?_)); replace H : Hp _ w _ ([_, _, _, _, .own (some b10) 1 1 (([(⟨of, ⟨hd da, 3, dc, [68, 49, 0]⟩⟩ : Ob)]).flatMap obE) 191 33]) := H
  replace H : Hp _ _ _ ([_, _, _, _, _, .own none 0 0 ((([] : List Ob)).flatMap obE) 191 33]) := H.nilEnd 191 33
  refine l_op (o_appG (enc := obE) (s := ⟨hd (some b10), 1, 1, [(⟨of, ⟨hd da, 3, dc, [68, 49, 0]⟩⟩ : Ob)]⟩) (l' := [(⟨of, ⟨hd da, 3, dc, [68, 49, 0]⟩⟩ : Ob)]) (len' := 1) rfl (Nat.zero_add _) H (i := 5) rfl sl143 Tryz.underlying143 rfl rfl (H.glOwn (i := 4) rfl (by decide) (fun c _ => obE_len c)) (by decide) (fun c _ => obE_all c) oM (by decide) (fun a11 c12 w H => ?_)); replace H : Hp _ w _ ([_, _, _, _, _, .own a11 1 c12 (([(⟨of, ⟨hd da, 3, dc, [68, 49, 0]⟩⟩ : Ob)]).flatMap obE) 191 33]) := H
  refine aZ ?_; refine eN ?_
  refine rG ?_; refine lV (r_bin (a := 0) (b := 1) (v := VI 1) rfl rfl (fun _ => b_add oM oM)) ?_; refine mV ?_; refine eN ?_
  try dsimp only [Exit.then, Exit.inBlock]
  refine c_round ?_; refine rG ?_; refine lV (r_bin (a := 1) (b := 1) rfl rfl (fun _ => b_lssB false (decide_eq_false (by decide)))) ?_; refine eN ?_
  refine qN ?_; refine c_exit ?_; refine rG ?_; refine mV ?_; refine aZ ?_; refine eN ?_
  refine cR ?_
  refine e_ret1 (v := .slice (hd a11) 1 c12) Tryz.results90 rfl ?_
  refine ⟨_, rfl, ?_⟩
  exact ⟨_, _, rfl, (H.permL ((perm_front (j := 0) rfl).trans (.cons _ ((perm_front (j := 0) rfl).trans (.cons _ ((perm_front (j := 0) rfl).trans (.cons _ ((perm_front (j := 2) rfl).trans (.cons _ (.refl _)))))))))).sub (.cons_cons _ (.cons_cons _ (.cons_cons _ (.cons_cons _ (List.nil_sublist _)))))⟩
theorem usedB_ret (w0 : World) (nm : List UInt8) (key : Id32) (q nx : Int) (ba : Option Addr) (bc : Nat) (da : Option Addr) (dc : Nat) (of : Id32) (sa : Option Addr) (sc : Nat) (dms : Gl Dm) (hbl : (⟨ba, 1, bc, [(⟨of, ⟨da, 3, dc, [68, 49, 0]⟩⟩ : Bl)]⟩ : Gl Bl).ok blE 33 w0) :
    Ret Tryz.prog 59 [.agg (tnE (⟨nm, key, q, nx, (⟨ba, 1, bc, [(⟨of, ⟨da, 3, dc, [68, 49, 0]⟩⟩ : Bl)]⟩ : Gl Bl), (⟨sa, 0, sc, []⟩ : Gl Sn), dms⟩ : Tn)).toArray] w0 fun v w' => v = VI 3 ∧ Hp w0 w' [] [] := by
  refine ret_mk Tryz.func59 rfl Tryz.ntmps59 (by simp) ?_
  have H := Hp.refl w0 []
  refine rG ?_; refine l_op (o_box (v := .agg (tnE (⟨nm, key, q, nx, (⟨ba, 1, bc, [(⟨of, ⟨da, 3, dc, [68, 49, 0]⟩⟩ : Bl)]⟩ : Gl Bl), (⟨sa, 0, sc, []⟩ : Gl Sn), dms⟩ : Tn)).toArray) H rfl (fun b1 w H hb1 => ?_)); replace H : Hp _ w _ ([.blk b1 (tnE (⟨nm, key, q, nx, (⟨ba, 1, bc, [(⟨of, ⟨da, 3, dc, [68, 49, 0]⟩⟩ : Bl)]⟩ : Gl Bl), (⟨sa, 0, sc, []⟩ : Gl Sn), dms⟩ : Tn)) 53]) := H
  refine aZ ?_; refine eN ?_
  refine rG ?_; refine aZ ?_; refine eN ?_
  refine rG ?_; refine lV (r_fa rfl fo53_4) ?_; refine lV (r_l1 (v := (⟨ba, 1, bc, [(⟨of, ⟨da, 3, dc, [68, 49, 0]⟩⟩ : Bl)]⟩ : Gl Bl).v) H (i := 0) rfl rfl ct49 (tnE_c4 _)) ?_; refine lV (r_lens el49 rfl) ?_; refine mV ?_; refine eN ?_
  refine qB ?_; repeat refine c_seq ?_
  refine wp_loop_rounds 3 ?_; refine c_round ?_; refine rG ?_; refine lV (r_bin (a := 0) (b := 1) rfl rfl (fun _ => b_lssB true (decide_eq_true (by decide)))) ?_; refine eN ?_
  refine qY ?_; refine c_skip ?_; refine qB ?_; refine rG ?_; have ah4 := ((hbl.up H)).addr (by decide) (by first | omega | (dsimp only; omega))
  obtain ⟨ab2, ao3, ah4⟩ := ah4
  refine lV (r_isN 0 rfl rfl el49 ah4 oM (by (try simp only []); omega)) ?_; refine lV (r_ldRow (s := (⟨ba, 1, bc, [(⟨of, ⟨da, 3, dc, [68, 49, 0]⟩⟩ : Bl)]⟩ : Gl Bl)) (k := 0) (hbl.up H) ah4 rfl rt92 (by decide) rfl) ?_; refine l_op (o_alloc H zc92 (fun b8 w H hb8 => ?_)); replace H : Hp _ w _ ([_, .blk b8 (blE (⟨zId, ⟨none, 0, 0, []⟩⟩ : Bl)) 92]) := H
  refine l_op (o_stW (C' := blE (⟨of, (⟨da, 3, dc, [68, 49, 0]⟩ : Sl)⟩ : Bl)) H (i := 1) rfl rfl rfl cs92 (blE_all _) (blE_len _) (blE_len _) (fun w H => ?_)); replace H : Hp _ w _ ([_, .blk b8 (blE (⟨of, (⟨da, 3, dc, [68, 49, 0]⟩ : Sl)⟩ : Bl)) 92]) := H
  refine eN ?_
  refine rG ?_; refine mV ?_; refine lV (r_fa rfl fo92_1) ?_; refine lV (r_l1 (v := (⟨da, 3, dc, [68, 49, 0]⟩ : Sl).v) H (i := 1) rfl rfl ct33 (blE_c1 _)) ?_; refine lV (r_lens el33 rfl) ?_; refine lV (r_bin (a := 0) (b := 3) (v := VI 3) rfl rfl (fun _ => b_add oM oM)) ?_; refine aZ ?_; refine eN ?_
  refine rG ?_; refine lV (r_bin (a := 0) (b := 1) (v := VI 1) rfl rfl (fun _ => b_add oM oM)) ?_; refine mV ?_; refine eN ?_
  try dsimp only [Exit.then, Exit.inBlock]
  refine c_round ?_; refine rG ?_; refine lV (r_bin (a := 1) (b := 1) rfl rfl (fun _ => b_lssB false (decide_eq_false (by decide)))) ?_; refine eN ?_
  refine qN ?_; refine c_exit ?_; refine rG ?_; refine lV (r_fa rfl fo53_5) ?_; refine lV (r_l1 (v := (⟨sa, 0, sc, []⟩ : Gl Sn).v) H (i := 0) rfl rfl ct50 (tnE_c5 _)) ?_; refine lV (r_lens el50 rfl) ?_; refine mV ?_; refine eN ?_
  refine qB ?_; repeat refine c_seq ?_
  refine wp_loop_rounds 3 ?_; refine c_round ?_; refine rG ?_; refine lV (r_bin (a := 0) (b := 0) rfl rfl (fun _ => b_lssB false (decide_eq_false (by decide)))) ?_; refine eN ?_
  refine qN ?_; refine c_exit ?_; refine rG ?_; refine mV ?_; refine aZ ?_; refine eN ?_
  refine cR ?_
  refine e_ret1 (v := VI 3) Tryz.results59 rfl ?_
  refine ⟨_, rfl, ?_⟩
  exact ⟨rfl, H.sub (List.nil_sublist _)⟩
theorem roomB_ret (w0 : World) (wb tb tc : Nat) (ws : Option Nat) (op : Opr) (ser : UInt64) (nm : List UInt8) (key : Id32) (nx : Int) (dms : Gl Dm) (ba : Option Nat) (bc : Nat) (da : Option Nat) (dc : Nat) (of : Id32) (sa : Option Nat) (sc : Nat) (n : Int) (hn : n ≤ 900) (hO : Own w0 [.blk wb (wrkE (⟨ws, op, (some tb), ser⟩ : Wrk)) 75, .own (some tb) 1 tc (([((⟨nm, key, 1000, nx, ⟨hd ba, 1, bc, [((⟨of, ⟨hd da, 3, dc, [68, 49, 0]⟩⟩ : Bl))]⟩, ⟨hd sa, 0, sc, ([] : List Sn)⟩, dms⟩ : Tn))]).flatMap tnE) 53 38, .own ba 1 bc (([((⟨of, ⟨hd da, 3, dc, [68, 49, 0]⟩⟩ : Bl))]).flatMap blE) 92 33]) :
    Ret Tryz.prog 86 [.pointer (some ⟨wb, 0, none⟩), VI n] w0 fun v w' => v = .bool true ∧ Hp w0 w' (keys hO.l) hO.l := by
  refine ret_mk Tryz.func86 rfl Tryz.ntmps86 (by simp) ?_
  have H := hO.start
  refine rG ?_; refine aZ ?_; refine eN ?_
  repeat refine c_seq ?_
  refine heldH H mixed fun H => ?_
  have HS := H
  refine tK 0 rfl (fun w HS => r_mv) HS ?_; refine tK 1 rfl (fun w HS => r_mv) HS ?_; refine tK 2 rfl (fun w HS => r_nilc rfl) HS ?_; refine tK 3 rfl (fun w HS => r_fa rfl fo75_2) HS ?_; refine tK 4 rfl (fun w HS => r_l1 (v := .pointer (some ⟨tb, 0, none⟩)) HS (i := 0) rfl rfl ct73 (wrkE_c2 _)) HS ?_; refine tK 5 rfl (fun w HS => r_nilc rfl) HS ?_; refine tK 6 rfl (fun w HS => r_fa rfl fo53_2) HS ?_; refine tK 7 rfl (fun w HS => r_g1 (v := VI 1000) (s := (⟨hd (some tb), 1, tc, [((⟨nm, key, 1000, nx, ⟨hd ba, 1, bc, [((⟨of, ⟨hd da, 3, dc, [68, 49, 0]⟩⟩ : Bl))]⟩, ⟨hd sa, 0, sc, ([] : List Sn)⟩, dms⟩ : Tn))]⟩ : Gl Tn)) (j := 0) (HS.glOwn (i := 1) rfl (by decide) (fun c _ => tnE_len c)) rfl rfl ct2 rfl (by decide) (tnE_c2 _)) HS ?_; refine tK 8 rfl (fun w HS => r_mv) HS ?_; refine tK 9 rfl (fun w HS => r_nilc rfl) HS ?_; refine tK 10 rfl (fun w HS => r_fa rfl fo75_2) HS ?_; refine tK 11 rfl (fun w HS => r_l1 (v := .pointer (some ⟨tb, 0, none⟩)) HS (i := 0) rfl rfl ct73 (wrkE_c2 _)) HS ?_; refine tK 12 rfl (fun w HS => r_nilc rfl) HS ?_; refine tK 13 rfl (fun w HS => r_ldRow (s := (⟨hd (some tb), 1, tc, [((⟨nm, key, 1000, nx, ⟨hd ba, 1, bc, [((⟨of, ⟨hd da, 3, dc, [68, 49, 0]⟩⟩ : Bl))]⟩, ⟨hd sa, 0, sc, ([] : List Sn)⟩, dms⟩ : Tn))]⟩ : Gl Tn)) (k := 0) (HS.glOwn (i := 1) rfl (by decide) (fun c _ => tnE_len c)) rfl rfl rt53 (by decide) rfl) HS ?_; refine tU 14 rfl (o_callR Tryz.func59 rfl rfl rfl (usedB_ret _ _ _ _ _ _ _ _ _ _ _ _ _ (H.glOwn (i := 2) rfl (by decide) (fun c _ => blE_len c))) ?_); rintro _ w ⟨rfl, Hc⟩
  replace H : Hp _ w _ ([.blk wb (wrkE (⟨ws, op, (some tb), ser⟩ : Wrk)) 75, .own (some tb) 1 tc (([((⟨nm, key, 1000, nx, ⟨hd ba, 1, bc, [((⟨of, ⟨hd da, 3, dc, [68, 49, 0]⟩⟩ : Bl))]⟩, ⟨hd sa, 0, sc, ([] : List Sn)⟩, dms⟩ : Tn))]).flatMap tnE) 53 38, .own ba 1 bc (([((⟨of, ⟨hd da, 3, dc, [68, 49, 0]⟩⟩ : Bl))]).flatMap blE) 92 33]) := H.call Hc
  clear Hc
  replace HS := H
  refine ⟨HS, ?_⟩
  refine tK 15 rfl (fun w HS => r_bin (a := 1000) (b := 3) (v := VI 997) rfl rfl (fun _ => b_sub oM oM)) HS ?_; refine tK 16 rfl (fun w HS => r_bin (a := n) (b := 997) rfl rfl (fun _ => b_leqB true (decide_eq_true oM))) HS ?_; refine tK 17 rfl (fun w HS => r_as) HS ?_; refine t_done (by kernel_rfl) ?_
  clear HS
  refine cR ?_
  refine e_ret1 (v := .bool true) Tryz.results86 rfl ?_
  refine ⟨_, rfl, ?_⟩
  exact ⟨rfl, H.sub (.cons_cons _ (.cons_cons _ (.cons_cons _ (List.nil_sublist _))))⟩
end Go.Proofs.YtmiabahejnjhiaaGreatDoor
namespace Go.Proofs.YtmiabahejnjhiaaGreatDoor
open Go Go.Shelf
def Tryz.fiM_ren : Go.Shelf.Ren := ⟨fun | 173 => 133 | 246 => 157 | 283 => 176 | 284 => 177 | 285 => 178 | 286 => 179 | 129 => 195 | 317 => 196 | 318 => 197 | 319 => 198 | 320 => 199 | 337 => 206 | 338 => 207 | n => n, fun | 2 => 2 | 3 => 3 | 9 => 9 | 4 => 4 | 171 => 247 | 0 => 0 | 53 => 25 | 37 => 33 | 5 => 5 | 173 => 250 | 212 => 264 | 51 => 204 | 20 => 20 | 213 => 265 | 46 => 131 | 232 => 23 | 233 => 206 | n => n, fun | 17 => 1 | 18 => 2 | 19 => 3 | n => n⟩
theorem Tryz.fiM : Go.Proofs.LaysM.n173 Tryz.prog Tryz.fiM_ren := {
  mixed := by kernel_rfl
  f129 := Tryz.func195.trans (congrArg some (by kernel_rfl))
  f173 := Tryz.func133.trans (congrArg some (by kernel_rfl))
  f246 := Tryz.func157.trans (congrArg some (by kernel_rfl))
  f283 := Tryz.func176.trans (congrArg some (by kernel_rfl))
  f284 := Tryz.func177.trans (congrArg some (by kernel_rfl))
  f285 := Tryz.func178.trans (congrArg some (by kernel_rfl))
  f286 := Tryz.func179.trans (congrArg some (by kernel_rfl))
  f317 := Tryz.func196.trans (congrArg some (by kernel_rfl))
  f318 := Tryz.func197.trans (congrArg some (by kernel_rfl))
  f319 := Tryz.func198.trans (congrArg some (by kernel_rfl))
  f320 := Tryz.func199.trans (congrArg some (by kernel_rfl))
  f337 := Tryz.func206.trans (congrArg some (by kernel_rfl))
  f338 := Tryz.func207.trans (congrArg some (by kernel_rfl))
  t0 := Tryz.underlying0
  a0 := Tryz.isAgg0
  z0 := Tryz.sizeOf0
  v0 := Tryz.zeroValue0
  t2 := Tryz.underlying2
  a2 := Tryz.isAgg2
  z2 := Tryz.sizeOf2
  v2 := Tryz.zeroValue2
  t3 := Tryz.underlying3
  a3 := Tryz.isAgg3
  z3 := Tryz.sizeOf3
  v3 := Tryz.zeroValue3
  t4 := Tryz.underlying4
  a4 := Tryz.isAgg4
  z4 := Tryz.sizeOf4
  v4 := Tryz.zeroValue4
  t5 := Tryz.underlying5
  a5 := Tryz.isAgg5
  z5 := Tryz.sizeOf5
  v5 := Tryz.zeroValue5
  t9 := Tryz.underlying9
  a9 := Tryz.isAgg9
  z9 := Tryz.sizeOf9
  v9 := Tryz.zeroValue9
  t20 := Tryz.underlying20
  a20 := Tryz.isAgg20
  z20 := Tryz.sizeOf20
  v20 := Tryz.zeroValue20
  t37 := Tryz.underlying33
  a37 := Tryz.isAgg33
  z37 := Tryz.sizeOf33
  v37 := Tryz.zeroValue33
  t46 := Tryz.underlying131
  a46 := Tryz.isAgg131
  z46 := Tryz.sizeOf131
  v46 := Tryz.zeroValue131
  t51 := Tryz.underlying204
  a51 := Tryz.isAgg204
  z51 := Tryz.sizeOf204
  v51 := Tryz.zeroValue204
  t53 := Tryz.underlying25
  a53 := Tryz.isAgg25
  z53 := Tryz.sizeOf25
  v53 := Tryz.zeroValue25
  t171 := Tryz.underlying247
  a171 := Tryz.isAgg247
  z171 := Tryz.sizeOf247
  v171 := Tryz.zeroValue247
  t173 := Tryz.underlying250
  a173 := Tryz.isAgg250
  z173 := Tryz.sizeOf250
  v173 := Tryz.zeroValue250
  t212 := Tryz.underlying264
  a212 := Tryz.isAgg264
  z212 := Tryz.sizeOf264
  v212 := Tryz.zeroValue264
  t213 := Tryz.underlying265
  a213 := Tryz.isAgg265
  z213 := Tryz.sizeOf265
  t232 := Tryz.underlying23
  a232 := Tryz.isAgg23
  z232 := Tryz.sizeOf23
  v232 := Tryz.zeroValue23
  t233 := Tryz.underlying206
  a233 := Tryz.isAgg206
  z233 := Tryz.sizeOf206
  v233 := Tryz.zeroValue206
  g17 := by kernel_rfl
  g18 := by kernel_rfl
  g19 := by kernel_rfl
  i0 := by kernel_rfl
  i2 := by kernel_rfl
  i3 := by kernel_rfl
  i4 := by kernel_rfl
  i5 := by kernel_rfl
  i9 := by kernel_rfl
  i20 := by kernel_rfl
  i37 := by kernel_rfl
  i46 := by kernel_rfl
  i51 := by kernel_rfl
  i53 := by kernel_rfl
  i171 := by kernel_rfl
  i173 := by kernel_rfl
  i212 := by kernel_rfl
  i232 := by kernel_rfl
  i233 := by kernel_rfl
  m17 := by kernel_rfl
  m18 := by kernel_rfl
  m19 := by kernel_rfl }
def Tryz.fi_ren : Go.Shelf.Ren := ⟨fun | 173 => 133 | 246 => 157 | 283 => 176 | 284 => 177 | 285 => 178 | 286 => 179 | 129 => 195 | 317 => 196 | 318 => 197 | 319 => 198 | 320 => 199 | 337 => 206 | 338 => 207 | n => n, fun | 2 => 2 | 3 => 3 | 9 => 9 | 4 => 4 | 171 => 247 | 0 => 0 | 53 => 25 | 37 => 33 | 5 => 5 | 173 => 250 | 212 => 264 | 51 => 204 | 20 => 20 | 213 => 265 | 46 => 131 | 232 => 23 | 233 => 206 | n => n, fun | 17 => 1 | 18 => 2 | 19 => 3 | n => n⟩
theorem Tryz.fi : Go.Proofs.Lays.n173 Tryz.prog Tryz.fi_ren := {
  mixed := by kernel_rfl
  f129 := Tryz.func195.trans (congrArg some (by kernel_rfl))
  f173 := Tryz.func133.trans (congrArg some (by kernel_rfl))
  f246 := Tryz.func157.trans (congrArg some (by kernel_rfl))
  f283 := Tryz.func176.trans (congrArg some (by kernel_rfl))
  f284 := Tryz.func177.trans (congrArg some (by kernel_rfl))
  f285 := Tryz.func178.trans (congrArg some (by kernel_rfl))
  f286 := Tryz.func179.trans (congrArg some (by kernel_rfl))
  f317 := Tryz.func196.trans (congrArg some (by kernel_rfl))
  f318 := Tryz.func197.trans (congrArg some (by kernel_rfl))
  f319 := Tryz.func198.trans (congrArg some (by kernel_rfl))
  f320 := Tryz.func199.trans (congrArg some (by kernel_rfl))
  f337 := Tryz.func206.trans (congrArg some (by kernel_rfl))
  f338 := Tryz.func207.trans (congrArg some (by kernel_rfl))
  t0 := Tryz.underlying0
  a0 := Tryz.isAgg0
  z0 := Tryz.sizeOf0
  v0 := Tryz.zeroValue0
  t2 := Tryz.underlying2
  a2 := Tryz.isAgg2
  z2 := Tryz.sizeOf2
  v2 := Tryz.zeroValue2
  t3 := Tryz.underlying3
  a3 := Tryz.isAgg3
  z3 := Tryz.sizeOf3
  v3 := Tryz.zeroValue3
  t4 := Tryz.underlying4
  a4 := Tryz.isAgg4
  z4 := Tryz.sizeOf4
  v4 := Tryz.zeroValue4
  t5 := Tryz.underlying5
  a5 := Tryz.isAgg5
  z5 := Tryz.sizeOf5
  v5 := Tryz.zeroValue5
  t9 := Tryz.underlying9
  a9 := Tryz.isAgg9
  z9 := Tryz.sizeOf9
  v9 := Tryz.zeroValue9
  t20 := Tryz.underlying20
  a20 := Tryz.isAgg20
  z20 := Tryz.sizeOf20
  v20 := Tryz.zeroValue20
  t37 := Tryz.underlying33
  a37 := Tryz.isAgg33
  z37 := Tryz.sizeOf33
  v37 := Tryz.zeroValue33
  t46 := Tryz.underlying131
  a46 := Tryz.isAgg131
  z46 := Tryz.sizeOf131
  v46 := Tryz.zeroValue131
  t51 := Tryz.underlying204
  a51 := Tryz.isAgg204
  z51 := Tryz.sizeOf204
  v51 := Tryz.zeroValue204
  t53 := Tryz.underlying25
  a53 := Tryz.isAgg25
  z53 := Tryz.sizeOf25
  v53 := Tryz.zeroValue25
  t171 := Tryz.underlying247
  a171 := Tryz.isAgg247
  z171 := Tryz.sizeOf247
  v171 := Tryz.zeroValue247
  t173 := Tryz.underlying250
  a173 := Tryz.isAgg250
  z173 := Tryz.sizeOf250
  v173 := Tryz.zeroValue250
  t212 := Tryz.underlying264
  a212 := Tryz.isAgg264
  z212 := Tryz.sizeOf264
  v212 := Tryz.zeroValue264
  t213 := Tryz.underlying265
  a213 := Tryz.isAgg265
  z213 := Tryz.sizeOf265
  t232 := Tryz.underlying23
  a232 := Tryz.isAgg23
  z232 := Tryz.sizeOf23
  v232 := Tryz.zeroValue23
  t233 := Tryz.underlying206
  a233 := Tryz.isAgg206
  z233 := Tryz.sizeOf206
  v233 := Tryz.zeroValue206
  g17 := by kernel_rfl
  g18 := by kernel_rfl
  g19 := by kernel_rfl }
end Go.Proofs.YtmiabahejnjhiaaGreatDoor
namespace Go.Proofs.YtmiabahejnjhiaaGreatDoor
open Go
set_option maxRecDepth 100000
/-- the table of the powers of ten stands in the world. -/
def Tab (w : World) : Prop := Lib.TabIs Tryz.prog w "internal/strconv.uint64pow10" .u64 Lib.pow10Tab
theorem hp_grow (w : World) (k : Nat) (os : Array Obj) : Hp w (Go.Sort.grow (w.drewN k) os) [] [] :=
  ⟨rfl, rfl, rfl, by show w.heap.size ≤ (w.heap ++ os).size; rw [Array.size_append]; omega, fun b hb _ => by
    show (w.heap ++ os)[b]? = w.heap[b]?
    rw [Array.getElem?_append_left hb], (by simp), (by simp), .nil⟩
theorem fmt_ret (w0 : World) (n : Int) (h0 : 0 ≤ n) (h1 : n ≤ 9223372036854775807) (ht : Tab w0) : Ret Tryz.prog 133 [VI n, VI 10] w0 fun v w' => ∃ l : List UInt8, l.length ≤ 21 ∧ v = .string ⟨l.toArray⟩ ∧ Hp w0 w' [] [] := by
  refine Calls.mono (Any.strconv_FormatInt_10 Tryz.fiM n oM h1 w0 ht) fun e w' ⟨he, k, os, hw⟩ => ?_
  subst hw
  exact ⟨_, he, Lib.itoa n, Lib.itoa_length_le n oM h1, rfl, hp_grow _ _ _⟩
theorem fmt1_ret (w0 : World) (i : Nat) (hi : i ≤ 1) : Ret Tryz.prog 133 [VI i, VI 10] w0 fun v w' => ∃ l : List UInt8, l.length ≤ 21 ∧ v = .string ⟨l.toArray⟩ ∧ Hp w0 w' [] [] := by
  refine Calls.mono (Any.strconv_FormatInt_10_small Tryz.fi i oM w0) fun e w' ⟨he, hw⟩ => ?_
  subst hw
  refine ⟨_, he, Lib.decDigits i, ?_, rfl, Hp.refl _ _⟩
  rw [Lib.decDigits_length, Lib.nDigits, dif_pos oM]
  decide
theorem Tab.low {w : World} (h : Tab w) (g : Nat) (hg : Tryz.prog.globalNamed "internal/strconv.uint64pow10" = some g) : g < w.heap.size := by
  unfold Tab Lib.TabIs World.var? at h
  rw [hg] at h
  simp only [Option.bind_some] at h
  rcases Nat.lt_or_ge g w.heap.size with h' | h'
  · exact h'
  · rw [Array.getElem?_eq_none h'] at h; simp at h
/-- a variable of the package stays as it is. -/
theorem Tab.up {w0 w : World} {S : List Nat} {L : List Ch} (h : Tab w0) (H : Hp w0 w S L) (hS : ∀ g, Tryz.prog.globalNamed "internal/strconv.uint64pow10" = some g → g ∉ S) : Tab w := by
  cases hg : Tryz.prog.globalNamed "internal/strconv.uint64pow10" with
  | none => unfold Tab Lib.TabIs World.var? at h; rw [hg] at h; cases h
  | some g =>
    have hlt := h.low g hg
    unfold Tab Lib.TabIs World.var? at h ⊢
    rw [hg] at h ⊢
    simp only [Option.bind_some] at h ⊢
    rw [H.frame g hlt (hS g hg)]
    exact h
theorem Tab.up0 {w0 w : World} {L : List Ch} (h : Tab w0) (H : Hp w0 w [] L) : Tab w := h.up H fun _ _ h => by cases h
end Go.Proofs.YtmiabahejnjhiaaGreatDoor
namespace Go.Proofs.YtmiabahejnjhiaaGreatDoor
open Go
set_option maxRecDepth 100000
theorem print1_ret (w0 : World) (i : Nat) (hi : i ≤ 1) :
    Ret Tryz.prog 92 [VI (i : Int)] w0 fun v w' => ∃ l : List UInt8, l.length ≤ 21 ∧ v = .string ⟨l.toArray⟩ ∧ Hp w0 w' [] [] := by
  refine ret_mk Tryz.func92 rfl Tryz.ntmps92 (by simp) ?_
  have H := Hp.refl w0 []
  refine rG ?_; refine aZ ?_; refine eN ?_
  refine rG ?_; refine mV ?_; refine l_op (o_callR Tryz.func133 rfl rfl rfl (fmt1_ret _ i hi) ?_); rintro _ w ⟨l1, hl2, rfl, Hc⟩
  replace H : Hp _ w _ ([]) := H.call Hc
  clear Hc
  refine aZ ?_; refine eN ?_
  refine cR ?_
  refine e_ret1 (v := .string ⟨(l1).toArray⟩) Tryz.results92 rfl ?_
  refine ⟨_, rfl, ?_⟩
  exact ⟨_, hl2, rfl, H⟩
theorem numb1_ret (w0 : World) (st : Int) (i : Nat) (hi : i ≤ 1) :
    Ret Tryz.prog 91 [VI st, VI (i : Int)] w0 fun v w' => ∃ bd : Sl, v = .agg (ansE (⟨st, bd⟩ : Ans)).toArray ∧ Hp w0 w' [] [] := by
  refine ret_mk Tryz.func91 rfl Tryz.ntmps91 (by simp) ?_
  have H := Hp.refl w0 []
  refine rG ?_; refine l_op (o_alloc H zc43 (fun b1 w H hb1 => ?_)); replace H : Hp _ w _ ([.blk b1 (ansE (⟨0, ⟨none, 0, 0, []⟩⟩ : Ans)) 43]) := H
  refine eN ?_
  refine rG ?_; refine mV ?_; refine mV ?_; refine l_op (o_callR Tryz.func92 rfl rfl rfl (print1_ret _ i hi) ?_); rintro _ w ⟨l2, hl3, rfl, Hc⟩
  replace H : Hp _ w _ ([_]) := H.call Hc
  clear Hc
  refine l_op (o_s2B (l := l2) H Tryz.underlying9 Tryz.underlying33 Tryz.underlying5 rfl oM (fun b4 c5 ob6 w H hb4 hr7 => ?_)); replace H : Hp _ w _ ([_, .obj b4 ob6]) := H
  refine lV (r_bldG (Z := ansE (⟨0, ⟨none, 0, 0, []⟩⟩ : Ans)) (E := ansE (⟨st, (⟨some ⟨b4, 0, none⟩, (l2).length, c5, l2⟩ : Sl)⟩ : Ans)) (pv := [(0, VI st), (1, (⟨some ⟨b4, 0, none⟩, (l2).length, c5, l2⟩ : Sl).v)]) bd43 rfl rfl (.consP rfl (ansE_p0 _ st) rfl (.consP rfl (ansE_p1 _ (⟨some ⟨b4, 0, none⟩, (l2).length, c5, l2⟩ : Sl)) rfl (.nil _)))) ?_; refine l_op (o_stW (C' := ansE (⟨st, (⟨some ⟨b4, 0, none⟩, (l2).length, c5, l2⟩ : Sl)⟩ : Ans)) H (i := 0) rfl rfl rfl cs43 (ansE_all _) (ansE_len _) (ansE_len _) (fun w H => ?_)); replace H : Hp _ w _ ([.blk b1 (ansE (⟨st, (⟨some ⟨b4, 0, none⟩, (l2).length, c5, l2⟩ : Sl)⟩ : Ans)) 43, _]) := H
  refine eN ?_
  refine cR ?_
  refine e_retc Tryz.results91 H (i := 0) rfl rfl rt43 (ansE_len _).symm ?_
  refine ⟨_, rfl, ?_⟩
  exact ⟨_, rfl, H.sub (List.nil_sublist _)⟩
theorem print_ret (w0 : World) (n : Int) (h0 : 0 ≤ n) (h1 : n ≤ 9223372036854775807) (ht : Tab w0) :
    Ret Tryz.prog 92 [VI n] w0 fun v w' => ∃ l : List UInt8, l.length ≤ 21 ∧ v = .string ⟨l.toArray⟩ ∧ Hp w0 w' [] [] := by
  refine ret_mk Tryz.func92 rfl Tryz.ntmps92 (by simp) ?_
  have H := Hp.refl w0 []
  refine rG ?_; refine aZ ?_; refine eN ?_
  refine rG ?_; refine mV ?_; refine l_op (o_callR Tryz.func133 rfl rfl rfl (fmt_ret _ n h0 h1 (ht.up0 H)) ?_); rintro _ w ⟨l1, hl2, rfl, Hc⟩
  replace H : Hp _ w _ ([]) := H.call Hc
  clear Hc
  refine aZ ?_; refine eN ?_
  refine cR ?_
  refine e_ret1 (v := .string ⟨(l1).toArray⟩) Tryz.results92 rfl ?_
  refine ⟨_, rfl, ?_⟩
  exact ⟨_, hl2, rfl, H⟩
theorem numb_ret (w0 : World) (st : Int) (n : Int) (h0 : 0 ≤ n) (h1 : n ≤ 9223372036854775807) (ht : Tab w0) :
    Ret Tryz.prog 91 [VI st, VI n] w0 fun v w' => ∃ bd : Sl, v = .agg (ansE (⟨st, bd⟩ : Ans)).toArray ∧ Hp w0 w' [] [] := by
  refine ret_mk Tryz.func91 rfl Tryz.ntmps91 (by simp) ?_
  have H := Hp.refl w0 []
  refine rG ?_; refine l_op (o_alloc H zc43 (fun b1 w H hb1 => ?_)); replace H : Hp _ w _ ([.blk b1 (ansE (⟨0, ⟨none, 0, 0, []⟩⟩ : Ans)) 43]) := H
  refine eN ?_
  refine rG ?_; refine mV ?_; refine mV ?_; refine l_op (o_callR Tryz.func92 rfl rfl rfl (print_ret _ n h0 h1 (ht.up0 H)) ?_); rintro _ w ⟨l2, hl3, rfl, Hc⟩
  replace H : Hp _ w _ ([_]) := H.call Hc
  clear Hc
  refine l_op (o_s2B (l := l2) H Tryz.underlying9 Tryz.underlying33 Tryz.underlying5 rfl oM (fun b4 c5 ob6 w H hb4 hr7 => ?_)); replace H : Hp _ w _ ([_, .obj b4 ob6]) := H
  refine lV (r_bldG (Z := ansE (⟨0, ⟨none, 0, 0, []⟩⟩ : Ans)) (E := ansE (⟨st, (⟨some ⟨b4, 0, none⟩, (l2).length, c5, l2⟩ : Sl)⟩ : Ans)) (pv := [(0, VI st), (1, (⟨some ⟨b4, 0, none⟩, (l2).length, c5, l2⟩ : Sl).v)]) bd43 rfl rfl (.consP rfl (ansE_p0 _ st) rfl (.consP rfl (ansE_p1 _ (⟨some ⟨b4, 0, none⟩, (l2).length, c5, l2⟩ : Sl)) rfl (.nil _)))) ?_; refine l_op (o_stW (C' := ansE (⟨st, (⟨some ⟨b4, 0, none⟩, (l2).length, c5, l2⟩ : Sl)⟩ : Ans)) H (i := 0) rfl rfl rfl cs43 (ansE_all _) (ansE_len _) (ansE_len _) (fun w H => ?_)); replace H : Hp _ w _ ([.blk b1 (ansE (⟨st, (⟨some ⟨b4, 0, none⟩, (l2).length, c5, l2⟩ : Sl)⟩ : Ans)) 43, _]) := H
  refine eN ?_
  refine cR ?_
  refine e_retc Tryz.results91 H (i := 0) rfl rfl rt43 (ansE_len _).symm ?_
  refine ⟨_, rfl, ?_⟩
  exact ⟨_, rfl, H.sub (List.nil_sublist _)⟩
theorem commit_ret (w0 : World) (ws : Option Nat) (ser : UInt64) (wb tb tc : Nat) (key of of0 : Id32) (s : Sl) (ya : Option Addr) (yc : Nat) (ba : Option Nat) (bc : Nat) (da : Option Nat) (dc : Nat) (sa : Option Nat) (sc : Nat) (hb : (⟨ya, 43, yc, m0B of⟩ : Sl).ok w0) (hap : m0B of ≠ [] → Apart ya (keys [.blk wb (wrkE (⟨ws, (⟨3, ([97] : List UInt8), of0, 0, 0, (0 : UInt8), (⟨ya, 43, yc, m0B of⟩ : Sl), s, 0, zId⟩ : Opr), (some tb), ser⟩ : Wrk)) 75, .own (some tb) 1 tc (([((⟨([97] : List UInt8), key, 1000, 1, ⟨hd ba, 1, bc, [((⟨of, ⟨hd da, 3, dc, [68, 49, 0]⟩⟩ : Bl))]⟩, ⟨hd sa, 0, sc, ([] : List Sn)⟩, ⟨none, 0, 0, []⟩⟩ : Tn))]).flatMap tnE) 53 38, .own ba 1 bc (([((⟨of, ⟨hd da, 3, dc, [68, 49, 0]⟩⟩ : Bl))]).flatMap blE) 92 33, .own da 3 dc (([68, 49, 0]).map V8) 5 1, .own sa 0 sc ((([] : List Sn)).flatMap snE) 95 36])) (hO : Own w0 [.blk wb (wrkE (⟨ws, (⟨3, ([97] : List UInt8), of0, 0, 0, (0 : UInt8), (⟨ya, 43, yc, m0B of⟩ : Sl), s, 0, zId⟩ : Opr), (some tb), ser⟩ : Wrk)) 75, .own (some tb) 1 tc (([((⟨([97] : List UInt8), key, 1000, 1, ⟨hd ba, 1, bc, [((⟨of, ⟨hd da, 3, dc, [68, 49, 0]⟩⟩ : Bl))]⟩, ⟨hd sa, 0, sc, ([] : List Sn)⟩, ⟨none, 0, 0, []⟩⟩ : Tn))]).flatMap tnE) 53 38, .own ba 1 bc (([((⟨of, ⟨hd da, 3, dc, [68, 49, 0]⟩⟩ : Bl))]).flatMap blE) 92 33, .own da 3 dc (([68, 49, 0]).map V8) 5 1, .own sa 0 sc ((([] : List Sn)).flatMap snE) 95 36]) :
    Ret Tryz.prog 53 [.pointer (some ⟨wb, 0, none⟩)] w0 fun v w' => ∃ x : Option Nat × Nat × Sl, v = .agg (ansE (⟨201, x.2.2⟩ : Ans)).toArray ∧ Hp w0 w' (keys hO.l) [.blk wb (wrkE (⟨ws, (⟨3, ([97] : List UInt8), of0, 0, 0, (0 : UInt8), (⟨ya, 43, yc, m0B of⟩ : Sl), s, 0, zId⟩ : Opr), (some tb), ser⟩ : Wrk)) 75, .own (some tb) 1 tc (([⟨[97], key, 1000, 2, ⟨hd ba, 1, bc, [⟨of, ⟨hd da, 3, dc, [68, 49, 0]⟩⟩]⟩, ⟨hd x.1, 1, x.2.1, [(⟨1, (⟨of, 0, []⟩ : Mf), 0⟩ : Sn)]⟩, ⟨none, 0, 0, []⟩⟩] : List Tn).flatMap tnE) 53 38, .own ba 1 bc (([((⟨of, ⟨hd da, 3, dc, [68, 49, 0]⟩⟩ : Bl))]).flatMap blE) 92 33, .own da 3 dc (([68, 49, 0]).map V8) 5 1, .own x.1 1 x.2.1 (([(⟨1, (⟨of, 0, []⟩ : Mf), 0⟩ : Sn)] : List Sn).flatMap snE) 95 36] := by
  refine ret_mk Tryz.func53 rfl Tryz.ntmps53 (by simp) ?_
  have H := hO.start
  refine rG ?_; refine l_op (o_alloc H zc43 (fun b1 w H hb1 => ?_)); replace H : Hp _ w _ ([.blk wb (wrkE (⟨ws, (⟨3, ([97] : List UInt8), of0, 0, 0, (0 : UInt8), (⟨ya, 43, yc, m0B of⟩ : Sl), s, 0, zId⟩ : Opr), (some tb), ser⟩ : Wrk)) 75, .own (some tb) 1 tc (([((⟨([97] : List UInt8), key, 1000, 1, ⟨hd ba, 1, bc, [((⟨of, ⟨hd da, 3, dc, [68, 49, 0]⟩⟩ : Bl))]⟩, ⟨hd sa, 0, sc, ([] : List Sn)⟩, ⟨none, 0, 0, []⟩⟩ : Tn))]).flatMap tnE) 53 38, .own ba 1 bc (([((⟨of, ⟨hd da, 3, dc, [68, 49, 0]⟩⟩ : Bl))]).flatMap blE) 92 33, .own da 3 dc (([68, 49, 0]).map V8) 5 1, .own sa 0 sc ((([] : List Sn)).flatMap snE) 95 36, .blk b1 (ansE (⟨0, ⟨none, 0, 0, []⟩⟩ : Ans)) 43]) := H
  refine eN ?_
  refine rG ?_; refine mV ?_; refine lV (r_nilc rfl) ?_; refine lV (r_fa rfl fo75_1) ?_; refine lV (r_fa rfl fo47_6) ?_; refine lV (r_l1 (v := (⟨ya, 43, yc, m0B of⟩ : Sl).v) H (i := 0) rfl rfl ct33 ((wrkE_c1 _).comp (oprE_c6 _))) ?_; refine l_op (o_callR Tryz.func88 rfl rfl rfl (stake0_ret _ ya yc of (hb.up H hap)) ?_); rintro _ w ⟨rfl, Hc⟩
  replace H : Hp _ w _ ([_, _, _, _, _, _]) := H.call Hc
  clear Hc
  refine mV ?_; refine lV (r_ext rfl rfl) ?_; refine lV (r_ext rfl rfl) ?_; refine l_op (o_alloc H zc56 (fun b2 w H hb2 => ?_)); replace H : Hp _ w _ ([_, _, _, _, _, _, .blk b2 (mfE (⟨zId, 0, ([] : List UInt8)⟩ : Mf)) 56]) := H
  refine l_op (o_stW (C' := mfE (⟨of, 0, ([] : List UInt8)⟩ : Mf)) H (i := 6) rfl rfl rfl cs56 (mfE_all _) (mfE_len _) (mfE_len _) (fun w H => ?_)); replace H : Hp _ w _ ([_, _, _, _, _, _, .blk b2 (mfE (⟨of, 0, ([] : List UInt8)⟩ : Mf)) 56]) := H
  refine aZ ?_; refine eN ?_
  refine rG ?_; refine mV ?_; refine lV (r_bin (a := 0) (b := 0) rfl rfl (fun _ => b_neqB false (decide_eq_false (by decide)))) ?_; refine eN ?_
  refine qN ?_; refine c_skip ?_; repeat refine c_seq ?_
  refine heldH H mixed fun H => ?_
  have HS := H
  refine tK 0 rfl (fun w HS => r_mv) HS ?_; refine tK 2 rfl (fun w HS => r_fa rfl fo56_0) HS ?_; refine tK 3 rfl (fun w HS => r_lk HS (i := 6) rfl rfl rt24 (mfE_c0 _)) HS ?_; refine tU 1 rfl (o_callR Tryz.func90 rfl rfl rfl (objects_ret _ _ _ _ _ _ _ _ _ _ _ _ _ _ _ _ _ _ (H.ownP (.refl _) rfl)) ?_); rintro _ w ⟨a3, c4, rfl, Hc⟩
  replace H := H.callP (.refl _) rfl Hc ((perm_front (j := 4) rfl).trans (.cons _ ((perm_front (j := 4) rfl).trans (.cons _ ((perm_front (j := 4) rfl).trans (.cons _ (.refl _)))))))
  clear Hc
  replace H : Hp _ w _ ([_, _, _, _, _, _, _, .own a3 1 c4 (([((⟨of, ⟨hd da, 3, dc, [68, 49, 0]⟩⟩ : Ob))]).flatMap obE) 191 33]) := H
  replace HS := H.sub (.cons_cons _ (.cons_cons _ (.cons_cons _ (.cons_cons _ (.cons_cons _ (.cons_cons _ (.cons_cons _ (List.nil_sublist _))))))))
  refine ⟨HS, ?_⟩
  refine tU 4 rfl (o_callR Tryz.func89 rfl rfl rfl (close0_ret _ _ _ _ _ of (H.glOwn (i := 7) rfl (by decide) (fun c _ => obE_len c)) (H.slOwn (i := 3) rfl)) ?_); rintro _ w ⟨a5, k6, R7, hR8, rfl, Hc⟩
  replace H : Hp _ w _ ([_, _, _, _, _, _, _, _, .own a5 R7.length k6 ((R7).flatMap idE) 24 32]) := H.call Hc
  clear Hc
  replace HS := H.sub (.cons_cons _ (.cons_cons _ (.cons_cons _ (.cons_cons _ (.cons_cons _ (.cons_cons _ (.cons_cons _ (List.nil_sublist _))))))))
  refine ⟨HS, ?_⟩
  refine tK 5 rfl (fun w HS => r_mv) HS ?_; refine tK 6 rfl (fun w HS => r_ext rfl rfl) HS ?_; refine tK 7 rfl (fun w HS => r_ext rfl rfl) HS ?_; refine tK 8 rfl (fun w HS => r_as) HS ?_; refine tK 9 rfl (fun w HS => r_as) HS ?_; refine t_done (by kernel_rfl) ?_
  clear HS
  refine qB ?_; refine rG ?_; refine mV ?_; refine lV (r_bin (a := 0) (b := 15) rfl rfl (fun _ => b_eqlB false (decide_eq_false (by decide)))) ?_; refine aZ ?_; refine eN ?_
  refine qN ?_; refine rG ?_; refine mV ?_; refine lV (r_bin (a := 0) (b := 0) rfl rfl (fun _ => b_neqB false (decide_eq_false (by decide)))) ?_; refine aZ ?_; refine eN ?_
  refine qN ?_; refine rG ?_; refine mV ?_; refine mV ?_; refine lV (r_nilc rfl) ?_; refine lV (r_fa rfl fo75_1) ?_; refine lV (r_fa rfl fo47_6) ?_; refine lV (r_l1 (v := (⟨ya, 43, yc, m0B of⟩ : Sl).v) H (i := 0) rfl rfl ct33 ((wrkE_c1 _).comp (oprE_c6 _))) ?_; refine lV (r_lens el33 rfl) ?_; refine l_op (o_callR Tryz.func86 rfl rfl rfl (roomB_ret _ _ _ _ _ _ _ _ _ _ _ _ _ _ _ _ _ _ (43) (by decide) (H.ownP (.refl _) rfl)) ?_); rintro _ w ⟨rfl, Hc⟩
  replace H := H.callP (.refl _) rfl Hc ((perm_front (j := 6) rfl).trans (.cons _ ((perm_front (j := 6) rfl).trans (.cons _ ((perm_front (j := 6) rfl).trans (.cons _ (.refl _)))))))
  clear Hc
  replace H : Hp _ w _ [_, _, _, _, _, _, _, _, _] := H
  refine lV (r_not rfl) ?_; refine mV ?_; refine l_yes rfl rfl rfl (o_val r_mv ?_); refine l_yes rfl rfl rfl (o_val (r_nilc rfl) ?_); refine l_yes rfl rfl rfl (o_val (r_fa rfl fo75_2) ?_); refine l_yes rfl rfl rfl (o_val (r_l1 (v := .pointer (some ⟨tb, 0, none⟩)) H (i := 0) rfl rfl ct73 (wrkE_c2 _)) ?_); refine l_yes rfl rfl rfl (o_val (r_nilc rfl) ?_); refine l_yes rfl rfl rfl (o_val (r_fa rfl fo53_5) ?_); refine l_yes rfl rfl rfl (o_val (r_g1 (v := .slice (hd sa) 0 sc) (s := (⟨hd (some tb), 1, tc, [((⟨([97] : List UInt8), key, 1000, 1, ⟨hd ba, 1, bc, [((⟨of, ⟨hd da, 3, dc, [68, 49, 0]⟩⟩ : Bl))]⟩, ⟨hd sa, 0, sc, ([] : List Sn)⟩, ⟨none, 0, 0, []⟩⟩ : Tn))]⟩ : Gl Tn)) (j := 0) (H.glOwn (i := 1) rfl (by decide) (fun c _ => tnE_len c)) rfl rfl ct50 rfl (by decide) (tnE_c5 _)) ?_); refine l_yes rfl rfl rfl (o_val (r_lens el50 rfl) ?_); refine l_yes rfl rfl rfl (o_val (r_bin (a := 0) (b := 256) rfl rfl (fun _ => b_geqB false (decide_eq_false (by decide)))) ?_); refine lV (r_pick rfl) ?_; refine mV ?_; refine l_yes rfl rfl rfl (o_val r_mv ?_); refine l_yes rfl rfl rfl (o_val (r_nilc rfl) ?_); refine l_yes rfl rfl rfl (o_val (r_fa rfl fo75_2) ?_); refine l_yes rfl rfl rfl (o_val (r_l1 (v := .pointer (some ⟨tb, 0, none⟩)) H (i := 0) rfl rfl ct73 (wrkE_c2 _)) ?_); refine l_yes rfl rfl rfl (o_val (r_nilc rfl) ?_); refine l_yes rfl rfl rfl (o_val (r_fa rfl fo53_3) ?_); refine l_yes rfl rfl rfl (o_val (r_g1 (v := VI 1) (s := (⟨hd (some tb), 1, tc, [((⟨([97] : List UInt8), key, 1000, 1, ⟨hd ba, 1, bc, [((⟨of, ⟨hd da, 3, dc, [68, 49, 0]⟩⟩ : Bl))]⟩, ⟨hd sa, 0, sc, ([] : List Sn)⟩, ⟨none, 0, 0, []⟩⟩ : Tn))]⟩ : Gl Tn)) (j := 0) (H.glOwn (i := 1) rfl (by decide) (fun c _ => tnE_len c)) rfl rfl ct2 rfl (by decide) (tnE_c3 _)) ?_); refine l_yes rfl rfl rfl (o_val (r_bin (a := 1) (b := 9223372036854775807) rfl rfl (fun _ => b_eqlB false (decide_eq_false (by decide)))) ?_); refine lV (r_pick rfl) ?_; refine aZ ?_; refine eN ?_
  refine qN ?_; refine c_skip ?_; refine rG ?_; refine mV ?_; refine lV (r_nilc rfl) ?_; refine lV (r_fa rfl fo75_2) ?_; refine lV (r_l1 (v := .pointer (some ⟨tb, 0, none⟩)) H (i := 0) rfl rfl ct73 (wrkE_c2 _)) ?_; refine lV (r_nilc rfl) ?_; refine lV (r_fa rfl fo53_3) ?_; refine lV (r_g1 (v := VI 1) (s := (⟨hd (some tb), 1, tc, [((⟨([97] : List UInt8), key, 1000, 1, ⟨hd ba, 1, bc, [((⟨of, ⟨hd da, 3, dc, [68, 49, 0]⟩⟩ : Bl))]⟩, ⟨hd sa, 0, sc, ([] : List Sn)⟩, ⟨none, 0, 0, []⟩⟩ : Tn))]⟩ : Gl Tn)) (j := 0) (H.glOwn (i := 1) rfl (by decide) (fun c _ => tnE_len c)) rfl rfl ct2 rfl (by decide) (tnE_c3 _)) ?_; refine aZ ?_; refine eN ?_
  refine rG ?_; refine mV ?_; refine lV (r_nilc rfl) ?_; refine lV (r_fa rfl fo75_2) ?_; refine lV (r_l1 (v := .pointer (some ⟨tb, 0, none⟩)) H (i := 0) rfl rfl ct73 (wrkE_c2 _)) ?_; refine lV (r_nilc rfl) ?_; refine lV (r_fa rfl fo53_3) ?_; refine lV (r_g1 (v := VI 1) (s := (⟨hd (some tb), 1, tc, [((⟨([97] : List UInt8), key, 1000, 1, ⟨hd ba, 1, bc, [((⟨of, ⟨hd da, 3, dc, [68, 49, 0]⟩⟩ : Bl))]⟩, ⟨hd sa, 0, sc, ([] : List Sn)⟩, ⟨none, 0, 0, []⟩⟩ : Tn))]⟩ : Gl Tn)) (j := 0) (H.glOwn (i := 1) rfl (by decide) (fun c _ => tnE_len c)) rfl rfl ct2 rfl (by decide) (tnE_c3 _)) ?_; refine lV (r_bin (a := 1) (b := 1) (v := VI 2) rfl rfl (fun _ => b_add oM oM)) ?_; refine lV (r_nilc rfl) ?_; refine lV (r_fa rfl fo53_3) ?_; refine l_op (o_stGVP (enc := tnE) (c' := ((⟨([97] : List UInt8), key, 1000, 2, ⟨hd ba, 1, bc, [((⟨of, ⟨hd da, 3, dc, [68, 49, 0]⟩⟩ : Bl))]⟩, ⟨hd sa, 0, sc, ([] : List Sn)⟩, ⟨none, 0, 0, []⟩⟩ : Tn))) (V := ([VI 2] : List Value)) (k := 0) H (i := 1) rfl (fun c _ => tnE_len c) rfl rfl rfl (by rfl) cs2 (by simp [Value.oneCell']) (show [((⟨([97] : List UInt8), key, 1000, 1, ⟨hd ba, 1, bc, [((⟨of, ⟨hd da, 3, dc, [68, 49, 0]⟩⟩ : Bl))]⟩, ⟨hd sa, 0, sc, ([] : List Sn)⟩, ⟨none, 0, 0, []⟩⟩ : Tn))][0]? = some ((⟨([97] : List UInt8), key, 1000, 1, ⟨hd ba, 1, bc, [((⟨of, ⟨hd da, 3, dc, [68, 49, 0]⟩⟩ : Bl))]⟩, ⟨hd sa, 0, sc, ([] : List Sn)⟩, ⟨none, 0, 0, []⟩⟩ : Tn)) from rfl) (tnE_p3 _ 2) (fun w H => ?_)); replace H : Hp _ w _ ([_, .own (some tb) 1 tc (([((⟨([97] : List UInt8), key, 1000, 2, ⟨hd ba, 1, bc, [((⟨of, ⟨hd da, 3, dc, [68, 49, 0]⟩⟩ : Bl))]⟩, ⟨hd sa, 0, sc, ([] : List Sn)⟩, ⟨none, 0, 0, []⟩⟩ : Tn))]).flatMap tnE) 53 38, _, _, _, _, _, _, _]) := H
  refine eN ?_
  repeat refine c_seq ?_
  refine c_join (fun τ w => ∃ a25 c26 b24, ∃ σ, τ = ups σ [(0, .pointer (some ⟨wb, 0, none⟩)), (2, .pointer (some ⟨b1, 0, none⟩)), (5, .slice (hd a5) R7.length k6), (6, VI 1)] ∧ Hp w0 w (keys hO.l) ([.blk wb (wrkE (⟨ws, (⟨3, ([97] : List UInt8), of0, 0, 0, (0 : UInt8), (⟨ya, 43, yc, m0B of⟩ : Sl), s, 0, zId⟩ : Opr), (some tb), ser⟩ : Wrk)) 75, .own (some tb) 1 tc (([((⟨([97] : List UInt8), key, 1000, 2, ⟨hd ba, 1, bc, [((⟨of, ⟨hd da, 3, dc, [68, 49, 0]⟩⟩ : Bl))]⟩, ⟨hd a25, 1, c26, [(⟨1, (⟨of, 0, ([] : List UInt8)⟩ : Mf), 0⟩ : Sn)]⟩, ⟨none, 0, 0, []⟩⟩ : Tn))]).flatMap tnE) 53 38, .own ba 1 bc (([((⟨of, ⟨hd da, 3, dc, [68, 49, 0]⟩⟩ : Bl))]).flatMap blE) 92 33, .own da 3 dc (([68, 49, 0]).map V8) 5 1, .own a25 1 c26 (([(⟨1, (⟨of, 0, ([] : List UInt8)⟩ : Mf), 0⟩ : Sn)]).flatMap snE) 95 36, .blk b1 (ansE (⟨0, ⟨none, 0, 0, []⟩⟩ : Ans)) 43, .blk b2 (mfE (⟨of, 0, ([] : List UInt8)⟩ : Mf)) 56, .own a3 1 c4 (([((⟨of, ⟨hd da, 3, dc, [68, 49, 0]⟩⟩ : Ob))]).flatMap obE) 191 33, .own a5 R7.length k6 ((R7).flatMap idE) 24 32, .own (some b24) 1 1 (([(⟨1, (⟨of, 0, ([] : List UInt8)⟩ : Mf), 0⟩ : Sn)]).flatMap snE) 95 36])) ?_ ?_; refine heldS H (H.sub (.cons_cons _ (.cons _ (.cons_cons _ (.cons_cons _ (.cons _ (.cons_cons _ (.cons_cons _ (.cons_cons _ (.cons_cons _ (List.nil_sublist _))))))))))) mixed fun H HS => ?_
  refine tK 0 rfl (fun w HS => r_mv) HS ?_; refine tK 1 rfl (fun w HS => r_nilc rfl) HS ?_; refine tK 2 rfl (fun w HS => r_fa rfl fo75_2) HS ?_; refine tK 3 rfl (fun w HS => r_l1 (v := .pointer (some ⟨tb, 0, none⟩)) HS (i := 0) rfl rfl ct73 (wrkE_c2 _)) HS ?_; refine tK 4 rfl (fun w HS => r_mv) HS ?_; refine tK 5 rfl (fun w HS => r_nilc rfl) HS ?_; refine tK 6 rfl (fun w HS => r_fa rfl fo75_2) HS ?_; refine tK 7 rfl (fun w HS => r_l1 (v := .pointer (some ⟨tb, 0, none⟩)) HS (i := 0) rfl rfl ct73 (wrkE_c2 _)) HS ?_; refine tK 8 rfl (fun w HS => r_nilc rfl) HS ?_; refine tK 9 rfl (fun w HS => r_fa rfl fo53_5) HS ?_; refine tK 11 rfl (fun w HS => r_mv) HS ?_; refine tK 12 rfl (fun w HS => r_ldA (C := mfE (⟨of, 0, ([] : List UInt8)⟩ : Mf)) HS (i := 4) rfl rfl rt56 (mfE_len _)) HS ?_; refine tK 13 rfl (fun w HS => r_bldG (Z := snE (⟨0, (⟨zId, 0, ([] : List UInt8)⟩ : Mf), 0⟩ : Sn)) (E := snE (⟨1, (⟨of, 0, ([] : List UInt8)⟩ : Mf), 0⟩ : Sn)) (pv := [(0, VI 1), (1, .agg (mfE (⟨of, 0, ([] : List UInt8)⟩ : Mf)).toArray)]) bd95 rfl rfl (.consP rfl (snE_p0 _ 1) rfl (.consP rfl (snE_p1 _ (⟨of, 0, ([] : List UInt8)⟩ : Mf)) rfl (.nil _)))) HS ?_; refine t_all [10, 14] (by kernel_rfl) (by simp) (all_cons (w_op 10 rfl ?_) (all_cons (w_op 14 rfl ?_) (all_nil)))
  ·
   refine (o_val (r_g1 (v := .slice (hd sa) 0 sc) (s := (⟨hd (some tb), 1, tc, [((⟨([97] : List UInt8), key, 1000, 2, ⟨hd ba, 1, bc, [((⟨of, ⟨hd da, 3, dc, [68, 49, 0]⟩⟩ : Bl))]⟩, ⟨hd sa, 0, sc, ([] : List Sn)⟩, ⟨none, 0, 0, []⟩⟩ : Tn))]⟩ : Gl Tn)) (j := 0) (H.glOwn (i := 1) rfl (by decide) (fun c _ => tnE_len c)) rfl rfl ct50 rfl (by decide) (tnE_c5 _)) ?_)
   replace HS := H.sub (.cons_cons _ (.cons _ (.cons_cons _ (.cons_cons _ (.cons _ (.cons_cons _ (.cons_cons _ (.cons_cons _ (.cons_cons _ (List.nil_sublist _))))))))))
   refine ⟨HS, ?_⟩
   refine tU 14 rfl (o_bslG1 (enc := snE) ((⟨1, (⟨of, 0, ([] : List UInt8)⟩ : Mf), 0⟩ : Sn)) H sl50 zc95 (by rfl) (by decide) (by decide) rfl (snE_len _) (fun b24 w H hb24 => ?_)); replace H : Hp _ w _ ([_, _, _, _, _, _, _, _, _, .own (some b24) 1 1 (([(⟨1, (⟨of, 0, ([] : List UInt8)⟩ : Mf), 0⟩ : Sn)]).flatMap snE) 95 36]) := H
   replace HS := H.sub (.cons_cons _ (.cons _ (.cons_cons _ (.cons_cons _ (.cons _ (.cons_cons _ (.cons_cons _ (.cons_cons _ (.cons_cons _ (List.nil_sublist _))))))))))
   refine ⟨HS, ?_⟩
   refine tU 15 rfl (o_appG (enc := snE) (s := ⟨hd (some b24), 1, 1, [(⟨1, (⟨of, 0, ([] : List UInt8)⟩ : Mf), 0⟩ : Sn)]⟩) (l' := [(⟨1, (⟨of, 0, ([] : List UInt8)⟩ : Mf), 0⟩ : Sn)]) (len' := 1) rfl (Nat.zero_add _) H (i := 4) rfl sl50 Tryz.underlying50 rfl rfl (H.glOwn (i := 9) rfl (by decide) (fun c _ => snE_len c)) (by decide) (fun c _ => snE_all c) oM (by decide) (fun a25 c26 w H => ?_)); replace H : Hp _ w _ ([_, _, _, _, .own a25 1 c26 (([(⟨1, (⟨of, 0, ([] : List UInt8)⟩ : Mf), 0⟩ : Sn)]).flatMap snE) 95 36, _, _, _, _, _]) := H
   replace HS := H.sub (.cons_cons _ (.cons _ (.cons_cons _ (.cons_cons _ (.cons _ (.cons_cons _ (.cons_cons _ (.cons_cons _ (.cons_cons _ (List.nil_sublist _))))))))))
   refine ⟨HS, ?_⟩
   refine tK 16 rfl (fun w HS => r_nilc rfl) HS ?_; refine tK 17 rfl (fun w HS => r_fa rfl fo53_5) HS ?_; refine tU 18 rfl (o_stGVP (enc := tnE) (c' := ((⟨([97] : List UInt8), key, 1000, 2, ⟨hd ba, 1, bc, [((⟨of, ⟨hd da, 3, dc, [68, 49, 0]⟩⟩ : Bl))]⟩, ⟨hd a25, 1, c26, [(⟨1, (⟨of, 0, ([] : List UInt8)⟩ : Mf), 0⟩ : Sn)]⟩, ⟨none, 0, 0, []⟩⟩ : Tn))) (V := ([.slice (hd a25) 1 c26] : List Value)) (k := 0) H (i := 1) rfl (fun c _ => tnE_len c) rfl rfl rfl (by rfl) cs50 (by simp [Value.oneCell']) (show [((⟨([97] : List UInt8), key, 1000, 2, ⟨hd ba, 1, bc, [((⟨of, ⟨hd da, 3, dc, [68, 49, 0]⟩⟩ : Bl))]⟩, ⟨hd sa, 0, sc, ([] : List Sn)⟩, ⟨none, 0, 0, []⟩⟩ : Tn))][0]? = some ((⟨([97] : List UInt8), key, 1000, 2, ⟨hd ba, 1, bc, [((⟨of, ⟨hd da, 3, dc, [68, 49, 0]⟩⟩ : Bl))]⟩, ⟨hd sa, 0, sc, ([] : List Sn)⟩, ⟨none, 0, 0, []⟩⟩ : Tn)) from rfl) (tnE_p5 _ (⟨hd a25, 1, c26, [(⟨1, (⟨of, 0, ([] : List UInt8)⟩ : Mf), 0⟩ : Sn)]⟩)) (fun w H => ?_)); replace H : Hp _ w _ ([_, .own (some tb) 1 tc (([((⟨([97] : List UInt8), key, 1000, 2, ⟨hd ba, 1, bc, [((⟨of, ⟨hd da, 3, dc, [68, 49, 0]⟩⟩ : Bl))]⟩, ⟨hd a25, 1, c26, [(⟨1, (⟨of, 0, ([] : List UInt8)⟩ : Mf), 0⟩ : Sn)]⟩, ⟨none, 0, 0, []⟩⟩ : Tn))]).flatMap tnE) 53 38, _, _, _, _, _, _, _, _]) := H
   replace HS := H.sub (.cons_cons _ (.cons _ (.cons_cons _ (.cons_cons _ (.cons _ (.cons_cons _ (.cons_cons _ (.cons_cons _ (.cons_cons _ (List.nil_sublist _))))))))))
   refine ⟨HS, ?_⟩
   refine t_done (by kernel_rfl) ?_
   clear HS
   exact nrm_mk ⟨a25, c26, b24, _, join_fit ⟨rfl, rfl, rfl, rfl, trivial⟩, H⟩
  ·
   refine (o_bslG1 (enc := snE) ((⟨1, (⟨of, 0, ([] : List UInt8)⟩ : Mf), 0⟩ : Sn)) H sl50 zc95 (by rfl) (by decide) (by decide) rfl (snE_len _) (fun b27 w H hb27 => ?_))
   replace H : Hp _ w _ ([_, _, _, _, _, _, _, _, _, .own (some b27) 1 1 (([(⟨1, (⟨of, 0, ([] : List UInt8)⟩ : Mf), 0⟩ : Sn)]).flatMap snE) 95 36]) := H
   replace HS := H.sub (.cons_cons _ (.cons _ (.cons_cons _ (.cons_cons _ (.cons _ (.cons_cons _ (.cons_cons _ (.cons_cons _ (.cons_cons _ (List.nil_sublist _))))))))))
   refine ⟨HS, ?_⟩
   refine tU 10 rfl (o_val (r_g1 (v := .slice (hd sa) 0 sc) (s := (⟨hd (some tb), 1, tc, [((⟨([97] : List UInt8), key, 1000, 2, ⟨hd ba, 1, bc, [((⟨of, ⟨hd da, 3, dc, [68, 49, 0]⟩⟩ : Bl))]⟩, ⟨hd sa, 0, sc, ([] : List Sn)⟩, ⟨none, 0, 0, []⟩⟩ : Tn))]⟩ : Gl Tn)) (j := 0) (H.glOwn (i := 1) rfl (by decide) (fun c _ => tnE_len c)) rfl rfl ct50 rfl (by decide) (tnE_c5 _)) ?_); replace HS := H.sub (.cons_cons _ (.cons _ (.cons_cons _ (.cons_cons _ (.cons _ (.cons_cons _ (.cons_cons _ (.cons_cons _ (.cons_cons _ (List.nil_sublist _))))))))))
   refine ⟨HS, ?_⟩
   refine tU 15 rfl (o_appG (enc := snE) (s := ⟨hd (some b27), 1, 1, [(⟨1, (⟨of, 0, ([] : List UInt8)⟩ : Mf), 0⟩ : Sn)]⟩) (l' := [(⟨1, (⟨of, 0, ([] : List UInt8)⟩ : Mf), 0⟩ : Sn)]) (len' := 1) rfl (Nat.zero_add _) H (i := 4) rfl sl50 Tryz.underlying50 rfl rfl (H.glOwn (i := 9) rfl (by decide) (fun c _ => snE_len c)) (by decide) (fun c _ => snE_all c) oM (by decide) (fun a31 c32 w H => ?_)); replace H : Hp _ w _ ([_, _, _, _, .own a31 1 c32 (([(⟨1, (⟨of, 0, ([] : List UInt8)⟩ : Mf), 0⟩ : Sn)]).flatMap snE) 95 36, _, _, _, _, _]) := H
   replace HS := H.sub (.cons_cons _ (.cons _ (.cons_cons _ (.cons_cons _ (.cons _ (.cons_cons _ (.cons_cons _ (.cons_cons _ (.cons_cons _ (List.nil_sublist _))))))))))
   refine ⟨HS, ?_⟩
   refine tK 16 rfl (fun w HS => r_nilc rfl) HS ?_; refine tK 17 rfl (fun w HS => r_fa rfl fo53_5) HS ?_; refine tU 18 rfl (o_stGVP (enc := tnE) (c' := ((⟨([97] : List UInt8), key, 1000, 2, ⟨hd ba, 1, bc, [((⟨of, ⟨hd da, 3, dc, [68, 49, 0]⟩⟩ : Bl))]⟩, ⟨hd a31, 1, c32, [(⟨1, (⟨of, 0, ([] : List UInt8)⟩ : Mf), 0⟩ : Sn)]⟩, ⟨none, 0, 0, []⟩⟩ : Tn))) (V := ([.slice (hd a31) 1 c32] : List Value)) (k := 0) H (i := 1) rfl (fun c _ => tnE_len c) rfl rfl rfl (by rfl) cs50 (by simp [Value.oneCell']) (show [((⟨([97] : List UInt8), key, 1000, 2, ⟨hd ba, 1, bc, [((⟨of, ⟨hd da, 3, dc, [68, 49, 0]⟩⟩ : Bl))]⟩, ⟨hd sa, 0, sc, ([] : List Sn)⟩, ⟨none, 0, 0, []⟩⟩ : Tn))][0]? = some ((⟨([97] : List UInt8), key, 1000, 2, ⟨hd ba, 1, bc, [((⟨of, ⟨hd da, 3, dc, [68, 49, 0]⟩⟩ : Bl))]⟩, ⟨hd sa, 0, sc, ([] : List Sn)⟩, ⟨none, 0, 0, []⟩⟩ : Tn)) from rfl) (tnE_p5 _ (⟨hd a31, 1, c32, [(⟨1, (⟨of, 0, ([] : List UInt8)⟩ : Mf), 0⟩ : Sn)]⟩)) (fun w H => ?_)); replace H : Hp _ w _ ([_, .own (some tb) 1 tc (([((⟨([97] : List UInt8), key, 1000, 2, ⟨hd ba, 1, bc, [((⟨of, ⟨hd da, 3, dc, [68, 49, 0]⟩⟩ : Bl))]⟩, ⟨hd a31, 1, c32, [(⟨1, (⟨of, 0, ([] : List UInt8)⟩ : Mf), 0⟩ : Sn)]⟩, ⟨none, 0, 0, []⟩⟩ : Tn))]).flatMap tnE) 53 38, _, _, _, _, _, _, _, _]) := H
   replace HS := H.sub (.cons_cons _ (.cons _ (.cons_cons _ (.cons_cons _ (.cons _ (.cons_cons _ (.cons_cons _ (.cons_cons _ (.cons_cons _ (List.nil_sublist _))))))))))
   refine ⟨HS, ?_⟩
   refine t_done (by kernel_rfl) ?_
   clear HS
   exact nrm_mk ⟨a31, c32, b27, _, join_fit ⟨rfl, rfl, rfl, rfl, trivial⟩, H⟩
  clear H
  rintro _ w ⟨a25, c26, b24, τ, rfl, H⟩
  refine rG ?_; refine mV ?_; refine lV (r_lens el140 rfl) ?_; refine mV ?_; refine eN ?_
  refine qB ?_; repeat refine c_seq ?_
  refine c_loop (fun (i : Nat) => [(0, .pointer (some ⟨wb, 0, none⟩)), (2, .pointer (some ⟨b1, 0, none⟩)), (6, VI 1), (104, .slice (hd a5) R7.length k6), (105, VI (R7.length : Int)), (106, VI (i : Int))])
    (fun (i : Nat) w => (i ≤ R7.length) ∧ Hp w0 w (keys hO.l) ([.blk wb (wrkE (⟨ws, (⟨3, ([97] : List UInt8), of0, 0, 0, (0 : UInt8), (⟨ya, 43, yc, m0B of⟩ : Sl), s, 0, zId⟩ : Opr), (some tb), ser⟩ : Wrk)) 75, .own (some tb) 1 tc (([((⟨([97] : List UInt8), key, 1000, 2, ⟨hd ba, 1, bc, [((⟨of, ⟨hd da, 3, dc, [68, 49, 0]⟩⟩ : Bl))]⟩, ⟨hd a25, 1, c26, [(⟨1, (⟨of, 0, ([] : List UInt8)⟩ : Mf), 0⟩ : Sn)]⟩, ⟨none, 0, 0, []⟩⟩ : Tn))]).flatMap tnE) 53 38, .own ba 1 bc (([((⟨of, ⟨hd da, 3, dc, [68, 49, 0]⟩⟩ : Bl))]).flatMap blE) 92 33, .own da 3 dc (([68, 49, 0]).map V8) 5 1, .own a25 1 c26 (([(⟨1, (⟨of, 0, ([] : List UInt8)⟩ : Mf), 0⟩ : Sn)]).flatMap snE) 95 36, .blk b1 (ansE (⟨0, ⟨none, 0, 0, []⟩⟩ : Ans)) 43, .blk b2 (mfE (⟨of, 0, ([] : List UInt8)⟩ : Mf)) 56, .own a3 1 c4 (([((⟨of, ⟨hd da, 3, dc, [68, 49, 0]⟩⟩ : Ob))]).flatMap obE) 191 33, .own a5 R7.length k6 ((R7).flatMap idE) 24 32, .own (some b24) 1 1 (([(⟨1, (⟨of, 0, ([] : List UInt8)⟩ : Mf), 0⟩ : Sn)]).flatMap snE) 95 36]))
    (fun (i : Nat) => R7.length - i) 0 ⟨rfl, rfl, rfl, rfl, rfl, rfl, trivial⟩ ⟨Nat.zero_le _, H⟩ ?_
  clear H
  rintro i τ w ⟨hi, H⟩
  refine rG ?_; refine lV (r_bin (a := (i : Int)) (b := (R7.length : Int)) rfl rfl (fun _ => b_lss)) ?_; refine eN ?_
  by_cases hc33 : (i : Int) < (R7.length : Int)
  ·
   repeat refine c_seq ?_
   refine c_yes (by exact bT hc33) ?_; refine c_skip ?_; refine qB ?_; refine rG ?_; have ah35 := H.ownAddr (i := 8) rfl oM
   obtain ⟨ab34, ah35⟩ := ah35
   refine lV (r_isN i rfl rfl el140 ah35 oM (by (try simp only [Sl.cut]); omega)) ?_; have he37 : ∃ c, (R7)[i]? = some c := ⟨_, List.getElem?_eq_getElem (by have := ((H.glOwn (i := 8) rfl (by decide) (fun c _ => idE_len c))).ln; (try dsimp only at this ⊢); omega)⟩
   obtain ⟨e36, he37⟩ := he37
   have hez38 := ((H.glOwn (i := 8) rfl (by decide) (fun c _ => idE_len c))).sz e36 (List.mem_of_getElem? he37)
   refine lV (r_ldRow (s := (⟨hd a5, R7.length, k6, R7⟩ : Gl Id32)) (k := i) (H.glOwn (i := 8) rfl (by decide) (fun c _ => idE_len c)) ah35 rfl rt24 (by decide) he37) ?_; refine l_op (o_alloc H zc24 (fun b39 w H hb39 => ?_)); replace H : Hp _ w _ ([_, _, _, _, _, _, _, _, _, _, .blk b39 ((List.replicate 32 (0 : UInt8)).map V8) 24]) := H
   refine l_op (o_stA (l' := e36.1) H (i := 10) rfl rfl rfl cs24 (show (List.replicate 32 (0 : UInt8)).length = 32 from (List.length_replicate ..)) (show (e36.1).length = 32 from e36.2) (fun w H => ?_)); replace H : Hp _ w _ ([_, _, _, _, _, _, _, _, _, _, .blk b39 ((e36.1).map V8) 24]) := H
   refine eN ?_
   refine rG ?_; refine mV ?_; refine lV (r_ldAA (l := e36.1) H (i := 10) rfl rfl rt24 (show (e36.1).length = 32 from e36.2)) ?_; refine l_op (o_callR Tryz.func85 rfl rfl rfl (spare0_ret _ _ _ _ _ _ _ _ _ _ _ _ _  e36 (H.ownP (.refl _) rfl)) ?_); rintro _ w ⟨rfl, Hc⟩
   replace H := H.callP (.refl _) rfl Hc ((perm_front (j := 9) rfl).trans (.cons _ ((perm_front (j := 9) rfl).trans (.cons _ (.refl _)))))
   clear Hc
   replace H : Hp _ w _ [_, _, _, _, _, _, _, _, _, _, _] := H
   refine eN ?_
   refine rG ?_; refine lV (r_bin (a := (i : Int)) (b := 1) rfl rfl (fun _ => b_add oM oM)) ?_; refine mV ?_; refine eN ?_
   refine round_end (i + 1) ?_ ?_ ?_
   · exact ⟨rfl, rfl, rfl, rfl, rfl, show VI ((i : Int) + 1) = VI ((i + 1 : Nat) : Int) from congrArg VI oM, trivial⟩
   · refine ⟨?_, ?_⟩
     · try dsimp only
       exact by omega
     · exact H.sub (.cons_cons _ (.cons_cons _ (.cons_cons _ (.cons_cons _ (.cons_cons _ (.cons_cons _ (.cons_cons _ (.cons_cons _ (.cons_cons _ (.cons_cons _ (List.nil_sublist _)))))))))))
   · show R7.length - (i + 1 : Nat) < R7.length - i; omega
  ·
   repeat refine c_seq ?_
   refine c_no (by exact bF hc33) ?_; refine c_exit ?_; refine rG ?_; refine mV ?_; refine l_op (o_callR Tryz.func91 rfl rfl rfl (numb1_ret _ (201) 1 oM) ?_); rintro _ w ⟨bd40, rfl, Hc⟩
   replace H : Hp _ w _ ([_, _, _, _, _, _, _, _, _, _]) := H.call Hc
   clear Hc
   refine l_op (o_stW (C' := ansE (⟨201, bd40⟩ : Ans)) H (i := 5) rfl rfl rfl cs43 (ansE_all _) (ansE_len _) (ansE_len _) (fun w H => ?_)); replace H : Hp _ w _ ([_, _, _, _, _, .blk b1 (ansE (⟨201, bd40⟩ : Ans)) 43, _, _, _, _]) := H
   refine eN ?_
   refine cR ?_
   refine e_retc Tryz.results53 H (i := 5) rfl rfl rt43 (ansE_len _).symm ?_
   refine ⟨_, rfl, ?_⟩
   exact ⟨(_, _, _), rfl, (H.permL (.refl _)).sub (.cons_cons _ (.cons_cons _ (.cons_cons _ (.cons_cons _ (.cons_cons _ (List.nil_sublist _))))))⟩
end Go.Proofs.YtmiabahejnjhiaaGreatDoor
namespace Go.Proofs.YtmiabahejnjhiaaGreatDoor
open Go
set_option maxRecDepth 100000
/-- from when on what is doomed now may be swept. -/
def timeF (dl now : Int) : Int := if 9223372036854775807 - dl < now then 9223372036854775807 else if now + dl < 1 then 1 else now + dl
theorem timeF_le {dl now : Int} (_hdl : 0 ≤ dl ∧ dl ≤ 9223372036854775807) (_hnw : 0 ≤ now ∧ now ≤ 9223372036854775807) : 0 ≤ timeF dl now ∧ timeF dl now ≤ 9223372036854775807 := by
  rw [timeF]
  split
  · omega
  · split <;> omega
theorem snapc_ret (w0 : World) (cb wb : Nat) (ws tp : Option Nat) (ser : UInt64) (op : Opr) (x : Sn) (hnum : op.number = x.number) (hO : Own w0 [.blk cb ([.pointer (some ⟨wb, 0, none⟩)]) 71, .blk wb (wrkE (⟨ws, op, tp, ser⟩ : Wrk)) 75]) :
    Ret Tryz.prog 94 [.agg (snE x).toArray, .pointer (some ⟨cb, 0, none⟩)] w0 fun v w' => v = .bool true ∧ Hp w0 w' (keys hO.l) hO.l := by
  refine ret_mk Tryz.func94 rfl Tryz.ntmps94 (by simp) ?_
  have H := hO.start
  refine rG ?_; refine l_op (o_box (v := .agg (snE x).toArray) H rfl (fun b1 w H hb1 => ?_)); replace H : Hp _ w _ ([.blk cb ([.pointer (some ⟨wb, 0, none⟩)]) 71, .blk wb (wrkE (⟨ws, op, tp, ser⟩ : Wrk)) 75, .blk b1 (snE x) 95]) := H
  refine aZ ?_; refine eN ?_
  repeat refine c_seq ?_
  refine c_still mixed (by kernel_rfl) ?_; replace H := H.drew
  refine s_op (r_fa rfl fo95_0) ?_; refine s_op (r_l1 (v := VI x.number) H (i := 2) rfl rfl ct2 (snE_c0 _)) ?_; refine s_op (r_ld H (i := 0) rfl rfl ct71 rfl) ?_; refine s_op (r_nilc rfl) ?_; refine s_op (r_fa rfl fo75_1) ?_; refine s_op (r_fa rfl fo47_3) ?_; refine s_op (r_l1 (v := VI op.number) H (i := 1) rfl rfl ct2 ((wrkE_c1 _).comp (oprE_c3 _))) ?_; refine s_op (r_bin (a := x.number) (b := op.number) rfl rfl (fun _ => b_eqlB true (decide_eq_true hnum.symm))) ?_; refine s_op (r_as) ?_; refine s_nil ?_; refine cR ?_
  refine e_ret1 (v := .bool true) Tryz.results94 rfl ?_
  refine ⟨_, rfl, ?_⟩
  exact ⟨rfl, H.sub (.cons_cons _ (.cons_cons _ (List.nil_sublist _)))⟩
theorem ixf_ret (w0 : World) (cb wb : Nat) (ws tp : Option Nat) (ser : UInt64) (op : Opr) (sa : Option Nat) (sc : Nat) (D : Int) (of : Id32) (hnum : op.number = 1) (hO : Own w0 [.blk cb ([.pointer (some ⟨wb, 0, none⟩)]) 71, .blk wb (wrkE (⟨ws, op, tp, ser⟩ : Wrk)) 75, .own sa 1 sc (([((⟨1, (⟨of, 0, ([] : List UInt8)⟩ : Mf), D⟩ : Sn))]).flatMap snE) 95 36]) :
    Ret Tryz.prog 93 [.slice (hd sa) 1 sc, .func (.func 94) #[] #[.pointer (some ⟨cb, 0, none⟩)]] w0 fun v w' => v = VI 0 ∧ Hp w0 w' (keys hO.l) hO.l := by
  refine ret_mk Tryz.func93 rfl Tryz.ntmps93 (by simp) ?_
  have H := hO.start
  refine rG ?_; refine aZ ?_; refine eN ?_
  refine rG ?_; refine mV ?_; refine lV (r_lens el50 rfl) ?_; refine mV ?_; refine eN ?_
  refine qB ?_; repeat refine c_seq ?_
  refine wp_loop_rounds 2 ?_; refine c_round ?_; refine rG ?_; refine lV (r_bin (a := 0) (b := 1) rfl rfl (fun _ => b_lssB true (decide_eq_true (by decide)))) ?_; refine eN ?_
  refine qY ?_; refine c_skip ?_; refine qB ?_; refine rG ?_; refine mV ?_; refine aZ ?_; refine eN ?_
  refine rG ?_; refine mV ?_; refine mV ?_; refine mV ?_; have ah2 := H.ownAddr (i := 2) rfl oM
  obtain ⟨ab1, ah2⟩ := ah2
  refine lV (r_isN 0 rfl rfl el50 ah2 oM (by (try simp only [Sl.cut]); omega)) ?_; refine lV (r_ldRow (s := (⟨hd sa, 1, sc, [((⟨1, (⟨of, 0, ([] : List UInt8)⟩ : Mf), D⟩ : Sn))]⟩ : Gl Sn)) (k := 0) (H.glOwn (i := 2) rfl (by decide) (fun c _ => snE_len c)) ah2 rfl rt95 (by decide) rfl) ?_; refine l_op (o_callVc (cs := [.pointer (some ⟨cb, 0, none⟩)]) rfl Tryz.func94 rfl rfl rfl (snapc_ret _ _ _ _ _ _ _ _ hnum (H.ownP (.refl _) rfl)) ?_); rintro _ w ⟨rfl, Hc⟩
  replace H := H.callP (.refl _) rfl Hc ((perm_front (j := 1) rfl).trans (.cons _ ((perm_front (j := 1) rfl).trans (.cons _ (.refl _)))))
  clear Hc
  replace H : Hp _ w _ ([.blk cb ([.pointer (some ⟨wb, 0, none⟩)]) 71, .blk wb (wrkE (⟨ws, op, tp, ser⟩ : Wrk)) 75, .own sa 1 sc (([((⟨1, (⟨of, 0, ([] : List UInt8)⟩ : Mf), D⟩ : Sn))]).flatMap snE) 95 36]) := H
  refine eN ?_
  refine qY ?_; refine rG ?_; refine mV ?_; refine aZ ?_; refine eN ?_
  refine cR ?_
  refine e_ret1 (v := VI 0) Tryz.results93 rfl ?_
  refine ⟨_, rfl, ?_⟩
  exact ⟨rfl, H.sub (.cons_cons _ (.cons_cons _ (.cons_cons _ (List.nil_sublist _))))⟩
theorem wtime_ret (w0 : World) (wb nb : Nat) (tp : Option Nat) (ser : UInt64) (op : Opr) (r : Id32) (dl : Int) (sr : UInt64) (tns : Gl Tn) (lg : Gl Ent) (h : Id32) (hb : 0 ≤ dl ∧ dl ≤ 9223372036854775807 ∧ 0 ≤ op.now ∧ op.now ≤ 9223372036854775807) (hO : Own w0 [.blk wb (wrkE (⟨(some nb), op, tp, ser⟩ : Wrk)) 75, .blk nb (staE (⟨r, dl, sr, tns, ⟨none, 0, 0, []⟩, lg, h⟩ : Sta)) 30]) :
    Ret Tryz.prog 96 [.pointer (some ⟨wb, 0, none⟩)] w0 fun v w' => v = VI (timeF dl op.now) ∧ Hp w0 w' (keys hO.l) hO.l := by
  refine ret_mk Tryz.func96 rfl Tryz.ntmps96 (by simp) ?_
  have H := hO.start
  refine rG ?_; refine aZ ?_; refine eN ?_
  repeat refine c_seq ?_
  refine c_still mixed (by kernel_rfl) ?_; replace H := H.drew
  refine s_op (r_mv) ?_; refine s_op (r_nilc rfl) ?_; refine s_op (r_fa rfl fo75_1) ?_; refine s_op (r_fa rfl fo47_8) ?_; refine s_op (r_l1 (v := VI op.now) H (i := 0) rfl rfl ct2 ((wrkE_c1 _).comp (oprE_c8 _))) ?_; refine s_op (r_mv) ?_; refine s_op (r_nilc rfl) ?_; refine s_op (r_fa rfl fo75_0) ?_; refine s_op (r_l1 (v := .pointer (some ⟨nb, 0, none⟩)) H (i := 0) rfl rfl ct72 (wrkE_c0 _)) ?_; refine s_op (r_nilc rfl) ?_; refine s_op (r_fa rfl fo30_1) ?_; refine s_op (r_l1 (v := VI dl) H (i := 1) rfl rfl ct2 (staE_c1 _)) ?_; refine s_op (r_bin (a := 9223372036854775807) (b := dl) rfl rfl (fun _ => b_sub oM oM)) ?_; refine s_op (r_bin (a := op.now) (b := 9223372036854775807 - dl) rfl rfl (fun _ => b_gtr)) ?_; refine s_nil ?_
  by_cases hc1 : 9223372036854775807 - dl < op.now
  ·
   repeat refine c_seq ?_
   refine c_yes (by exact bT hc1) ?_; refine rG ?_; refine aZ ?_; refine eN ?_
   refine cR ?_
   refine e_ret1 (v := VI 9223372036854775807) Tryz.results96 rfl ?_
   refine ⟨_, rfl, ?_⟩
   refine ⟨congrArg VI ?_, H.sub (.cons_cons _ (.cons_cons _ (List.nil_sublist _)))⟩
   unfold timeF
   repeat' split
   all_goals omega
  ·
   repeat refine c_seq ?_
   refine c_no (by exact bF hc1) ?_; refine c_skip ?_; repeat refine c_seq ?_
   refine c_still mixed (by kernel_rfl) ?_; replace H := H.drew
   refine s_op (r_mv) ?_; refine s_op (r_nilc rfl) ?_; refine s_op (r_fa rfl fo75_1) ?_; refine s_op (r_fa rfl fo47_8) ?_; refine s_op (r_l1 (v := VI op.now) H (i := 0) rfl rfl ct2 ((wrkE_c1 _).comp (oprE_c8 _))) ?_; refine s_op (r_mv) ?_; refine s_op (r_nilc rfl) ?_; refine s_op (r_fa rfl fo75_0) ?_; refine s_op (r_l1 (v := .pointer (some ⟨nb, 0, none⟩)) H (i := 0) rfl rfl ct72 (wrkE_c0 _)) ?_; refine s_op (r_nilc rfl) ?_; refine s_op (r_fa rfl fo30_1) ?_; refine s_op (r_l1 (v := VI dl) H (i := 1) rfl rfl ct2 (staE_c1 _)) ?_; refine s_op (r_bin (a := op.now) (b := dl) rfl rfl (fun _ => b_add oM oM)) ?_; refine s_op (r_max rfl rfl) ?_; refine s_op (r_as) ?_; refine s_nil ?_; refine cR ?_
   refine e_ret1 (v := VI (if op.now + dl < 1 then 1 else op.now + dl)) Tryz.results96 rfl ?_
   refine ⟨_, rfl, ?_⟩
   refine ⟨congrArg VI ?_, H.sub (.cons_cons _ (.cons_cons _ (List.nil_sublist _)))⟩
   unfold timeF
   repeat' split
   all_goals omega
theorem doom_ret (w0 : World) (wb nb tb tc : Nat) (r : Id32) (dl : Int) (h : Id32) (lg : Gl Ent) (ser : UInt64) (key of of0 : Id32) (b s : Sl) (ba : Option Nat) (bc : Nat) (da : Option Nat) (dc : Nat) (sa : Option Nat) (sc : Nat) (now : Int) (hdl : 0 ≤ dl ∧ dl ≤ 9223372036854775807) (hnw : 0 ≤ now ∧ now ≤ 9223372036854775807) (ht : Tab w0) (hK : ∀ g, Tryz.prog.globalNamed "internal/strconv.uint64pow10" = some g → g ∉ keys [.blk wb (wrkE (⟨(some nb), (⟨7, ([97] : List UInt8), of0, 1, 0, (0 : UInt8), b, s, now, zId⟩ : Opr), (some tb), ser⟩ : Wrk)) 75, .blk nb (staE (⟨r, dl, (0 : UInt64), ⟨hd (some tb), 1, tc, [((⟨([97] : List UInt8), key, 1000, 2, ⟨hd ba, 1, bc, [((⟨of, ⟨hd da, 3, dc, [68, 49, 0]⟩⟩ : Bl))]⟩, ⟨hd sa, 1, sc, [((⟨1, (⟨of, 0, ([] : List UInt8)⟩ : Mf), 0⟩ : Sn))]⟩, ⟨none, 0, 0, []⟩⟩ : Tn))]⟩, ⟨none, 0, 0, []⟩, lg, h⟩ : Sta)) 30, .own (some tb) 1 tc (([((⟨([97] : List UInt8), key, 1000, 2, ⟨hd ba, 1, bc, [((⟨of, ⟨hd da, 3, dc, [68, 49, 0]⟩⟩ : Bl))]⟩, ⟨hd sa, 1, sc, [((⟨1, (⟨of, 0, ([] : List UInt8)⟩ : Mf), 0⟩ : Sn))]⟩, ⟨none, 0, 0, []⟩⟩ : Tn))]).flatMap tnE) 53 38, .own ba 1 bc (([((⟨of, ⟨hd da, 3, dc, [68, 49, 0]⟩⟩ : Bl))]).flatMap blE) 92 33, .own da 3 dc (([68, 49, 0]).map V8) 5 1, .own sa 1 sc (([((⟨1, (⟨of, 0, ([] : List UInt8)⟩ : Mf), 0⟩ : Sn))]).flatMap snE) 95 36]) (hO : Own w0 [.blk wb (wrkE (⟨(some nb), (⟨7, ([97] : List UInt8), of0, 1, 0, (0 : UInt8), b, s, now, zId⟩ : Opr), (some tb), ser⟩ : Wrk)) 75, .blk nb (staE (⟨r, dl, (0 : UInt64), ⟨hd (some tb), 1, tc, [((⟨([97] : List UInt8), key, 1000, 2, ⟨hd ba, 1, bc, [((⟨of, ⟨hd da, 3, dc, [68, 49, 0]⟩⟩ : Bl))]⟩, ⟨hd sa, 1, sc, [((⟨1, (⟨of, 0, ([] : List UInt8)⟩ : Mf), 0⟩ : Sn))]⟩, ⟨none, 0, 0, []⟩⟩ : Tn))]⟩, ⟨none, 0, 0, []⟩, lg, h⟩ : Sta)) 30, .own (some tb) 1 tc (([((⟨([97] : List UInt8), key, 1000, 2, ⟨hd ba, 1, bc, [((⟨of, ⟨hd da, 3, dc, [68, 49, 0]⟩⟩ : Bl))]⟩, ⟨hd sa, 1, sc, [((⟨1, (⟨of, 0, ([] : List UInt8)⟩ : Mf), 0⟩ : Sn))]⟩, ⟨none, 0, 0, []⟩⟩ : Tn))]).flatMap tnE) 53 38, .own ba 1 bc (([((⟨of, ⟨hd da, 3, dc, [68, 49, 0]⟩⟩ : Bl))]).flatMap blE) 92 33, .own da 3 dc (([68, 49, 0]).map V8) 5 1, .own sa 1 sc (([((⟨1, (⟨of, 0, ([] : List UInt8)⟩ : Mf), 0⟩ : Sn))]).flatMap snE) 95 36]) :
    Ret Tryz.prog 55 [.pointer (some ⟨wb, 0, none⟩)] w0 fun v w' => ∃ bd : Sl, v = .agg (ansE (⟨200, bd⟩ : Ans)).toArray ∧ Hp w0 w' (keys hO.l) [.blk wb (wrkE (⟨(some nb), (⟨7, ([97] : List UInt8), of0, 1, 0, (0 : UInt8), b, s, now, zId⟩ : Opr), (some tb), ser⟩ : Wrk)) 75, .blk nb (staE (⟨r, dl, (0 : UInt64), ⟨hd (some tb), 1, tc, [((⟨([97] : List UInt8), key, 1000, 2, ⟨hd ba, 1, bc, [((⟨of, ⟨hd da, 3, dc, [68, 49, 0]⟩⟩ : Bl))]⟩, ⟨hd sa, 1, sc, [((⟨1, (⟨of, 0, ([] : List UInt8)⟩ : Mf), (timeF dl now)⟩ : Sn))]⟩, ⟨none, 0, 0, []⟩⟩ : Tn))]⟩, ⟨none, 0, 0, []⟩, lg, h⟩ : Sta)) 30, .own (some tb) 1 tc (([((⟨([97] : List UInt8), key, 1000, 2, ⟨hd ba, 1, bc, [((⟨of, ⟨hd da, 3, dc, [68, 49, 0]⟩⟩ : Bl))]⟩, ⟨hd sa, 1, sc, [((⟨1, (⟨of, 0, ([] : List UInt8)⟩ : Mf), (timeF dl now)⟩ : Sn))]⟩, ⟨none, 0, 0, []⟩⟩ : Tn))]).flatMap tnE) 53 38, .own ba 1 bc (([((⟨of, ⟨hd da, 3, dc, [68, 49, 0]⟩⟩ : Bl))]).flatMap blE) 92 33, .own da 3 dc (([68, 49, 0]).map V8) 5 1, .own sa 1 sc (([((⟨1, (⟨of, 0, ([] : List UInt8)⟩ : Mf), (timeF dl now)⟩ : Sn))]).flatMap snE) 95 36] := by
  refine ret_mk Tryz.func55 rfl Tryz.ntmps55 (by simp) ?_
  have H := hO.start
  refine rG ?_; refine l_op (o_box (v := .pointer (some ⟨wb, 0, none⟩)) H rfl (fun b1 w H hb1 => ?_)); replace H : Hp _ w _ ([.blk wb (wrkE (⟨(some nb), (⟨7, ([97] : List UInt8), of0, 1, 0, (0 : UInt8), b, s, now, zId⟩ : Opr), (some tb), ser⟩ : Wrk)) 75, .blk nb (staE (⟨r, dl, (0 : UInt64), ⟨hd (some tb), 1, tc, [((⟨([97] : List UInt8), key, 1000, 2, ⟨hd ba, 1, bc, [((⟨of, ⟨hd da, 3, dc, [68, 49, 0]⟩⟩ : Bl))]⟩, ⟨hd sa, 1, sc, [((⟨1, (⟨of, 0, ([] : List UInt8)⟩ : Mf), 0⟩ : Sn))]⟩, ⟨none, 0, 0, []⟩⟩ : Tn))]⟩, ⟨none, 0, 0, []⟩, lg, h⟩ : Sta)) 30, .own (some tb) 1 tc (([((⟨([97] : List UInt8), key, 1000, 2, ⟨hd ba, 1, bc, [((⟨of, ⟨hd da, 3, dc, [68, 49, 0]⟩⟩ : Bl))]⟩, ⟨hd sa, 1, sc, [((⟨1, (⟨of, 0, ([] : List UInt8)⟩ : Mf), 0⟩ : Sn))]⟩, ⟨none, 0, 0, []⟩⟩ : Tn))]).flatMap tnE) 53 38, .own ba 1 bc (([((⟨of, ⟨hd da, 3, dc, [68, 49, 0]⟩⟩ : Bl))]).flatMap blE) 92 33, .own da 3 dc (([68, 49, 0]).map V8) 5 1, .own sa 1 sc (([((⟨1, (⟨of, 0, ([] : List UInt8)⟩ : Mf), 0⟩ : Sn))]).flatMap snE) 95 36, .blk b1 ([.pointer (some ⟨wb, 0, none⟩)]) 71]) := H
  refine l_op (o_alloc H zc43 (fun b2 w H hb2 => ?_)); replace H : Hp _ w _ ([_, _, _, _, _, _, _, .blk b2 (ansE (⟨0, ⟨none, 0, 0, []⟩⟩ : Ans)) 43]) := H
  refine eN ?_
  refine rG ?_; refine lV (r_ld H (i := 6) rfl rfl ct71 rfl) ?_; refine lV (r_nilc rfl) ?_; refine lV (r_fa rfl fo75_2) ?_; refine lV (r_l1 (v := .pointer (some ⟨tb, 0, none⟩)) H (i := 0) rfl rfl ct73 (wrkE_c2 _)) ?_; refine lV (r_nilc rfl) ?_; refine lV (r_fa rfl fo53_5) ?_; refine lV (r_g1 (v := .slice (hd sa) 1 sc) (s := (⟨hd (some tb), 1, tc, [((⟨([97] : List UInt8), key, 1000, 2, ⟨hd ba, 1, bc, [((⟨of, ⟨hd da, 3, dc, [68, 49, 0]⟩⟩ : Bl))]⟩, ⟨hd sa, 1, sc, [((⟨1, (⟨of, 0, ([] : List UInt8)⟩ : Mf), 0⟩ : Sn))]⟩, ⟨none, 0, 0, []⟩⟩ : Tn))]⟩ : Gl Tn)) (j := 0) (H.glOwn (i := 2) rfl (by decide) (fun c _ => tnE_len c)) rfl rfl ct50 rfl (by decide) (tnE_c5 _)) ?_; refine lV (r_mkfn (vs := [.pointer (some ⟨b1, 0, none⟩)]) rfl) ?_; refine l_op (o_callR Tryz.func93 rfl rfl rfl (ixf_ret _ _ _ _ _ _ _ _ _ _ _ rfl (H.ownP ((perm_front (j := 6) rfl).trans (.cons _ ((perm_front (j := 0) rfl).trans (.cons _ ((perm_front (j := 4) rfl).trans (.cons _ (.refl _))))))) rfl)) ?_); rintro _ w ⟨rfl, Hc⟩
  replace H := H.callP ((perm_front (j := 6) rfl).trans (.cons _ ((perm_front (j := 0) rfl).trans (.cons _ ((perm_front (j := 4) rfl).trans (.cons _ (.refl _))))))) rfl Hc ((perm_front (j := 6) rfl).trans (.cons _ ((perm_front (j := 0) rfl).trans (.cons _ ((perm_front (j := 0) rfl).trans (.cons _ ((perm_front (j := 0) rfl).trans (.cons _ ((perm_front (j := 0) rfl).trans (.cons _ ((perm_front (j := 2) rfl).trans (.cons _ ((perm_front (j := 1) rfl).trans (.cons _ (.refl _)))))))))))))))
  clear Hc
  replace H : Hp _ w _ [_, _, _, _, _, _, _, _] := H
  refine aZ ?_; refine eN ?_
  refine rG ?_; refine mV ?_; refine lV (r_bin (a := 0) (b := 0) rfl rfl (fun _ => b_lssB false (decide_eq_false (by decide)))) ?_; refine eN ?_
  refine qN ?_; refine c_skip ?_; refine rG ?_; refine lV (r_ld H (i := 6) rfl rfl ct71 rfl) ?_; refine lV (r_nilc rfl) ?_; refine lV (r_fa rfl fo75_2) ?_; refine lV (r_l1 (v := .pointer (some ⟨tb, 0, none⟩)) H (i := 0) rfl rfl ct73 (wrkE_c2 _)) ?_; refine lV (r_nilc rfl) ?_; refine lV (r_fa rfl fo53_5) ?_; refine lV (r_g1 (v := .slice (hd sa) 1 sc) (s := (⟨hd (some tb), 1, tc, [((⟨([97] : List UInt8), key, 1000, 2, ⟨hd ba, 1, bc, [((⟨of, ⟨hd da, 3, dc, [68, 49, 0]⟩⟩ : Bl))]⟩, ⟨hd sa, 1, sc, [((⟨1, (⟨of, 0, ([] : List UInt8)⟩ : Mf), 0⟩ : Sn))]⟩, ⟨none, 0, 0, []⟩⟩ : Tn))]⟩ : Gl Tn)) (j := 0) (H.glOwn (i := 2) rfl (by decide) (fun c _ => tnE_len c)) rfl rfl ct50 rfl (by decide) (tnE_c5 _)) ?_; refine mV ?_; have ah10 := H.ownAddr (i := 5) rfl oM
  obtain ⟨ab9, ah10⟩ := ah10
  refine lV (r_isN 0 rfl rfl el50 ah10 oM (by (try simp only [Sl.cut]); omega)) ?_; refine aZ ?_; refine eN ?_
  refine rG ?_; refine lV (r_ld H (i := 6) rfl rfl ct71 rfl) ?_; refine lV (r_nilc rfl) ?_; refine lV (r_fa rfl fo75_1) ?_; refine lV (r_fa rfl fo47_0) ?_; refine lV (r_l1 (v := VI 7) H (i := 0) rfl rfl ct3 ((wrkE_c1 _).comp (oprE_c0 _))) ?_; refine eN ?_
  refine qB ?_; refine rG ?_; refine lV (r_bin (a := 7) (b := 5) rfl rfl (fun _ => b_eqlB false (decide_eq_false (by decide)))) ?_; refine aZ ?_; refine eN ?_
  refine qN ?_; refine rG ?_; refine lV (r_bin (a := 7) (b := 7) rfl rfl (fun _ => b_eqlB true (decide_eq_true (by decide)))) ?_; refine aZ ?_; refine eN ?_
  refine qY ?_; refine rG ?_; refine mV ?_; refine lV (r_nilc rfl) ?_; refine lV (r_fa rfl fo95_2) ?_; refine lV (r_g1 (v := VI 0) (s := (⟨hd sa, 1, sc, [((⟨1, (⟨of, 0, ([] : List UInt8)⟩ : Mf), 0⟩ : Sn))]⟩ : Gl Sn)) (j := 0) (H.glOwn (i := 5) rfl (by decide) (fun c _ => snE_len c)) ah10 rfl ct2 rfl (by decide) (snE_c2 _)) ?_; refine lV (r_bin (a := 0) (b := 0) rfl rfl (fun _ => b_eqlB true (decide_eq_true (by decide)))) ?_; refine eN ?_
  refine qY ?_; refine rG ?_; refine mV ?_; refine lV (r_ld H (i := 6) rfl rfl ct71 rfl) ?_; refine l_op (o_callR Tryz.func96 rfl rfl rfl (wtime_ret _ _ _ _ _ _ _ _ _ _ _ _ ⟨hdl.1, hdl.2, hnw.1, hnw.2⟩ (H.ownP (.refl _) rfl)) ?_); rintro _ w ⟨rfl, Hc⟩
  replace H := H.callP (.refl _) rfl Hc ((perm_front (j := 6) rfl).trans (.cons _ ((perm_front (j := 6) rfl).trans (.cons _ (.refl _)))))
  clear Hc
  replace H : Hp _ w _ [_, _, _, _, _, _, _, _] := H
  refine lV (r_nilc rfl) ?_; refine lV (r_fa rfl fo95_2) ?_; refine l_op (o_stGVP (enc := snE) (c' := ((⟨1, (⟨of, 0, ([] : List UInt8)⟩ : Mf), timeF dl now⟩ : Sn))) (V := ([VI (timeF dl now)] : List Value)) (k := 0) H (i := 5) rfl (fun c _ => snE_len c) rfl ah10 rfl (by rfl) cs2 (by simp [Value.oneCell']) (show [((⟨1, (⟨of, 0, ([] : List UInt8)⟩ : Mf), 0⟩ : Sn))][0]? = some ((⟨1, (⟨of, 0, ([] : List UInt8)⟩ : Mf), 0⟩ : Sn)) from rfl) (snE_p2 _ (timeF dl now)) (fun w H => ?_)); replace H : Hp _ w _ ([_, .blk nb (staE (⟨r, dl, (0 : UInt64), ⟨hd (some tb), 1, tc, [((⟨([97] : List UInt8), key, 1000, 2, ⟨hd ba, 1, bc, [((⟨of, ⟨hd da, 3, dc, [68, 49, 0]⟩⟩ : Bl))]⟩, ⟨hd sa, 1, sc, [((⟨1, (⟨of, 0, ([] : List UInt8)⟩ : Mf), timeF dl now⟩ : Sn))]⟩, ⟨none, 0, 0, []⟩⟩ : Tn))]⟩, ⟨none, 0, 0, []⟩, lg, h⟩ : Sta)) 30, .own (some tb) 1 tc (([((⟨([97] : List UInt8), key, 1000, 2, ⟨hd ba, 1, bc, [((⟨of, ⟨hd da, 3, dc, [68, 49, 0]⟩⟩ : Bl))]⟩, ⟨hd sa, 1, sc, [((⟨1, (⟨of, 0, ([] : List UInt8)⟩ : Mf), timeF dl now⟩ : Sn))]⟩, ⟨none, 0, 0, []⟩⟩ : Tn))]).flatMap tnE) 53 38, _, _, .own sa 1 sc (([((⟨1, (⟨of, 0, ([] : List UInt8)⟩ : Mf), timeF dl now⟩ : Sn))]).flatMap snE) 95 36, _, _]) := H
  refine eN ?_
  refine rG ?_; refine mV ?_; refine lV (r_nilc rfl) ?_; refine lV (r_fa rfl fo95_2) ?_; refine lV (r_g1 (v := VI (timeF dl now)) (s := (⟨hd sa, 1, sc, [((⟨1, (⟨of, 0, ([] : List UInt8)⟩ : Mf), timeF dl now⟩ : Sn))]⟩ : Gl Sn)) (j := 0) (H.glOwn (i := 5) rfl (by decide) (fun c _ => snE_len c)) ah10 rfl ct2 rfl (by decide) (snE_c2 _)) ?_; refine l_op (o_callR Tryz.func91 rfl rfl rfl (numb_ret _ (200) (timeF dl now) (timeF_le hdl hnw).1 (timeF_le hdl hnw).2 (ht.up H fun g hg => hK g hg)) ?_); rintro _ w ⟨bd17, rfl, Hc⟩
  replace H : Hp _ w _ ([_, _, _, _, _, _, _, _]) := H.call Hc
  clear Hc
  refine l_op (o_stW (C' := ansE (⟨200, bd17⟩ : Ans)) H (i := 7) rfl rfl rfl cs43 (ansE_all _) (ansE_len _) (ansE_len _) (fun w H => ?_)); replace H : Hp _ w _ ([_, _, _, _, _, _, _, .blk b2 (ansE (⟨200, bd17⟩ : Ans)) 43]) := H
  refine eN ?_
  refine cR ?_
  refine e_retc Tryz.results55 H (i := 7) rfl rfl rt43 (ansE_len _).symm ?_
  refine ⟨_, rfl, ?_⟩
  exact ⟨_, rfl, (H.permL (.refl _)).sub (.cons_cons _ (.cons_cons _ (.cons_cons _ (.cons_cons _ (.cons_cons _ (.cons_cons _ (List.nil_sublist _)))))))⟩
theorem spare_ret (w0 : World) (wb nb tb tc : Nat) (r : Id32) (dl : Int) (h : Id32) (lg : Gl Ent) (ser : UInt64) (key of of0 : Id32) (b s : Sl) (ba : Option Nat) (bc : Nat) (da : Option Nat) (dc : Nat) (sa : Option Nat) (sc : Nat) (now D : Int) (hO : Own w0 [.blk wb (wrkE (⟨(some nb), (⟨8, ([97] : List UInt8), of0, 1, 0, (0 : UInt8), b, s, now, zId⟩ : Opr), (some tb), ser⟩ : Wrk)) 75, .blk nb (staE (⟨r, dl, (0 : UInt64), ⟨hd (some tb), 1, tc, [((⟨([97] : List UInt8), key, 1000, 2, ⟨hd ba, 1, bc, [((⟨of, ⟨hd da, 3, dc, [68, 49, 0]⟩⟩ : Bl))]⟩, ⟨hd sa, 1, sc, [((⟨1, (⟨of, 0, ([] : List UInt8)⟩ : Mf), D⟩ : Sn))]⟩, ⟨none, 0, 0, []⟩⟩ : Tn))]⟩, ⟨none, 0, 0, []⟩, lg, h⟩ : Sta)) 30, .own (some tb) 1 tc (([((⟨([97] : List UInt8), key, 1000, 2, ⟨hd ba, 1, bc, [((⟨of, ⟨hd da, 3, dc, [68, 49, 0]⟩⟩ : Bl))]⟩, ⟨hd sa, 1, sc, [((⟨1, (⟨of, 0, ([] : List UInt8)⟩ : Mf), D⟩ : Sn))]⟩, ⟨none, 0, 0, []⟩⟩ : Tn))]).flatMap tnE) 53 38, .own ba 1 bc (([((⟨of, ⟨hd da, 3, dc, [68, 49, 0]⟩⟩ : Bl))]).flatMap blE) 92 33, .own da 3 dc (([68, 49, 0]).map V8) 5 1, .own sa 1 sc (([((⟨1, (⟨of, 0, ([] : List UInt8)⟩ : Mf), D⟩ : Sn))]).flatMap snE) 95 36]) :
    Ret Tryz.prog 55 [.pointer (some ⟨wb, 0, none⟩)] w0 fun v w' => ∃ _ : Unit, v = .agg (ansE (⟨200, ⟨none, 0, 0, []⟩⟩ : Ans)).toArray ∧ Hp w0 w' (keys hO.l) [.blk wb (wrkE (⟨(some nb), (⟨8, ([97] : List UInt8), of0, 1, 0, (0 : UInt8), b, s, now, zId⟩ : Opr), (some tb), ser⟩ : Wrk)) 75, .blk nb (staE (⟨r, dl, (0 : UInt64), ⟨hd (some tb), 1, tc, [((⟨([97] : List UInt8), key, 1000, 2, ⟨hd ba, 1, bc, [((⟨of, ⟨hd da, 3, dc, [68, 49, 0]⟩⟩ : Bl))]⟩, ⟨hd sa, 1, sc, [((⟨1, (⟨of, 0, ([] : List UInt8)⟩ : Mf), 0⟩ : Sn))]⟩, ⟨none, 0, 0, []⟩⟩ : Tn))]⟩, ⟨none, 0, 0, []⟩, lg, h⟩ : Sta)) 30, .own (some tb) 1 tc (([((⟨([97] : List UInt8), key, 1000, 2, ⟨hd ba, 1, bc, [((⟨of, ⟨hd da, 3, dc, [68, 49, 0]⟩⟩ : Bl))]⟩, ⟨hd sa, 1, sc, [((⟨1, (⟨of, 0, ([] : List UInt8)⟩ : Mf), 0⟩ : Sn))]⟩, ⟨none, 0, 0, []⟩⟩ : Tn))]).flatMap tnE) 53 38, .own ba 1 bc (([((⟨of, ⟨hd da, 3, dc, [68, 49, 0]⟩⟩ : Bl))]).flatMap blE) 92 33, .own da 3 dc (([68, 49, 0]).map V8) 5 1, .own sa 1 sc (([((⟨1, (⟨of, 0, ([] : List UInt8)⟩ : Mf), 0⟩ : Sn))]).flatMap snE) 95 36] := by
  refine ret_mk Tryz.func55 rfl Tryz.ntmps55 (by simp) ?_
  have H := hO.start
  refine rG ?_; refine l_op (o_box (v := .pointer (some ⟨wb, 0, none⟩)) H rfl (fun b1 w H hb1 => ?_)); replace H : Hp _ w _ ([.blk wb (wrkE (⟨(some nb), (⟨8, ([97] : List UInt8), of0, 1, 0, (0 : UInt8), b, s, now, zId⟩ : Opr), (some tb), ser⟩ : Wrk)) 75, .blk nb (staE (⟨r, dl, (0 : UInt64), ⟨hd (some tb), 1, tc, [((⟨([97] : List UInt8), key, 1000, 2, ⟨hd ba, 1, bc, [((⟨of, ⟨hd da, 3, dc, [68, 49, 0]⟩⟩ : Bl))]⟩, ⟨hd sa, 1, sc, [((⟨1, (⟨of, 0, ([] : List UInt8)⟩ : Mf), D⟩ : Sn))]⟩, ⟨none, 0, 0, []⟩⟩ : Tn))]⟩, ⟨none, 0, 0, []⟩, lg, h⟩ : Sta)) 30, .own (some tb) 1 tc (([((⟨([97] : List UInt8), key, 1000, 2, ⟨hd ba, 1, bc, [((⟨of, ⟨hd da, 3, dc, [68, 49, 0]⟩⟩ : Bl))]⟩, ⟨hd sa, 1, sc, [((⟨1, (⟨of, 0, ([] : List UInt8)⟩ : Mf), D⟩ : Sn))]⟩, ⟨none, 0, 0, []⟩⟩ : Tn))]).flatMap tnE) 53 38, .own ba 1 bc (([((⟨of, ⟨hd da, 3, dc, [68, 49, 0]⟩⟩ : Bl))]).flatMap blE) 92 33, .own da 3 dc (([68, 49, 0]).map V8) 5 1, .own sa 1 sc (([((⟨1, (⟨of, 0, ([] : List UInt8)⟩ : Mf), D⟩ : Sn))]).flatMap snE) 95 36, .blk b1 ([.pointer (some ⟨wb, 0, none⟩)]) 71]) := H
  refine l_op (o_alloc H zc43 (fun b2 w H hb2 => ?_)); replace H : Hp _ w _ ([_, _, _, _, _, _, _, .blk b2 (ansE (⟨0, ⟨none, 0, 0, []⟩⟩ : Ans)) 43]) := H
  refine eN ?_
  refine rG ?_; refine lV (r_ld H (i := 6) rfl rfl ct71 rfl) ?_; refine lV (r_nilc rfl) ?_; refine lV (r_fa rfl fo75_2) ?_; refine lV (r_l1 (v := .pointer (some ⟨tb, 0, none⟩)) H (i := 0) rfl rfl ct73 (wrkE_c2 _)) ?_; refine lV (r_nilc rfl) ?_; refine lV (r_fa rfl fo53_5) ?_; refine lV (r_g1 (v := .slice (hd sa) 1 sc) (s := (⟨hd (some tb), 1, tc, [((⟨([97] : List UInt8), key, 1000, 2, ⟨hd ba, 1, bc, [((⟨of, ⟨hd da, 3, dc, [68, 49, 0]⟩⟩ : Bl))]⟩, ⟨hd sa, 1, sc, [((⟨1, (⟨of, 0, ([] : List UInt8)⟩ : Mf), D⟩ : Sn))]⟩, ⟨none, 0, 0, []⟩⟩ : Tn))]⟩ : Gl Tn)) (j := 0) (H.glOwn (i := 2) rfl (by decide) (fun c _ => tnE_len c)) rfl rfl ct50 rfl (by decide) (tnE_c5 _)) ?_; refine lV (r_mkfn (vs := [.pointer (some ⟨b1, 0, none⟩)]) rfl) ?_; refine l_op (o_callR Tryz.func93 rfl rfl rfl (ixf_ret _ _ _ _ _ _ _ _ _ _ _ rfl (H.ownP ((perm_front (j := 6) rfl).trans (.cons _ ((perm_front (j := 0) rfl).trans (.cons _ ((perm_front (j := 4) rfl).trans (.cons _ (.refl _))))))) rfl)) ?_); rintro _ w ⟨rfl, Hc⟩
  replace H := H.callP ((perm_front (j := 6) rfl).trans (.cons _ ((perm_front (j := 0) rfl).trans (.cons _ ((perm_front (j := 4) rfl).trans (.cons _ (.refl _))))))) rfl Hc ((perm_front (j := 6) rfl).trans (.cons _ ((perm_front (j := 0) rfl).trans (.cons _ ((perm_front (j := 0) rfl).trans (.cons _ ((perm_front (j := 0) rfl).trans (.cons _ ((perm_front (j := 0) rfl).trans (.cons _ ((perm_front (j := 2) rfl).trans (.cons _ ((perm_front (j := 1) rfl).trans (.cons _ (.refl _)))))))))))))))
  clear Hc
  replace H : Hp _ w _ [_, _, _, _, _, _, _, _] := H
  refine aZ ?_; refine eN ?_
  refine rG ?_; refine mV ?_; refine lV (r_bin (a := 0) (b := 0) rfl rfl (fun _ => b_lssB false (decide_eq_false (by decide)))) ?_; refine eN ?_
  refine qN ?_; refine c_skip ?_; refine rG ?_; refine lV (r_ld H (i := 6) rfl rfl ct71 rfl) ?_; refine lV (r_nilc rfl) ?_; refine lV (r_fa rfl fo75_2) ?_; refine lV (r_l1 (v := .pointer (some ⟨tb, 0, none⟩)) H (i := 0) rfl rfl ct73 (wrkE_c2 _)) ?_; refine lV (r_nilc rfl) ?_; refine lV (r_fa rfl fo53_5) ?_; refine lV (r_g1 (v := .slice (hd sa) 1 sc) (s := (⟨hd (some tb), 1, tc, [((⟨([97] : List UInt8), key, 1000, 2, ⟨hd ba, 1, bc, [((⟨of, ⟨hd da, 3, dc, [68, 49, 0]⟩⟩ : Bl))]⟩, ⟨hd sa, 1, sc, [((⟨1, (⟨of, 0, ([] : List UInt8)⟩ : Mf), D⟩ : Sn))]⟩, ⟨none, 0, 0, []⟩⟩ : Tn))]⟩ : Gl Tn)) (j := 0) (H.glOwn (i := 2) rfl (by decide) (fun c _ => tnE_len c)) rfl rfl ct50 rfl (by decide) (tnE_c5 _)) ?_; refine mV ?_; have ah10 := H.ownAddr (i := 5) rfl oM
  obtain ⟨ab9, ah10⟩ := ah10
  refine lV (r_isN 0 rfl rfl el50 ah10 oM (by (try simp only [Sl.cut]); omega)) ?_; refine aZ ?_; refine eN ?_
  refine rG ?_; refine lV (r_ld H (i := 6) rfl rfl ct71 rfl) ?_; refine lV (r_nilc rfl) ?_; refine lV (r_fa rfl fo75_1) ?_; refine lV (r_fa rfl fo47_0) ?_; refine lV (r_l1 (v := VI 8) H (i := 0) rfl rfl ct3 ((wrkE_c1 _).comp (oprE_c0 _))) ?_; refine eN ?_
  refine qB ?_; refine rG ?_; refine lV (r_bin (a := 8) (b := 5) rfl rfl (fun _ => b_eqlB false (decide_eq_false (by decide)))) ?_; refine aZ ?_; refine eN ?_
  refine qN ?_; refine rG ?_; refine lV (r_bin (a := 8) (b := 7) rfl rfl (fun _ => b_eqlB false (decide_eq_false (by decide)))) ?_; refine aZ ?_; refine eN ?_
  refine qN ?_; refine rG ?_; refine lV (r_bin (a := 8) (b := 8) rfl rfl (fun _ => b_eqlB true (decide_eq_true (by decide)))) ?_; refine aZ ?_; refine eN ?_
  refine qY ?_; refine rG ?_; refine mV ?_; refine lV (r_nilc rfl) ?_; refine lV (r_fa rfl fo95_2) ?_; refine l_op (o_stGVP (enc := snE) (c' := ((⟨1, (⟨of, 0, ([] : List UInt8)⟩ : Mf), 0⟩ : Sn))) (V := ([VI 0] : List Value)) (k := 0) H (i := 5) rfl (fun c _ => snE_len c) rfl ah10 rfl (by rfl) cs2 (by simp [Value.oneCell']) (show [((⟨1, (⟨of, 0, ([] : List UInt8)⟩ : Mf), D⟩ : Sn))][0]? = some ((⟨1, (⟨of, 0, ([] : List UInt8)⟩ : Mf), D⟩ : Sn)) from rfl) (snE_p2 _ 0) (fun w H => ?_)); replace H : Hp _ w _ ([_, .blk nb (staE (⟨r, dl, (0 : UInt64), ⟨hd (some tb), 1, tc, [((⟨([97] : List UInt8), key, 1000, 2, ⟨hd ba, 1, bc, [((⟨of, ⟨hd da, 3, dc, [68, 49, 0]⟩⟩ : Bl))]⟩, ⟨hd sa, 1, sc, [((⟨1, (⟨of, 0, ([] : List UInt8)⟩ : Mf), 0⟩ : Sn))]⟩, ⟨none, 0, 0, []⟩⟩ : Tn))]⟩, ⟨none, 0, 0, []⟩, lg, h⟩ : Sta)) 30, .own (some tb) 1 tc (([((⟨([97] : List UInt8), key, 1000, 2, ⟨hd ba, 1, bc, [((⟨of, ⟨hd da, 3, dc, [68, 49, 0]⟩⟩ : Bl))]⟩, ⟨hd sa, 1, sc, [((⟨1, (⟨of, 0, ([] : List UInt8)⟩ : Mf), 0⟩ : Sn))]⟩, ⟨none, 0, 0, []⟩⟩ : Tn))]).flatMap tnE) 53 38, _, _, .own sa 1 sc (([((⟨1, (⟨of, 0, ([] : List UInt8)⟩ : Mf), 0⟩ : Sn))]).flatMap snE) 95 36, _, _]) := H
  refine eN ?_
  refine rG ?_; refine l_op (o_callR Tryz.func18 rfl rfl rfl (only_ret _ (200)) ?_); rintro _ w ⟨rfl, Hc⟩
  replace H : Hp _ w _ ([_, _, _, _, _, _, _, _]) := H.call Hc
  clear Hc
  refine l_op (o_stW (C' := ansE (⟨200, ⟨none, 0, 0, []⟩⟩ : Ans)) H (i := 7) rfl rfl rfl cs43 (ansE_all _) (ansE_len _) (ansE_len _) (fun w H => ?_)); replace H : Hp _ w _ ([_, _, _, _, _, _, _, .blk b2 (ansE (⟨200, ⟨none, 0, 0, []⟩⟩ : Ans)) 43]) := H
  refine eN ?_
  refine cR ?_
  refine e_retc Tryz.results55 H (i := 7) rfl rfl rt43 (ansE_len _).symm ?_
  refine ⟨_, rfl, ?_⟩
  exact ⟨(), rfl, (H.permL (.refl _)).sub (.cons_cons _ (.cons_cons _ (.cons_cons _ (.cons_cons _ (.cons_cons _ (.cons_cons _ (List.nil_sublist _)))))))⟩
end Go.Proofs.YtmiabahejnjhiaaGreatDoor
namespace Go.Proofs.YtmiabahejnjhiaaGreatDoor
open Go
set_option maxRecDepth 100000
structure RO where
  data : Sl
  hit : Bool
def rOE (x : RO) : List Value := ([x.data.v, .bool x.hit] : List Value)
theorem rOE_len (x : RO) : (rOE x).length = 2 := by
  show (([x.data.v, .bool x.hit] : List Value)).length = 2
  exact (by rfl)
theorem rOE_all (x : RO) : (rOE x).all (·.oneCell') = true := by
  show (([x.data.v, .bool x.hit] : List Value)).all (·.oneCell') = true
  simp only [List.all_cons, List.all_nil]; simp [Value.oneCell', Sl.v]
theorem rOE_c0 (x : RO) : Cut3 (rOE x) (([] : List Value)) (([x.data.v] : List Value)) (([.bool x.hit] : List Value)) 0 1 :=
  ⟨by simp only [rOE, List.cons_append, List.nil_append], (by rfl), (by rfl)⟩
theorem rOE_p0 (x : RO) (v : Sl) : Put3 (rOE x) (rOE ⟨v, x.hit⟩) (([x.data.v] : List Value)) (([v.v] : List Value)) 0 1 :=
  .of (rOE_c0 x) (by simp only [rOE, List.cons_append, List.nil_append]) (by rfl)
theorem rOE_c1 (x : RO) : Cut3 (rOE x) (([x.data.v] : List Value)) (([.bool x.hit] : List Value)) (([] : List Value)) 1 1 :=
  ⟨by simp only [rOE, List.cons_append, List.nil_append, List.append_nil], (by rfl), (by rfl)⟩
theorem rOE_p1 (x : RO) (v : Bool) : Put3 (rOE x) (rOE ⟨x.data, v⟩) (([.bool x.hit] : List Value)) (([.bool v] : List Value)) 1 1 :=
  .of (rOE_c1 x) (by simp only [rOE, List.cons_append, List.nil_append, List.append_nil]) (by rfl)
def rOV (v : RO) : Value := .agg (rOE v).toArray
def roz : RO := ⟨⟨none, 0, 0, []⟩, false⟩
theorem zv_ro (w : World) : (zeroValue 229).run Tryz.prog w = .ok (rOV roz) w := by
  have h : (Tryz.prog.info? 229).map (·.zero) = some (some (rOV roz)) := by kernel_rfl
  cases hi : Tryz.prog.info? 229 with
  | none => rw [hi] at h; cases h
  | some i =>
    rw [hi] at h
    have hz : i.zero = some (rOV roz) := by simpa using h
    rw [zeroValue]
    simp [typeInfo, hi, hz]
theorem val_eq {P : Program} {n : Nat} {σ : Nat → Value} {w w' : World} {o : Oper} {v v' : Value} (h : (execOp (ev n σ) o).run P w = .ok (.value v) w') (e : v = v') : (execOp (ev n σ) o).run P w = .ok (.value v') w' := by rw [h, e]
theorem look_eq {κ α : Type} {enc : α → Value} {z : α} {F : κ → Option α} {k : κ} {v : α} (h : F k = some v) : Value.tuple #[enc ((F k).getD z), .bool (F k).isSome] = .tuple #[enc v, .bool true] := by rw [h]; rfl
theorem fput_self {κ α : Type} [DecidableEq κ] (F : κ → Option α) (k : κ) (v : α) : fput F k v k = some v := if_pos rfl
theorem cardO (F : Id32 → Option RO) (of : Id32) (h : ∀ j, (F j).isSome = true → j = of) (l : List Id32) (hn : l.Nodup) (hl : ∀ j ∈ l, (F j).isSome = true) : l.length ≤ 1 :=
  card1 of 0 l hn fun j hj => by rw [h j (hl j hj), fput, if_pos rfl]; rfl
theorem clnI_ret (w0 : World) :
    Ret Tryz.prog 162 [.slice none 0 0] w0 fun v w' => v = .slice none 0 0 ∧ Hp w0 w' [] [] := by
  refine ret_mk Tryz.func162 rfl Tryz.ntmps162 (by simp) ?_
  have H := Hp.refl w0 []
  refine rG ?_; refine aZ ?_; refine eN ?_
  refine rG ?_; refine mV ?_; refine lV (r_slnil Tryz.underlying140 (by kernel_rfl) rfl rfl) ?_; refine eN ?_
  refine qY ?_; refine rG ?_; refine aZ ?_; refine eN ?_
  refine cR ?_
  refine e_ret1 (v := .slice none 0 0) Tryz.results162 rfl ?_
  refine ⟨_, rfl, ?_⟩
  exact ⟨rfl, H.sub (List.nil_sublist _)⟩
theorem cluI_ret (w0 : World) (x : Gl Id32) (hx : x.ok idE 32 w0) (hm : x.len ≤ 65536) :
    Ret Tryz.prog 162 [x.v] w0 fun v w' => ∃ a c, v = .slice (hd a) x.len c ∧ Hp w0 w' [] [.own a x.len c (x.l.flatMap idE) 24 32] := by
  refine ret_mk Tryz.func162 rfl Tryz.ntmps162 (by simp) ?_
  have H := Hp.refl w0 []
  refine rG ?_; refine aZ ?_; refine eN ?_
  refine rG ?_; refine mV ?_; refine lV (r_slnil Tryz.underlying140 (by kernel_rfl) rfl rfl) ?_; refine eN ?_
  have hc10 := Bool.eq_false_or_eq_true (x.a.isNone)
  rcases hc10 with hc1 | hc1
  ·
   repeat refine c_seq ?_
   refine c_yes (by exact congrArg Value.bool hc1) ?_; refine rG ?_; refine aZ ?_; refine eN ?_
   refine cR ?_
   refine e_ret1 (v := .slice none 0 0) Tryz.results162 rfl ?_
   refine ⟨_, rfl, ?_⟩
   have h0 := gl_nil hx (by decide) (by have := (hc1); simpa using this)
   rw [h0.1, h0.2]
   exact ⟨none, 0, rfl, H.nilEnd 24 32⟩
  ·
   repeat refine c_seq ?_
   refine c_no (by exact congrArg Value.bool hc1) ?_; refine c_skip ?_; refine rG ?_; refine l_op (o_bslG0 (α := Id32) (enc := idE) H sl140 zc24 (by decide) (fun b2 w H hb2 => ?_)); replace H : Hp _ w _ ([.own (some b2) 0 0 ((([] : List Id32)).flatMap idE) 24 32]) := H
   refine mV ?_; refine l_op (o_appG (enc := idE) (s := x) (l' := x.l) (len' := x.len) rfl (Nat.zero_add _) H (i := 0) rfl sl140 Tryz.underlying140 rfl rfl (hx.up H) (by decide) (fun c _ => idE_all c) oM (by decide) (fun a3 c4 w H => ?_)); replace H : Hp _ w _ ([.own a3 x.len c4 ((x.l).flatMap idE) 24 32]) := H
   refine aZ ?_; refine eN ?_
   refine cR ?_
   refine e_ret1 (v := .slice (hd a3) x.len c4) Tryz.results162 rfl ?_
   refine ⟨_, rfl, ?_⟩
   exact ⟨_, _, rfl, H.sub (.cons_cons _ (List.nil_sublist _))⟩
theorem mkeysObj_ret (w0 : World) (b : Nat) :
    Ret Tryz.prog 160 [.map (some b)] w0 fun v w' => ∃ bb, v = .func (.func 182) #[] #[.pointer (some ⟨bb, 0, none⟩)] ∧ Hp w0 w' [] [.blk bb [.map (some b)] 198] := by
  refine ret_mk Tryz.func160 rfl Tryz.ntmps160 (by simp) ?_
  have H := Hp.refl w0 []
  refine rG ?_; refine l_op (o_box (v := .map (some b)) H rfl (fun b1 w H hb1 => ?_)); replace H : Hp _ w _ ([.blk b1 ([.map (some b)]) 198]) := H
  refine aZ ?_; refine eN ?_
  refine rG ?_; refine lV (r_mkfn (vs := [.pointer (some ⟨b1, 0, none⟩)]) rfl) ?_; refine aZ ?_; refine eN ?_
  refine cR ?_
  refine e_ret1 (v := .func (.func 182) #[] #[.pointer (some ⟨b1, 0, none⟩)]) Tryz.results160 rfl ?_
  refine ⟨_, rfl, ?_⟩
  exact ⟨_, rfl, H⟩
theorem followN_ret (w0 : World) (oa : Option Addr) (ok : Nat) (xa : Option Addr) (xc : Nat) (of : Id32) (ho : (⟨oa, 1, ok, [(⟨of, ⟨xa, 3, xc, [68, 49, 0]⟩⟩ : Ob)]⟩ : Gl Ob).ok obE 33 w0) :
    Ret Tryz.prog 139 [(⟨oa, 1, ok, [(⟨of, ⟨xa, 3, xc, [68, 49, 0]⟩⟩ : Ob)]⟩ : Gl Ob).v, .slice none 0 0] w0 fun v w' => ∃ b M c F, MIs rOV M F ∧ MOk M c ∧ (∀ j, (F j).isSome = true → j = of) ∧ v = .map (some b) ∧ Hp w0 w' [] [.obj b (mobj kA M c)] := by
  refine ret_mk Tryz.func139 rfl Tryz.ntmps139 (by simp) ?_
  have H := Hp.refl w0 []
  refine rG ?_; refine aZ ?_; refine eN ?_
  refine rG ?_; refine l_op (o_mmake kA H (fun b1 w H hb1 => ?_)); replace H : Hp _ w _ ([.obj b1 (mobj kA ([] : List (Id32 × Value × Nat)) 0)]) := H
  refine aZ ?_; refine eN ?_
  refine rG ?_; refine mV ?_; refine lV (r_lens el143 rfl) ?_; refine mV ?_; refine eN ?_
  refine qB ?_; repeat refine c_seq ?_
  refine wp_loop_rounds 3 ?_; refine c_round ?_; refine rG ?_; refine lV (r_bin (a := 0) (b := 1) rfl rfl (fun _ => b_lssB true (decide_eq_true (by decide)))) ?_; refine eN ?_
  refine qY ?_; refine c_skip ?_; refine qB ?_; refine rG ?_; have ah4 := ((ho.up H)).addr (by decide) (by first | omega | (dsimp only; omega))
  obtain ⟨ab2, ao3, ah4⟩ := ah4
  refine lV (r_isN 0 rfl rfl el143 ah4 oM (by (try simp only []); omega)) ?_; refine lV (r_ldRow (s := (⟨oa, 1, ok, [(⟨of, ⟨xa, 3, xc, [68, 49, 0]⟩⟩ : Ob)]⟩ : Gl Ob)) (k := 0) (ho.up H) ah4 rfl rt191 (by decide) rfl) ?_; refine l_op (o_alloc H zc191 (fun b8 w H hb8 => ?_)); replace H : Hp _ w _ ([_, .blk b8 (obE (⟨zId, ⟨none, 0, 0, []⟩⟩ : Ob)) 191]) := H
  refine l_op (o_stW (C' := obE (⟨of, (⟨xa, 3, xc, [68, 49, 0]⟩ : Sl)⟩ : Ob)) H (i := 1) rfl rfl rfl cs191 (obE_all _) (obE_len _) (obE_len _) (fun w H => ?_)); replace H : Hp _ w _ ([_, .blk b8 (obE (⟨of, (⟨xa, 3, xc, [68, 49, 0]⟩ : Sl)⟩ : Ob)) 191]) := H
  refine eN ?_
  refine rG ?_; refine mV ?_; refine lV (r_fa rfl fo191_0) ?_; refine lV (r_lk H (i := 1) rfl rfl rt24 (obE_c0 _)) ?_; refine lV (r_lookT (k := of) roz (MIs.nil (enc := rOV)) H (i := 0) rfl Tryz.underlying198 keyA zv_ro rfl rfl) ?_; refine mV ?_; refine lV (r_ext rfl rfl) ?_; refine lV (r_ext rfl rfl) ?_; have hk9 : (((fun _ => none : Id32 → Option RO) of).isSome) = false := rfl
  refine l_op (o_alloc H zc229 (fun b10 w H hb10 => ?_)); replace H : Hp _ w _ ([_, _, .blk b10 (rOE (⟨⟨none, 0, 0, []⟩, false⟩ : RO)) 229]) := H
  refine l_op (o_stW (C' := rOE (⟨((((fun _ => none : Id32 → Option RO) of).getD roz).data), (((fun _ => none : Id32 → Option RO) of).getD roz).hit⟩ : RO)) H (i := 2) rfl rfl rfl cs229 (rOE_all _) (rOE_len _) (rOE_len _) (fun w H => ?_)); replace H : Hp _ w _ ([_, _, .blk b10 (rOE (⟨((((fun _ => none : Id32 → Option RO) of).getD roz).data), (((fun _ => none : Id32 → Option RO) of).getD roz).hit⟩ : RO)) 229]) := H
  refine aZ ?_; refine eN ?_
  refine rG ?_; refine mV ?_; refine lV (r_not rfl) ?_; refine eN ?_
  repeat refine c_seq ?_
  refine c_yes (by exact congrArg Value.bool (congrArg not hk9)) ?_; refine rG ?_; refine mV ?_; refine lV (r_fa rfl fo191_0) ?_; refine lV (r_lk H (i := 1) rfl rfl rt24 (obE_c0 _)) ?_; refine lV (r_fa rfl fo191_1) ?_; refine lV (r_l1 (v := (⟨xa, 3, xc, [68, 49, 0]⟩ : Sl).v) H (i := 1) rfl rfl ct33 (obE_c1 _)) ?_; refine lV (r_bldG (Z := rOE (⟨⟨none, 0, 0, []⟩, false⟩ : RO)) (E := rOE (⟨(⟨xa, 3, xc, [68, 49, 0]⟩ : Sl), false⟩ : RO)) (pv := [(0, (⟨xa, 3, xc, [68, 49, 0]⟩ : Sl).v)]) bd229 rfl rfl (.consP rfl (rOE_p0 _ (⟨xa, 3, xc, [68, 49, 0]⟩ : Sl)) rfl (.nil _))) ?_; refine l_op (o_mput (kv := kA) (k := of) (v := rOV (⟨(⟨xa, 3, xc, [68, 49, 0]⟩ : Sl), false⟩ : RO)) H (i := 0) rfl Tryz.underlying198 keyA rfl rfl rfl (fun w H => ?_)); replace H : Hp _ w _ ([.obj b1 (mobj kA (mput of (rOV (⟨(⟨xa, 3, xc, [68, 49, 0]⟩ : Sl), false⟩ : RO)) 0 ([] : List (Id32 × Value × Nat))) (mclk ([] : List (Id32 × Value × Nat)) of 0)), _, _]) := H
  refine eN ?_
  refine rG ?_; refine lV (r_bin (a := 0) (b := 1) (v := VI 1) rfl rfl (fun _ => b_add oM oM)) ?_; refine mV ?_; refine eN ?_
  try dsimp only [Exit.then, Exit.inBlock]
  refine c_round ?_; refine rG ?_; refine lV (r_bin (a := 1) (b := 1) rfl rfl (fun _ => b_lssB false (decide_eq_false (by decide)))) ?_; refine eN ?_
  refine qN ?_; refine c_exit ?_; refine rG ?_; refine mV ?_; refine l_op (o_callR Tryz.func162 rfl rfl rfl (clnI_ret _) ?_); rintro _ w ⟨rfl, Hc⟩
  replace H : Hp _ w _ ([_, _, _]) := H.call Hc
  clear Hc
  refine aZ ?_; refine eN ?_
  refine qB ?_; repeat refine c_seq ?_
  refine wp_loop_rounds 3 ?_; refine c_round ?_; refine rG ?_; refine mV ?_; refine lV (r_lens el140 rfl) ?_; refine lV (r_bin (a := 0) (b := 0) rfl rfl (fun _ => b_gtrB false (decide_eq_false (by decide)))) ?_; refine eN ?_
  refine qN ?_; refine c_exit ?_; refine rG ?_; refine mV ?_; refine aZ ?_; refine eN ?_
  refine cR ?_
  refine e_ret1 (v := .map (some b1)) Tryz.results139 rfl ?_
  refine ⟨_, rfl, ?_⟩
  refine ⟨_, _, _, _, ((MIs.nil (enc := rOV)).put of (⟨(⟨xa, 3, xc, [68, 49, 0]⟩ : Sl), false⟩ : RO) 0), (MOk.nil.put of (rOV (⟨(⟨xa, 3, xc, [68, 49, 0]⟩ : Sl), false⟩ : RO))), ?_, rfl, H.sub (.cons_cons _ (List.nil_sublist _))⟩
  intro j hj
  by_cases e : j = of
  · exact e
  · simp [fput, e] at hj
theorem follow1_ret (w0 : World) (oa : Option Addr) (ok : Nat) (xa : Option Addr) (xc : Nat) (of : Id32) (ra : Option Addr) (rc : Nat) (ho : (⟨oa, 1, ok, [(⟨of, ⟨xa, 3, xc, [68, 49, 0]⟩⟩ : Ob)]⟩ : Gl Ob).ok obE 33 w0) (hr : (⟨ra, 1, rc, [of]⟩ : Gl Id32).ok idE 32 w0) (hd3 : (⟨xa, 3, xc, [68, 49, 0]⟩ : Sl).ok w0) :
    Ret Tryz.prog 139 [(⟨oa, 1, ok, [(⟨of, ⟨xa, 3, xc, [68, 49, 0]⟩⟩ : Ob)]⟩ : Gl Ob).v, (⟨ra, 1, rc, [of]⟩ : Gl Id32).v] w0 fun v w' => ∃ b M c F, MIs rOV M F ∧ MOk M c ∧ (∀ j, (F j).isSome = true → j = of) ∧ v = .map (some b) ∧ Hp w0 w' [] [.obj b (mobj kA M c)] := by
  refine ret_mk Tryz.func139 rfl Tryz.ntmps139 (by simp) ?_
  have H := Hp.refl w0 []
  refine rG ?_; refine aZ ?_; refine eN ?_
  refine rG ?_; refine l_op (o_mmake kA H (fun b1 w H hb1 => ?_)); replace H : Hp _ w _ ([.obj b1 (mobj kA ([] : List (Id32 × Value × Nat)) 0)]) := H
  refine aZ ?_; refine eN ?_
  refine rG ?_; refine mV ?_; refine lV (r_lens el143 rfl) ?_; refine mV ?_; refine eN ?_
  refine qB ?_; repeat refine c_seq ?_
  refine wp_loop_rounds 3 ?_; refine c_round ?_; refine rG ?_; refine lV (r_bin (a := 0) (b := 1) rfl rfl (fun _ => b_lssB true (decide_eq_true (by decide)))) ?_; refine eN ?_
  refine qY ?_; refine c_skip ?_; refine qB ?_; refine rG ?_; have ah4 := ((ho.up H)).addr (by decide) (by first | omega | (dsimp only; omega))
  obtain ⟨ab2, ao3, ah4⟩ := ah4
  refine lV (r_isN 0 rfl rfl el143 ah4 oM (by (try simp only []); omega)) ?_; refine lV (r_ldRow (s := (⟨oa, 1, ok, [(⟨of, ⟨xa, 3, xc, [68, 49, 0]⟩⟩ : Ob)]⟩ : Gl Ob)) (k := 0) (ho.up H) ah4 rfl rt191 (by decide) rfl) ?_; refine l_op (o_alloc H zc191 (fun b8 w H hb8 => ?_)); replace H : Hp _ w _ ([_, .blk b8 (obE (⟨zId, ⟨none, 0, 0, []⟩⟩ : Ob)) 191]) := H
  refine l_op (o_stW (C' := obE (⟨of, (⟨xa, 3, xc, [68, 49, 0]⟩ : Sl)⟩ : Ob)) H (i := 1) rfl rfl rfl cs191 (obE_all _) (obE_len _) (obE_len _) (fun w H => ?_)); replace H : Hp _ w _ ([_, .blk b8 (obE (⟨of, (⟨xa, 3, xc, [68, 49, 0]⟩ : Sl)⟩ : Ob)) 191]) := H
  refine eN ?_
  refine rG ?_; refine mV ?_; refine lV (r_fa rfl fo191_0) ?_; refine lV (r_lk H (i := 1) rfl rfl rt24 (obE_c0 _)) ?_; refine lV (r_lookT (k := of) roz (MIs.nil (enc := rOV)) H (i := 0) rfl Tryz.underlying198 keyA zv_ro rfl rfl) ?_; refine mV ?_; refine lV (r_ext rfl rfl) ?_; refine lV (r_ext rfl rfl) ?_; have hk9 : (((fun _ => none : Id32 → Option RO) of).isSome) = false := rfl
  refine l_op (o_alloc H zc229 (fun b10 w H hb10 => ?_)); replace H : Hp _ w _ ([_, _, .blk b10 (rOE (⟨⟨none, 0, 0, []⟩, false⟩ : RO)) 229]) := H
  refine l_op (o_stW (C' := rOE (⟨((((fun _ => none : Id32 → Option RO) of).getD roz).data), (((fun _ => none : Id32 → Option RO) of).getD roz).hit⟩ : RO)) H (i := 2) rfl rfl rfl cs229 (rOE_all _) (rOE_len _) (rOE_len _) (fun w H => ?_)); replace H : Hp _ w _ ([_, _, .blk b10 (rOE (⟨((((fun _ => none : Id32 → Option RO) of).getD roz).data), (((fun _ => none : Id32 → Option RO) of).getD roz).hit⟩ : RO)) 229]) := H
  refine aZ ?_; refine eN ?_
  refine rG ?_; refine mV ?_; refine lV (r_not rfl) ?_; refine eN ?_
  repeat refine c_seq ?_
  refine c_yes (by exact congrArg Value.bool (congrArg not hk9)) ?_; refine rG ?_; refine mV ?_; refine lV (r_fa rfl fo191_0) ?_; refine lV (r_lk H (i := 1) rfl rfl rt24 (obE_c0 _)) ?_; refine lV (r_fa rfl fo191_1) ?_; refine lV (r_l1 (v := (⟨xa, 3, xc, [68, 49, 0]⟩ : Sl).v) H (i := 1) rfl rfl ct33 (obE_c1 _)) ?_; refine lV (r_bldG (Z := rOE (⟨⟨none, 0, 0, []⟩, false⟩ : RO)) (E := rOE (⟨(⟨xa, 3, xc, [68, 49, 0]⟩ : Sl), false⟩ : RO)) (pv := [(0, (⟨xa, 3, xc, [68, 49, 0]⟩ : Sl).v)]) bd229 rfl rfl (.consP rfl (rOE_p0 _ (⟨xa, 3, xc, [68, 49, 0]⟩ : Sl)) rfl (.nil _))) ?_; refine l_op (o_mput (kv := kA) (k := of) (v := rOV (⟨(⟨xa, 3, xc, [68, 49, 0]⟩ : Sl), false⟩ : RO)) H (i := 0) rfl Tryz.underlying198 keyA rfl rfl rfl (fun w H => ?_)); replace H : Hp _ w _ ([.obj b1 (mobj kA (mput of (rOV (⟨(⟨xa, 3, xc, [68, 49, 0]⟩ : Sl), false⟩ : RO)) 0 ([] : List (Id32 × Value × Nat))) (mclk ([] : List (Id32 × Value × Nat)) of 0)), _, _]) := H
  refine eN ?_
  refine rG ?_; refine lV (r_bin (a := 0) (b := 1) (v := VI 1) rfl rfl (fun _ => b_add oM oM)) ?_; refine mV ?_; refine eN ?_
  try dsimp only [Exit.then, Exit.inBlock]
  refine c_round ?_; refine rG ?_; refine lV (r_bin (a := 1) (b := 1) rfl rfl (fun _ => b_lssB false (decide_eq_false (by decide)))) ?_; refine eN ?_
  refine qN ?_; refine c_exit ?_; refine rG ?_; refine mV ?_; refine l_op (o_callR Tryz.func162 rfl rfl rfl (cluI_ret _ (⟨ra, 1, rc, [of]⟩ : Gl Id32) (hr.up H) (by (try dsimp only); omega)) ?_); rintro _ w ⟨a11, c12, rfl, Hc⟩
  replace H : Hp _ w _ ([_, _, _, .own a11 1 c12 (([of]).flatMap idE) 24 32]) := H.call Hc
  clear Hc
  refine aZ ?_; refine eN ?_
  refine qB ?_; repeat refine c_seq ?_
  refine wp_loop_rounds 3 ?_; refine c_round ?_; refine rG ?_; refine mV ?_; refine lV (r_lens el140 rfl) ?_; refine lV (r_bin (a := 1) (b := 0) rfl rfl (fun _ => b_gtrB true (decide_eq_true (by decide)))) ?_; refine eN ?_
  refine qY ?_; refine c_skip ?_; refine qB ?_; refine rG ?_; refine mV ?_; refine mV ?_; refine lV (r_lens el140 rfl) ?_; refine lV (r_bin (a := 1) (b := 1) (v := VI 0) rfl rfl (fun _ => b_sub oM oM)) ?_; have ah14 := H.ownAddr (i := 3) rfl oM
  obtain ⟨ab13, ah14⟩ := ah14
  refine lV (r_isN 0 rfl rfl el140 ah14 oM (by (try simp only []); omega)) ?_; refine lV (r_ldRow (s := (⟨hd a11, 1, c12, [of]⟩ : Gl Id32)) (k := 0) (H.glOwn (i := 3) rfl (by decide) (fun c _ => idE_len c)) ah14 rfl rt24 (by decide) rfl) ?_; refine l_op (o_alloc H zc24 (fun b18 w H hb18 => ?_)); replace H : Hp _ w _ ([_, _, _, _, .blk b18 ((List.replicate 32 (0 : UInt8)).map V8) 24]) := H
  refine l_op (o_stA (l' := of.1) H (i := 4) rfl rfl rfl cs24 (show (List.replicate 32 (0 : UInt8)).length = 32 from (List.length_replicate ..)) (show (of.1).length = 32 from of.2) (fun w H => ?_)); replace H : Hp _ w _ ([_, _, _, _, .blk b18 ((of.1).map V8) 24]) := H
  refine eN ?_
  refine rG ?_; refine mV ?_; refine mV ?_; refine lV (r_lens el140 rfl) ?_; refine lV (r_bin (a := 1) (b := 1) (v := VI 0) rfl rfl (fun _ => b_sub oM oM)) ?_; refine lV (r_slH (h := 0) (m := c12) (hv := some (VI 0)) rfl el140 rfl rfl rfl (fun w => by exact sbh 0 oM oM w)) ?_; replace H := H.shrinkV (i := 3) (m := 0) rfl oM
  replace H : Hp _ w _ [.obj b1 (mobj kA (mput of (rOV (⟨(⟨xa, 3, xc, [68, 49, 0]⟩ : Sl), false⟩ : RO)) 0 ([] : List (Id32 × Value × Nat))) (mclk ([] : List (Id32 × Value × Nat)) of 0)), .blk b8 (obE (⟨of, (⟨xa, 3, xc, [68, 49, 0]⟩ : Sl)⟩ : Ob)) 191, .blk b10 (rOE (⟨((((fun _ => none : Id32 → Option RO) of).getD roz).data), (((fun _ => none : Id32 → Option RO) of).getD roz).hit⟩ : RO)) 229, .own a11 0 c12 ((([] : List Id32)).flatMap idE) 24 32, .blk b18 ((of.1).map V8) 24] := H
  refine aZ ?_; refine eN ?_
  refine rG ?_; refine mV ?_; refine lV (r_ldAA (l := of.1) H (i := 4) rfl rfl rt24 (show (of.1).length = 32 from of.2)) ?_; refine lV (val_eq (r_lookT (k := of) roz ((MIs.nil (enc := rOV)).put of (⟨(⟨xa, 3, xc, [68, 49, 0]⟩ : Sl), false⟩ : RO) 0) H (i := 0) rfl Tryz.underlying198 keyA zv_ro rfl rfl) (look_eq (enc := rOV) (z := roz) (fput_self _ _ _))) ?_; refine mV ?_; refine lV (r_ext rfl rfl) ?_; refine lV (r_ext rfl rfl) ?_; refine l_op (o_alloc H zc229 (fun b19 w H hb19 => ?_)); replace H : Hp _ w _ ([_, _, _, .own a11 0 c12 ((([] : List Id32)).flatMap idE) 24 32, _, .blk b19 (rOE (⟨⟨none, 0, 0, []⟩, false⟩ : RO)) 229]) := H
  refine l_op (o_stW (C' := rOE (⟨(⟨xa, 3, xc, [68, 49, 0]⟩ : Sl), false⟩ : RO)) H (i := 5) rfl rfl rfl cs229 (rOE_all _) (rOE_len _) (rOE_len _) (fun w H => ?_)); replace H : Hp _ w _ ([_, _, _, _, _, .blk b19 (rOE (⟨(⟨xa, 3, xc, [68, 49, 0]⟩ : Sl), false⟩ : RO)) 229]) := H
  refine aZ ?_; refine eN ?_
  refine rG ?_; refine mV ?_; refine lV (r_not rfl) ?_; refine mV ?_; refine l_yes rfl rfl rfl (o_val (r_fa rfl fo229_1) ?_); refine l_yes rfl rfl rfl (o_val (r_l1 (v := .bool false) H (i := 5) rfl rfl ct4 (rOE_c1 _)) ?_); refine lV (r_pick rfl) ?_; refine eN ?_
  refine qN ?_; refine c_skip ?_; refine rG ?_; refine lV (r_fa rfl fo229_1) ?_; refine l_op (o_s1P (C' := rOE (⟨(⟨xa, 3, xc, [68, 49, 0]⟩ : Sl), true⟩ : RO)) (u := .bool true) H (i := 5) rfl rfl rfl cs4 rfl (rOE_p1 _ true) (fun w H => ?_)); replace H : Hp _ w _ ([_, _, _, _, _, .blk b19 (rOE (⟨(⟨xa, 3, xc, [68, 49, 0]⟩ : Sl), true⟩ : RO)) 229]) := H
  refine eN ?_
  refine rG ?_; refine mV ?_; refine lV (r_ldAA (l := of.1) H (i := 4) rfl rfl rt24 (show (of.1).length = 32 from of.2)) ?_; refine lV (r_ldA (C := rOE (⟨(⟨xa, 3, xc, [68, 49, 0]⟩ : Sl), true⟩ : RO)) H (i := 5) rfl rfl rt229 (rOE_len _)) ?_; refine l_op (o_mput (kv := kA) (k := of) (v := rOV (⟨(⟨xa, 3, xc, [68, 49, 0]⟩ : Sl), true⟩ : RO)) H (i := 0) rfl Tryz.underlying198 keyA rfl rfl rfl (fun w H => ?_)); replace H : Hp _ w _ ([.obj b1 (mobj kA (mput of (rOV (⟨(⟨xa, 3, xc, [68, 49, 0]⟩ : Sl), true⟩ : RO)) (mclk ([] : List (Id32 × Value × Nat)) of 0) (mput of (rOV (⟨(⟨xa, 3, xc, [68, 49, 0]⟩ : Sl), false⟩ : RO)) 0 ([] : List (Id32 × Value × Nat)))) (mclk (mput of (rOV (⟨(⟨xa, 3, xc, [68, 49, 0]⟩ : Sl), false⟩ : RO)) 0 ([] : List (Id32 × Value × Nat))) of (mclk ([] : List (Id32 × Value × Nat)) of 0))), _, _, _, _, _]) := H
  refine eN ?_
  refine rG ?_; refine lV (r_fa rfl fo229_0) ?_; refine lV (r_l1 (v := (⟨xa, 3, xc, [68, 49, 0]⟩ : Sl).v) H (i := 5) rfl rfl ct33 (rOE_c0 _)) ?_; refine l_op (o_callR Tryz.func152 rfl rfl rfl (ftake0_ret _ _ _ (hd3.up H (fun _ => apart_nil _))) ?_); rintro _ w ⟨rfl, Hc⟩
  replace H : Hp _ w _ ([_, _, _, _, _, _]) := H.call Hc
  clear Hc
  refine mV ?_; refine lV (r_ext rfl rfl) ?_; refine lV (r_ext rfl rfl) ?_; refine aZ ?_; refine aZ ?_; refine eN ?_
  refine rG ?_; refine mV ?_; refine lV (r_lens el218 rfl) ?_; refine mV ?_; refine eN ?_
  refine qB ?_; repeat refine c_seq ?_
  refine wp_loop_rounds 3 ?_; refine c_round ?_; refine rG ?_; refine lV (r_bin (a := 0) (b := 0) rfl rfl (fun _ => b_lssB false (decide_eq_false (by decide)))) ?_; refine eN ?_
  refine qN ?_; refine c_exit ?_; try dsimp only [Exit.then, Exit.inBlock]
  refine c_round ?_; refine rG ?_; refine mV ?_; refine lV (r_lens el140 rfl) ?_; refine lV (r_bin (a := 0) (b := 0) rfl rfl (fun _ => b_gtrB false (decide_eq_false (by decide)))) ?_; refine eN ?_
  refine qN ?_; refine c_exit ?_; refine rG ?_; refine mV ?_; refine aZ ?_; refine eN ?_
  refine cR ?_
  refine e_ret1 (v := .map (some b1)) Tryz.results139 rfl ?_
  refine ⟨_, rfl, ?_⟩
  refine ⟨_, _, _, _, (((MIs.nil (enc := rOV)).put of (⟨(⟨xa, 3, xc, [68, 49, 0]⟩ : Sl), false⟩ : RO) 0).put of (⟨(⟨xa, 3, xc, [68, 49, 0]⟩ : Sl), true⟩ : RO) (mclk ([] : List (Id32 × Value × Nat)) of 0)), ((MOk.nil.put of (rOV (⟨(⟨xa, 3, xc, [68, 49, 0]⟩ : Sl), false⟩ : RO))).put of (rOV (⟨(⟨xa, 3, xc, [68, 49, 0]⟩ : Sl), true⟩ : RO))), ?_, rfl, H.sub (.cons_cons _ (List.nil_sublist _))⟩
  intro j hj
  by_cases e : j = of
  · exact e
  · simp [fput, e] at hj
theorem those1_ret (w0 : World) (b c : Nat) (M : List (Id32 × Value × Nat)) (F : Id32 → Option RO) (hF : MIs rOV M F) (hM : MOk M c) (hcard : ∀ l : List Id32, l.Nodup → (∀ j ∈ l, (F j).isSome = true) → l.length ≤ 1) (hO : Own w0 [.obj b (mobj kA M c)]) :
    Ret Tryz.prog 138 [.map (some b), .bool true] w0 fun v w' => ∃ (a : Option Nat) (k : Nat) (R : List Id32), R.length ≤ 1 ∧ v = .slice (hd a) R.length k ∧ Hp w0 w' (keys hO.l) [.obj b (mobj kA M c), .own a R.length k (R.flatMap idE) 24 32] := by
  refine ret_mkM Tryz.func138 rfl Tryz.ntmps138 (by simp) ?_
  have H := hO.start
  refine rG ?_; refine l_op (o_box (v := .map (some b)) H rfl (fun b1 w H hb1 => ?_)); replace H : Hp _ w _ ([.obj b (mobj kA M c), .blk b1 ([.map (some b)]) 198]) := H
  refine l_op (o_box (v := .bool true) H rfl (fun b2 w H hb2 => ?_)); replace H : Hp _ w _ ([_, _, .blk b2 ([.bool true]) 4]) := H
  refine aZ ?_; refine eN ?_
  refine rG ?_; refine l_op (o_alloc H zc140 (fun b3 w H hb3 => ?_)); replace H : Hp _ w _ ([_, _, _, .blk b3 ([.slice none 0 0]) 140]) := H
  refine eN ?_
  refine rG ?_; refine lV (r_ld H (i := 1) rfl rfl ct198 rfl) ?_; refine l_op (o_callR Tryz.func160 rfl rfl rfl (mkeysObj_ret _ b) ?_); rintro _ w ⟨bb4, rfl, Hc⟩
  replace H : Hp _ w _ ([_, _, _, _, .blk bb4 ([.map (some b)]) 198]) := H.call Hc
  clear Hc
  refine eN ?_
  refine qB ?_; replace H := H.nilEnd 24 32
  refine c_rangeK (FX := [.blk bb4 ([.map (some b)]) 198, .obj b (mobj kA M c)]) (Got := fun kk aa => F kk = some aa) (All := fun vis => vis.Nodup ∧ ∀ j, j ∈ vis ↔ (F j).isSome = true) (I := fun (vis : List Id32) (x : List Id32 × Option Nat × Nat) => match x with | (l0, a, k) => l0.length ≤ vis.length ∧ vis.Nodup ∧ (∀ j ∈ vis, (F j).isSome = true)) (x0 := ([], none, 0)) (itC := fun it vis => Ch.obj it (itO b M c vis)) (kv := kA) Tryz.func182 rfl rfl (fun Lv l w1 H1 hY => (keysItObj hM hF Lv (fun (vis : List Id32) (x : List Id32 × Option Nat × Nat) => match x with | (l0, a, k) => l0.length ≤ vis.length ∧ vis.Nodup ∧ (∀ j ∈ vis, (F j).isSome = true)) ([], none, 0) ⟨Nat.le_refl _, List.nodup_nil, fun _ h => (by cases h)⟩ H1 (fun it vis x kk aa W hI hf hk _ _ HW => hY it vis x kk aa W hI hf hk HW)).mono (fun _ _ ⟨vis, x, h1, h2, h3, h4⟩ => ⟨vis, x, h1, ⟨h2, h3⟩, h4⟩)) rfl (fun x : List Id32 × Option Nat × Nat => match x with | (l0, a, k) => [.blk b3 ([.slice (hd a) l0.length k]) 140, .own a l0.length k ((l0).flatMap idE) 24 32, .blk b2 ([.bool true]) 4, .blk b1 ([.map (some b)]) 198]) (H.permL ((perm_front (j := 4) rfl).trans (.cons _ ((perm_front (j := 0) rfl).trans (.cons _ ((perm_front (j := 2) rfl).trans (.cons _ ((perm_front (j := 2) rfl).trans (.cons _ ((perm_front (j := 1) rfl).trans (.cons _ (.refl _)))))))))))) ?_ ?_
  ·
   rintro l T vis x kk aa w hI hgot hk H
   obtain ⟨l0, a, k⟩ := x
   replace hI : l0.length ≤ vis.length ∧ vis.Nodup ∧ (∀ j ∈ vis, (F j).isSome = true) := hI
   replace H : Hp w0 w (keys hO.l) (Ch.blk bb4 ([.map (some b)]) 198 :: Ch.obj b (mobj kA M c) :: Ch.blk b3 ([.slice (hd a) l0.length k]) 140 :: Ch.own a l0.length k ((l0).flatMap idE) 24 32 :: Ch.blk b2 ([.bool true]) 4 :: Ch.blk b1 ([.map (some b)]) 198 :: T) := H
   repeat refine wpIn_seq ?_
   refine i_region (by rfl) (by rintro ⟨_, _, h⟩; first | exact (show False from h) | cases (And.left h : Exit.outgrown = Exit.normal)) ?_; refine l_op (o_alloc H zc24 (fun b5 w H hb5 => ?_)); replace H := H.rot
   replace H : Hp _ w _ (Ch.blk b5 ((List.replicate 32 (0 : UInt8)).map V8) 24 :: Ch.blk bb4 ([.map (some b)]) 198 :: Ch.obj b (mobj kA M c) :: Ch.blk b3 ([.slice (hd a) l0.length k]) 140 :: Ch.own a l0.length k ((l0).flatMap idE) 24 32 :: Ch.blk b2 ([.bool true]) 4 :: Ch.blk b1 ([.map (some b)]) 198 :: T) := H
   refine l_op (o_stA (l' := kk.1) H (i := 0) rfl rfl rfl cs24 (show (List.replicate 32 (0 : UInt8)).length = 32 from (List.length_replicate ..)) (show (kk.1).length = 32 from kk.2) (fun w H => ?_)); replace H : Hp _ w _ (Ch.blk b5 ((kk.1).map V8) 24 :: Ch.blk bb4 ([.map (some b)]) 198 :: Ch.obj b (mobj kA M c) :: Ch.blk b3 ([.slice (hd a) l0.length k]) 140 :: Ch.own a l0.length k ((l0).flatMap idE) 24 32 :: Ch.blk b2 ([.bool true]) 4 :: Ch.blk b1 ([.map (some b)]) 198 :: T) := H
   first | refine i_end ?_ | refine l_nil ?_
   try dsimp only [Exit.then, Exit.inBlock]
   refine ⟨[.blk b5 ((kk.1).map V8) 24, .blk bb4 ([.map (some b)]) 198, .obj b (mobj kA M c), .blk b3 ([.slice (hd a) l0.length k]) 140, .own a l0.length k ((l0).flatMap idE) 24 32, .blk b2 ([.bool true]) 4, .blk b1 ([.map (some b)]) 198], H, ?_⟩
   intro T w H
   replace H : Hp w0 w (keys hO.l) (Ch.blk b5 ((kk.1).map V8) 24 :: Ch.blk bb4 ([.map (some b)]) 198 :: Ch.obj b (mobj kA M c) :: Ch.blk b3 ([.slice (hd a) l0.length k]) 140 :: Ch.own a l0.length k ((l0).flatMap idE) 24 32 :: Ch.blk b2 ([.bool true]) 4 :: Ch.blk b1 ([.map (some b)]) 198 :: T) := H
   repeat refine wpIn_seq ?_
   refine i_block ?_; obtain ⟨hll, hvn, hvs0⟩ := hI
   have hvs := vis_snoc hvn hvs0 hgot hk
   have hnv : vis.length ≤ 1 := hcard vis hvn hvs0
   repeat refine wpIn_seq ?_
   refine i_held (fun w => Hp w0 w (keys hO.l) [.blk b5 ((kk.1).map V8) 24, .blk bb4 ([.map (some b)]) 198, .obj b (mobj kA M c), .blk b3 ([.slice (hd a) l0.length k]) 140, .own a l0.length k ((l0).flatMap idE) 24 32, .blk b2 ([.bool true]) 4, .blk b1 ([.map (some b)]) 198]) mixed (by rfl) (by rintro ⟨_, _, h⟩; first | exact (show False from h) | cases (And.left h : Exit.outgrown = Exit.normal)) ?_; replace H := H.drew
   have HS := H.sub (.cons_cons _ (.cons_cons _ (.cons_cons _ (.cons_cons _ (.cons_cons _ (.cons_cons _ (.cons_cons _ (List.nil_sublist _))))))))
   refine tK 0 rfl (fun w HS => r_ld HS (i := 6) rfl rfl ct198 rfl) HS ?_; refine tK 1 rfl (fun w HS => r_ldAA (l := kk.1) HS (i := 0) rfl rfl rt24 (show (kk.1).length = 32 from kk.2)) HS ?_; refine tK 2 rfl (fun w HS => r_lookF (k := kk) roz hF HS (i := 2) rfl Tryz.underlying198 keyA zv_ro rfl rfl) HS ?_; refine tK 3 rfl (fun w HS => r_f1 (v := .bool (((F kk).getD roz).hit)) Tryz.underlying229 rfl ct4 rfl (rOE_c1 _)) HS ?_; refine tK 4 rfl (fun w HS => r_ld HS (i := 5) rfl rfl ct4 rfl) HS ?_; refine tK 5 rfl (fun w HS => r_beq Tryz.underlying4 rfl rfl) HS ?_; refine t_done (by kernel_rfl) ?_
   clear HS
   have hc60 := Bool.eq_false_or_eq_true ((((F kk).getD roz).hit) == true)
   rcases hc60 with hc6 | hc6
   ·
    repeat refine wpIn_seq ?_
    refine i_yes (by exact congrArg Value.bool hc6) ?_; repeat refine wpIn_seq ?_
    refine i_region (by rfl) (by rintro ⟨_, _, h⟩; first | exact (show False from h) | cases (And.left h : Exit.outgrown = Exit.normal)) ?_; refine lV (r_ld H (i := 3) rfl rfl ct140 rfl) ?_; refine lV (r_ldAA (l := kk.1) H (i := 0) rfl rfl rt24 (show (kk.1).length = 32 from kk.2)) ?_; refine l_op (o_bslG1 (enc := idE) (kk) H sl140 zc24 (by rfl) (by decide) (by decide) rfl (idE_len _) (fun b7 w H hb7 => ?_)); replace H := H.rot
    replace H : Hp _ w _ (Ch.own (some b7) 1 1 (([kk]).flatMap idE) 24 32 :: Ch.blk b5 ((kk.1).map V8) 24 :: Ch.blk bb4 ([.map (some b)]) 198 :: Ch.obj b (mobj kA M c) :: Ch.blk b3 ([.slice (hd a) l0.length k]) 140 :: Ch.own a l0.length k ((l0).flatMap idE) 24 32 :: Ch.blk b2 ([.bool true]) 4 :: Ch.blk b1 ([.map (some b)]) 198 :: T) := H
    refine l_op (o_appG (enc := idE) (s := ⟨hd (some b7), 1, 1, [kk]⟩) (l' := l0 ++ ([kk])) (len' := l0.length + 1) rfl rfl H (i := 5) rfl sl140 Tryz.underlying140 rfl rfl (H.glOwn (i := 0) rfl (by decide) (fun c _ => idE_len c)) (by decide) (fun c _ => idE_all c) oM (by decide) (fun a8 c9 w H => ?_)); replace H : Hp _ w _ (Ch.own (some b7) 1 1 (([kk]).flatMap idE) 24 32 :: Ch.blk b5 ((kk.1).map V8) 24 :: Ch.blk bb4 ([.map (some b)]) 198 :: Ch.obj b (mobj kA M c) :: Ch.blk b3 ([.slice (hd a) l0.length k]) 140 :: Ch.own a8 (l0.length + 1) c9 ((l0 ++ ([kk])).flatMap idE) 24 32 :: Ch.blk b2 ([.bool true]) 4 :: Ch.blk b1 ([.map (some b)]) 198 :: T) := H
    refine l_op (o_st (v := .slice (hd a8) (l0.length + 1) c9) H (i := 4) rfl rfl rfl cs140 rfl (by first | decide | simp) (fun w H => ?_)); replace H : Hp _ w _ (Ch.own (some b7) 1 1 (([kk]).flatMap idE) 24 32 :: Ch.blk b5 ((kk.1).map V8) 24 :: Ch.blk bb4 ([.map (some b)]) 198 :: Ch.obj b (mobj kA M c) :: Ch.blk b3 ([.slice (hd a8) (l0.length + 1) c9]) 140 :: Ch.own a8 (l0.length + 1) c9 ((l0 ++ ([kk])).flatMap idE) 24 32 :: Ch.blk b2 ([.bool true]) 4 :: Ch.blk b1 ([.map (some b)]) 198 :: T) := H
    first | refine i_end ?_ | refine l_nil ?_
    try dsimp only [Exit.then, Exit.inBlock]
    have hfl2 : l0.length + 1 = (l0 ++ [kk]).length := by rw [List.length_append]; rfl
    rw [hfl2] at H
    exact ⟨rfl, (l0 ++ [kk], a8, c9), ⟨by simp only [List.length_append, List.length_singleton]; omega, hvs.1, fun j hj => hvs.2 j hj⟩, H.sub (.cons _ (.cons _ (.cons_cons _ (.cons_cons _ (.cons_cons _ (.cons_cons _ (.cons_cons _ (.cons_cons _ (List.Sublist.refl _)))))))))⟩
   ·
    repeat refine wpIn_seq ?_
    refine i_no (by exact congrArg Value.bool hc6) ?_; refine i_skip ?_; try dsimp only [Exit.then, Exit.inBlock]
    exact ⟨rfl, (l0, a, k), ⟨by simp only [List.length_append, List.length_singleton]; omega, hvs.1, fun j hj => hvs.2 j hj⟩, H.sub (.cons _ (.cons_cons _ (.cons_cons _ (.cons_cons _ (.cons_cons _ (.cons_cons _ (.cons_cons _ (List.Sublist.refl _))))))))⟩
  ·
   rintro D vis x w hI hA H
   obtain ⟨l0, a, k⟩ := x
   replace hI : l0.length ≤ vis.length ∧ vis.Nodup ∧ (∀ j ∈ vis, (F j).isSome = true) := hI
   replace H : Hp w0 w (keys hO.l) ([.obj D (.deferred (some [])), .blk bb4 ([.map (some b)]) 198, .obj b (mobj kA M c), .blk b3 ([.slice (hd a) l0.length k]) 140, .own a l0.length k ((l0).flatMap idE) 24 32, .blk b2 ([.bool true]) 4, .blk b1 ([.map (some b)]) 198]) := H
   obtain ⟨hll, hvn, hvs0⟩ := hI
   have hnv : vis.length ≤ 1 := hcard vis hvn hvs0
   have hnl : l0.length ≤ 1 := Nat.le_trans hll hnv
   refine rG ?_; refine l_op (d_val (r_ld H (i := 3) rfl rfl ct140 rfl) ?_); refine l_op (d_callR Tryz.func155 rfl rfl rfl (sort1_ret _ (hd a) l0.length k (by first | omega | assumption) (.func (.func 161) #[] #[])) ?_); rintro _ w ⟨rfl, Hc⟩
   replace H : Hp _ w _ ([.obj D (.deferred (some [])), .blk bb4 ([.map (some b)]) 198, .obj b (mobj kA M c), .blk b3 ([.slice (hd a) l0.length k]) 140, .own a l0.length k ((l0).flatMap idE) 24 32, .blk b2 ([.bool true]) 4, .blk b1 ([.map (some b)]) 198]) := H.call Hc
   clear Hc
   refine eN ?_
   refine rG ?_; refine l_op (d_val (r_ld H (i := 3) rfl rfl ct140 rfl) ?_); refine l_op (d_val (r_as) ?_); refine eN ?_
   refine cR ?_
   refine m_ret1 (v := .slice (hd a) l0.length k) Tryz.results138 rfl H (i := 0) rfl ?_
   intro w H
   replace H : Hp w0 w (keys hO.l) ([.blk bb4 ([.map (some b)]) 198, .obj b (mobj kA M c), .blk b3 ([.slice (hd a) l0.length k]) 140, .own a l0.length k ((l0).flatMap idE) 24 32, .blk b2 ([.bool true]) 4, .blk b1 ([.map (some b)]) 198]) := H
   refine ⟨_, rfl, ?_⟩
   exact ⟨a, k, l0, hnl, rfl, H.sub (.cons _ (.cons_cons _ (.cons _ (.cons_cons _ (List.nil_sublist _)))))⟩
theorem markN_ret (w0 : World) (oa : Option Addr) (ok : Nat) (xa : Option Addr) (xc : Nat) (of : Id32) (ho : (⟨oa, 1, ok, [(⟨of, ⟨xa, 3, xc, [68, 49, 0]⟩⟩ : Ob)]⟩ : Gl Ob).ok obE 33 w0) :
    Ret Tryz.prog 106 [(⟨oa, 1, ok, [(⟨of, ⟨xa, 3, xc, [68, 49, 0]⟩⟩ : Ob)]⟩ : Gl Ob).v, .slice none 0 0] w0 fun v w' => ∃ (a : Option Nat) (k : Nat) (R : List Id32), R.length ≤ 1 ∧ v = .slice (hd a) R.length k ∧ Hp w0 w' [] [.own a R.length k (R.flatMap idE) 24 32] := by
  refine ret_mk Tryz.func106 rfl Tryz.ntmps106 (by simp) ?_
  have H := Hp.refl w0 []
  refine rG ?_; refine aZ ?_; refine eN ?_
  refine rG ?_; refine mV ?_; refine mV ?_; refine l_op (o_callR Tryz.func139 rfl rfl rfl (followN_ret _ oa ok xa xc of (ho.up H)) ?_); rintro _ w ⟨b1, m2, c3, F4, hF5, hM6, hO7, rfl, Hc⟩
  replace H : Hp _ w _ ([.obj b1 (mobj kA m2 c3)]) := H.call Hc
  clear Hc
  refine l_op (o_callR Tryz.func138 rfl rfl rfl (those1_ret _ b1 c3 m2 F4 hF5 hM6 (cardO _ of hO7) (H.ownP (.refl _) rfl)) ?_); rintro _ w ⟨a8, k9, R10, hR11, rfl, Hc⟩
  replace H := H.callP (.refl _) rfl Hc (.refl _)
  clear Hc
  replace H : Hp _ w _ ([_, .own a8 R10.length k9 ((R10).flatMap idE) 24 32]) := H
  refine aZ ?_; refine eN ?_
  refine cR ?_
  refine e_ret1 (v := .slice (hd a8) R10.length k9) Tryz.results106 rfl ?_
  refine ⟨_, rfl, ?_⟩
  exact ⟨_, _, _, hR11, rfl, H.sub (.cons _ (.cons_cons _ (List.nil_sublist _)))⟩
theorem mark1_ret (w0 : World) (oa : Option Addr) (ok : Nat) (xa : Option Addr) (xc : Nat) (of : Id32) (ra : Option Addr) (rc : Nat) (ho : (⟨oa, 1, ok, [(⟨of, ⟨xa, 3, xc, [68, 49, 0]⟩⟩ : Ob)]⟩ : Gl Ob).ok obE 33 w0) (hr : (⟨ra, 1, rc, [of]⟩ : Gl Id32).ok idE 32 w0) (hd3 : (⟨xa, 3, xc, [68, 49, 0]⟩ : Sl).ok w0) :
    Ret Tryz.prog 106 [(⟨oa, 1, ok, [(⟨of, ⟨xa, 3, xc, [68, 49, 0]⟩⟩ : Ob)]⟩ : Gl Ob).v, (⟨ra, 1, rc, [of]⟩ : Gl Id32).v] w0 fun v w' => ∃ (a : Option Nat) (k : Nat) (R : List Id32), R.length ≤ 1 ∧ v = .slice (hd a) R.length k ∧ Hp w0 w' [] [.own a R.length k (R.flatMap idE) 24 32] := by
  refine ret_mk Tryz.func106 rfl Tryz.ntmps106 (by simp) ?_
  have H := Hp.refl w0 []
  refine rG ?_; refine aZ ?_; refine eN ?_
  refine rG ?_; refine mV ?_; refine mV ?_; refine l_op (o_callR Tryz.func139 rfl rfl rfl (follow1_ret _ oa ok xa xc of ra rc (ho.up H) (hr.up H) (hd3.up H (fun _ => apart_nil _))) ?_); rintro _ w ⟨b1, m2, c3, F4, hF5, hM6, hO7, rfl, Hc⟩
  replace H : Hp _ w _ ([.obj b1 (mobj kA m2 c3)]) := H.call Hc
  clear Hc
  refine l_op (o_callR Tryz.func138 rfl rfl rfl (those1_ret _ b1 c3 m2 F4 hF5 hM6 (cardO _ of hO7) (H.ownP (.refl _) rfl)) ?_); rintro _ w ⟨a8, k9, R10, hR11, rfl, Hc⟩
  replace H := H.callP (.refl _) rfl Hc (.refl _)
  clear Hc
  replace H : Hp _ w _ ([_, .own a8 R10.length k9 ((R10).flatMap idE) 24 32]) := H
  refine aZ ?_; refine eN ?_
  refine cR ?_
  refine e_ret1 (v := .slice (hd a8) R10.length k9) Tryz.results106 rfl ?_
  refine ⟨_, rfl, ?_⟩
  exact ⟨_, _, _, hR11, rfl, H.sub (.cons _ (.cons_cons _ (List.nil_sublist _)))⟩
end Go.Proofs.YtmiabahejnjhiaaGreatDoor
