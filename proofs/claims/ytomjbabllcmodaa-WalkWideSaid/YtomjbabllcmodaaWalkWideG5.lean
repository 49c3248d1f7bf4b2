/- Lemmas for the statement WalkWide, part 5: rules of operations, walks through functions, plain laws. -/
import Derived.Test.YtomjbabllcmodaaWalkWideG4
namespace Go.Proofs.Ytomjbabllcmodaa
open Go
set_option maxRecDepth 100000
theorem mkeysInt_ret (w0 : World) (b : Nat) :
    Ret Try.prog 33 [.map (some b)] w0 fun v w' => ∃ bb, v = .func (.func 50) #[] #[.pointer (some ⟨bb, 0, none⟩)] ∧ Hp w0 w' [] [.blk bb [.map (some b)] 68] := by
  refine ret_mk Try.func33 rfl Try.ntmps33 (by simp) ?_
  have H := Hp.refl w0 []
  repeat refine c_seq ?_
  refine c_region ?_; refine l_op (o_box (v := .map (some b)) H rfl (fun b1 w H hb1 => ?_)); replace H : Hp _ w _ ([.blk b1 ([.map (some b)]) 68]) := H
  refine l_op (o_val r_as ?_); first | refine l_end ?_ | refine l_nil ?_
  repeat refine c_seq ?_
  refine c_region ?_; refine l_op (o_val (r_mkfn (vs := [.pointer (some ⟨b1, 0, none⟩)]) rfl) ?_); refine l_op (o_val r_as ?_); first | refine l_end ?_ | refine l_nil ?_
  refine c_ret ?_; try dsimp only [Exit.then, Exit.inBlock]
  refine e_ret1 (v := .func (.func 50) #[] #[.pointer (some ⟨b1, 0, none⟩)]) Try.results33 rfl ?_
  refine ⟨_, rfl, ?_⟩
  exact ⟨_, rfl, H⟩
theorem appseq_ret (w0 : World) (bb b c : Nat) (M : List (Id32 × Value × Nat)) (F : Id32 → Option Int) (hF : MIs VI M F) (hM : MOk M c) (hO : Own w0 [.blk bb [.map (some b)] 68, .obj b (mobj kA M c)]) (hcard : ∀ l : List Id32, l.Nodup → (∀ j ∈ l, (F j).isSome = true) → l.length ≤ 65536) :
    Ret Try.prog 65 [.slice none 0 0, .func (.func 50) #[] #[.pointer (some ⟨bb, 0, none⟩)]] w0 fun v w' => ∃ (a : Option Nat) (k : Nat) (R : List Id32), (R.Nodup ∧ ∀ k, k ∈ R ↔ (F k).isSome = true) ∧ v = .slice (hd a) R.length k ∧ Hp w0 w' (keys [.blk bb [.map (some b)] 68, .obj b (mobj kA M c)]) [.blk bb [.map (some b)] 68, .obj b (mobj kA M c), .own a R.length k (R.flatMap idE) 29 32] := by
  refine ret_mkM Try.func65 rfl Try.ntmps65 (by simp) ?_
  have H : Hp w0 w0 (keys [.blk bb [.map (some b)] 68, .obj b (mobj kA M c)]) [Ch.blk bb ([.map (some b)]) 68, .obj b (mobj kA M c)] := hO.start
  repeat refine c_seq ?_
  refine c_region ?_; refine l_op (o_box (v := .slice none 0 0) H rfl (fun b1 w H hb1 => ?_)); replace H : Hp _ w _ ([.blk bb ([.map (some b)]) 68, .obj b (mobj kA M c), .blk b1 ([.slice none 0 0]) 23]) := H
  refine l_op (o_val r_as ?_); first | refine l_end ?_ | refine l_nil ?_
  repeat refine c_seq ?_
  refine c_region ?_; refine l_op (o_val r_mv ?_); first | refine l_end ?_ | refine l_nil ?_
  repeat refine c_seq ?_
  refine c_block ?_; replace H := H.nilEnd 29 32
  refine c_rangeK (FX := [.blk bb ([.map (some b)]) 68, .obj b (mobj kA M c)]) (Got := fun kk aa => F kk = some aa) (All := fun vis => vis.Nodup ∧ ∀ j, j ∈ vis ↔ (F j).isSome = true) (I := fun (vis : List Id32) (x : List Id32 × Option Nat × Nat) => match x with | (vis0, a, k) => vis0 = vis ∧ vis0.Nodup ∧ (∀ j ∈ vis0, (F j).isSome = true)) (x0 := ([], none, 0)) (itC := fun it vis => Ch.obj it (itO b M c vis)) (kv := kA) Try.func50 rfl rfl (fun Lv l w1 H1 hY => (keysItInt hM hF Lv (fun (vis : List Id32) (x : List Id32 × Option Nat × Nat) => match x with | (vis0, a, k) => vis0 = vis ∧ vis0.Nodup ∧ (∀ j ∈ vis0, (F j).isSome = true)) ([], none, 0) ⟨rfl, List.nodup_nil, fun _ h => (by cases h)⟩ H1 (fun it vis x kk aa W hI hf hk _ _ HW => hY it vis x kk aa W hI hf hk HW)).mono (fun _ _ ⟨vis, x, h1, h2, h3, h4⟩ => ⟨vis, x, h1, ⟨h2, h3⟩, h4⟩)) rfl (fun x : List Id32 × Option Nat × Nat => match x with | (vis0, a, k) => [.blk b1 ([.slice (hd a) vis0.length k]) 23, .own a vis0.length k ((vis0).flatMap idE) 29 32]) H ?_ ?_
  ·
   rintro l T vis x kk aa w hI hgot hk H
   obtain ⟨vis0, a, k⟩ := x
   replace hI : vis0 = vis ∧ vis0.Nodup ∧ (∀ j ∈ vis0, (F j).isSome = true) := hI
   replace H : Hp w0 w (keys [.blk bb [.map (some b)] 68, .obj b (mobj kA M c)]) (Ch.blk bb ([.map (some b)]) 68 :: Ch.obj b (mobj kA M c) :: Ch.blk b1 ([.slice (hd a) vis0.length k]) 23 :: Ch.own a vis0.length k ((vis0).flatMap idE) 29 32 :: T) := H
   repeat refine wpIn_seq ?_
   refine i_region (by rfl) (by rintro ⟨_, _, h⟩; first | exact (show False from h) | cases (And.left h : Exit.outgrown = Exit.normal)) ?_; refine l_op (o_alloc H zc29 (fun b2 w H hb2 => ?_)); replace H := H.rot
   replace H : Hp _ w _ (Ch.blk b2 ((List.replicate 32 (0 : UInt8)).map V8) 29 :: Ch.blk bb ([.map (some b)]) 68 :: Ch.obj b (mobj kA M c) :: Ch.blk b1 ([.slice (hd a) vis0.length k]) 23 :: Ch.own a vis0.length k ((vis0).flatMap idE) 29 32 :: T) := H
   refine l_op (o_stA (l' := kk.1) H (i := 0) rfl rfl rfl cs29 (show (List.replicate 32 (0 : UInt8)).length = 32 from (List.length_replicate ..)) (show (kk.1).length = 32 from kk.2) (fun w H => ?_)); replace H : Hp _ w _ (Ch.blk b2 ((kk.1).map V8) 29 :: Ch.blk bb ([.map (some b)]) 68 :: Ch.obj b (mobj kA M c) :: Ch.blk b1 ([.slice (hd a) vis0.length k]) 23 :: Ch.own a vis0.length k ((vis0).flatMap idE) 29 32 :: T) := H
   first | refine i_end ?_ | refine l_nil ?_
   try dsimp only [Exit.then, Exit.inBlock]
   refine ⟨[.blk b2 ((kk.1).map V8) 29, .blk bb ([.map (some b)]) 68, .obj b (mobj kA M c), .blk b1 ([.slice (hd a) vis0.length k]) 23, .own a vis0.length k ((vis0).flatMap idE) 29 32], H, ?_⟩
   intro T w H
   replace H : Hp w0 w (keys [.blk bb [.map (some b)] 68, .obj b (mobj kA M c)]) (Ch.blk b2 ((kk.1).map V8) 29 :: Ch.blk bb ([.map (some b)]) 68 :: Ch.obj b (mobj kA M c) :: Ch.blk b1 ([.slice (hd a) vis0.length k]) 23 :: Ch.own a vis0.length k ((vis0).flatMap idE) 29 32 :: T) := H
   repeat refine wpIn_seq ?_
   refine i_block ?_; obtain ⟨hv0, hvn, hvs0⟩ := hI
   subst hv0
   have hvs := vis_snoc hvn hvs0 hgot hk
   have hnv : vis0.length ≤ 65536 := hcard vis0 hvn hvs0
   repeat refine wpIn_seq ?_
   refine i_region (by rfl) (by rintro ⟨_, _, h⟩; first | exact (show False from h) | cases (And.left h : Exit.outgrown = Exit.normal)) ?_; refine l_op (o_val (r_ld H (i := 3) rfl rfl ct23 rfl) ?_); refine l_op (o_val (r_ldAA (l := kk.1) H (i := 0) rfl rfl rt29 (show (kk.1).length = 32 from kk.2)) ?_); refine l_op (o_bslG1 (enc := idE) (kk) H sl23 zc29 (by rfl) (by decide) (by decide) rfl (idE_len _) (fun b3 w H hb3 => ?_)); replace H := H.rot
   replace H : Hp _ w _ (Ch.own (some b3) 1 1 (([kk]).flatMap idE) 29 32 :: Ch.blk b2 ((kk.1).map V8) 29 :: Ch.blk bb ([.map (some b)]) 68 :: Ch.obj b (mobj kA M c) :: Ch.blk b1 ([.slice (hd a) vis0.length k]) 23 :: Ch.own a vis0.length k ((vis0).flatMap idE) 29 32 :: T) := H
   refine l_op (o_appG (enc := idE) (s := ⟨hd (some b3), 1, 1, [kk]⟩) (l' := vis0 ++ ([kk])) (len' := vis0.length + 1) rfl rfl H (i := 5) rfl sl23 Try.underlying23 rfl rfl (H.glOwn (i := 0) rfl (by decide) (fun c _ => idE_len c)) (by decide) (fun c _ => idE_all c) (by omega) (by decide) (fun a4 c5 w H => ?_)); replace H : Hp _ w _ (Ch.own (some b3) 1 1 (([kk]).flatMap idE) 29 32 :: Ch.blk b2 ((kk.1).map V8) 29 :: Ch.blk bb ([.map (some b)]) 68 :: Ch.obj b (mobj kA M c) :: Ch.blk b1 ([.slice (hd a) vis0.length k]) 23 :: Ch.own a4 (vis0.length + 1) c5 ((vis0 ++ ([kk])).flatMap idE) 29 32 :: T) := H
   refine l_op (o_st (v := .slice (hd a4) (vis0.length + 1) c5) H (i := 4) rfl rfl rfl cs23 rfl (by first | decide | simp) (fun w H => ?_)); replace H : Hp _ w _ (Ch.own (some b3) 1 1 (([kk]).flatMap idE) 29 32 :: Ch.blk b2 ((kk.1).map V8) 29 :: Ch.blk bb ([.map (some b)]) 68 :: Ch.obj b (mobj kA M c) :: Ch.blk b1 ([.slice (hd a4) (vis0.length + 1) c5]) 23 :: Ch.own a4 (vis0.length + 1) c5 ((vis0 ++ ([kk])).flatMap idE) 29 32 :: T) := H
   first | refine i_end ?_ | refine l_nil ?_
   try dsimp only [Exit.then, Exit.inBlock]
   have hfl2 : vis0.length + 1 = (vis0 ++ [kk]).length := by rw [List.length_append]; rfl
   rw [hfl2] at H
   exact ⟨rfl, (vis0 ++ [kk], a4, c5), ⟨rfl, hvs.1, fun j hj => hvs.2 j hj⟩, H.sub (.cons _ (.cons _ (.cons_cons _ (.cons_cons _ (.cons_cons _ (.cons_cons _ (List.Sublist.refl _)))))))⟩
  ·
   rintro D vis x w hI hA H
   obtain ⟨vis0, a, k⟩ := x
   replace hI : vis0 = vis ∧ vis0.Nodup ∧ (∀ j ∈ vis0, (F j).isSome = true) := hI
   replace H : Hp w0 w (keys [.blk bb [.map (some b)] 68, .obj b (mobj kA M c)]) ([.obj D (.deferred (some [])), .blk bb ([.map (some b)]) 68, .obj b (mobj kA M c), .blk b1 ([.slice (hd a) vis0.length k]) 23, .own a vis0.length k ((vis0).flatMap idE) 29 32]) := H
   obtain ⟨hv0, hvn, hvs0⟩ := hI
   subst hv0
   have hnv : vis0.length ≤ 65536 := hcard vis0 hvn hvs0
   repeat refine c_seq ?_
   refine c_region ?_; refine l_op (d_val (r_ld H (i := 3) rfl rfl ct23 rfl) ?_); refine l_op (d_val (r_as) ?_); first | refine l_end ?_ | refine l_nil ?_
   refine c_ret ?_; try dsimp only [Exit.then, Exit.inBlock]
   refine m_ret1 (v := .slice (hd a) vis0.length k) Try.results65 rfl H (i := 0) rfl ?_
   intro w H
   replace H : Hp w0 w (keys [.blk bb [.map (some b)] 68, .obj b (mobj kA M c)]) ([.blk bb ([.map (some b)]) 68, .obj b (mobj kA M c), .blk b1 ([.slice (hd a) vis0.length k]) 23, .own a vis0.length k ((vis0).flatMap idE) 29 32]) := H
   refine ⟨_, rfl, ?_⟩
   refine ⟨a, k, vis0, hA, rfl, H.sub (.cons_cons _ (.cons_cons _ (.cons _ (.cons_cons _ (List.nil_sublist _)))))⟩
theorem collect_ret (w0 : World) (bb b c : Nat) (M : List (Id32 × Value × Nat)) (F : Id32 → Option Int) (hF : MIs VI M F) (hM : MOk M c) (hO : Own w0 [.blk bb [.map (some b)] 68, .obj b (mobj kA M c)]) (hcard : ∀ l : List Id32, l.Nodup → (∀ j ∈ l, (F j).isSome = true) → l.length ≤ 65536) :
    Ret Try.prog 49 [.func (.func 50) #[] #[.pointer (some ⟨bb, 0, none⟩)]] w0 fun v w' => ∃ (a : Option Nat) (k : Nat) (R : List Id32), (R.Nodup ∧ ∀ k, k ∈ R ↔ (F k).isSome = true) ∧ v = .slice (hd a) R.length k ∧ Hp w0 w' (keys [.blk bb [.map (some b)] 68, .obj b (mobj kA M c)]) [.blk bb [.map (some b)] 68, .obj b (mobj kA M c), .own a R.length k (R.flatMap idE) 29 32] := by
  refine ret_mk Try.func49 rfl Try.ntmps49 (by simp) ?_
  have H : Hp w0 w0 (keys [.blk bb [.map (some b)] 68, .obj b (mobj kA M c)]) [Ch.blk bb ([.map (some b)]) 68, .obj b (mobj kA M c)] := hO.start
  repeat refine c_seq ?_
  refine c_region ?_; refine l_op (o_val r_as ?_); first | refine l_end ?_ | refine l_nil ?_
  repeat refine c_seq ?_
  refine c_region ?_; refine l_op (o_val r_mv ?_); refine l_op (o_callR Try.func65 rfl rfl rfl (appseq_ret _ bb b c M F hF hM (H.ownP (LL := [.blk bb ([.map (some b)]) 68, .obj b (mobj kA M c)]) (L1 := [.blk bb ([.map (some b)]) 68, .obj b (mobj kA M c)]) (Lr := []) (.refl _) rfl) hcard) ?_); rintro _ w ⟨a1, k2, R3, hsq4, rfl, Hc⟩
  replace H := H.callP (L1 := [.blk bb ([.map (some b)]) 68, .obj b (mobj kA M c)]) (Lr := []) (LL := [.blk bb ([.map (some b)]) 68, .obj b (mobj kA M c)]) (.refl _) rfl Hc (.refl _)
  clear Hc
  replace H : Hp _ w _ ([.blk bb ([.map (some b)]) 68, .obj b (mobj kA M c), .own a1 R3.length k2 ((R3).flatMap idE) 29 32]) := H
  refine l_op (o_val r_as ?_); first | refine l_end ?_ | refine l_nil ?_
  refine c_ret ?_; try dsimp only [Exit.then, Exit.inBlock]
  refine e_ret1 (v := .slice (hd a1) R3.length k2) Try.results49 rfl ?_
  refine ⟨_, rfl, ?_⟩
  exact ⟨_, _, _, hsq4, rfl, H.sub (.cons_cons _ (.cons_cons _ (.cons_cons _ (List.nil_sublist _))))⟩
theorem sorted_ret (w0 : World) (bb b c : Nat) (M : List (Id32 × Value × Nat)) (F : Id32 → Option Int) (hF : MIs VI M F) (hM : MOk M c) (hO : Own w0 [.blk bb [.map (some b)] 68, .obj b (mobj kA M c)]) (hcard : ∀ l : List Id32, l.Nodup → (∀ j ∈ l, (F j).isSome = true) → l.length ≤ 65536) :
    Ret Try.prog 32 [.func (.func 50) #[] #[.pointer (some ⟨bb, 0, none⟩)], .func (.func 34) #[] #[]] w0 fun v w' => ∃ (a : Option Nat) (k : Nat) (R : List Id32), (RisA R ∧ ∀ k, k ∈ R ↔ (F k).isSome = true) ∧ v = .slice (hd a) R.length k ∧ Hp w0 w' (keys [.blk bb [.map (some b)] 68, .obj b (mobj kA M c)]) [.blk bb [.map (some b)] 68, .obj b (mobj kA M c), .own a R.length k (R.flatMap idE) 29 32] := by
  refine ret_mk Try.func32 rfl Try.ntmps32 (by simp) ?_
  have H : Hp w0 w0 (keys [.blk bb [.map (some b)] 68, .obj b (mobj kA M c)]) [Ch.blk bb ([.map (some b)]) 68, .obj b (mobj kA M c)] := hO.start
  repeat refine c_seq ?_
  refine c_region ?_; refine l_op (o_val r_as ?_); first | refine l_end ?_ | refine l_nil ?_
  repeat refine c_seq ?_
  refine c_region ?_; refine l_op (o_val r_mv ?_); refine l_op (o_callR Try.func49 rfl rfl rfl (collect_ret _ bb b c M F hF hM (H.ownP (LL := [.blk bb ([.map (some b)]) 68, .obj b (mobj kA M c)]) (L1 := [.blk bb ([.map (some b)]) 68, .obj b (mobj kA M c)]) (Lr := []) (.refl _) rfl) hcard) ?_); rintro _ w ⟨a1, k2, R3, hsq4, rfl, Hc⟩
  replace H := H.callP (L1 := [.blk bb ([.map (some b)]) 68, .obj b (mobj kA M c)]) (Lr := []) (LL := [.blk bb ([.map (some b)]) 68, .obj b (mobj kA M c)]) (.refl _) rfl Hc (.refl _)
  clear Hc
  replace H : Hp _ w _ ([.blk bb ([.map (some b)]) 68, .obj b (mobj kA M c), .own a1 R3.length k2 ((R3).flatMap idE) 29 32]) := H
  refine l_op (o_val r_as ?_); first | refine l_end ?_ | refine l_nil ?_
  have hcl := hcard R3 hsq4.1 (fun j hj => (hsq4.2 j).1 hj)
  repeat refine c_seq ?_
  refine c_region ?_; refine l_op (o_val r_mv ?_); refine l_op (o_val r_mv ?_); refine l_op (o_callR Try.func39 rfl rfl rfl (sortAWlk H (i := 2) rfl rfl (by omega)) ?_); rintro _ w ⟨rfl, Hc⟩
  clear H
  have H := Hc; clear Hc
  replace H : Hp _ w _ ([_, _, .own a1 R3.length k2 ((sortA R3).flatMap idE) 29 32]) := H
  first | refine l_end ?_ | refine l_nil ?_
  repeat refine c_seq ?_
  refine c_region ?_; refine l_op (o_val r_mv ?_); refine l_op (o_val r_as ?_); first | refine l_end ?_ | refine l_nil ?_
  refine c_ret ?_; try dsimp only [Exit.then, Exit.inBlock]
  refine e_ret1 (v := .slice (hd a1) R3.length k2) Try.results32 rfl ?_
  refine ⟨_, rfl, ?_⟩
  have hs := sortA_ris hsq4.1
  refine ⟨a1, k2, sortA R3, ⟨hs.1, fun k => (hs.2 k).trans (hsq4.2 k)⟩, ?_, ?_⟩
  · rw [sortA_len]
  · rw [sortA_len]; exact H.sub (.cons_cons _ (.cons_cons _ (.cons_cons _ (List.nil_sublist _))))
theorem wbegin2_ret (w0 : World) (g : Gl Ob) (hg : g.ok obE 33 w0) (horaw : ∀ o ∈ g.l, o.data.ok w0) (tell : Bool) : Ret Try.prog 30 [g.v, .bool tell] w0 fun v w' => ∃ wb z, v = .pointer (some ⟨wb, 0, none⟩) ∧ z.ok g.l ∧ z.tl = tell ∧ Rel z 0 ⟨0, [], [], 0⟩ ∧ Hp w0 w' [] (wch wb z 0) := by
  refine (wbegin_ret w0 g hg horaw tell).mono fun v w' ⟨wb, mo, mm, Mo, co, hF, hM, hv, H⟩ => ?_
  refine ⟨wb, ⟨mo, Mo, co, mm, [], 0, fun _ => none, 0, tell, none, 0, []⟩, hv, ⟨hF, hM, MIs.nil, MOk.nil, fun k v h => (by cases h), Nat.zero_le _, fun f hf => (by cases hf), Nat.zero_le _⟩, rfl, ⟨rfl, fun _ => ⟨rfl, fun k => ⟨fun h => (by cases h), fun h => (by cases h)⟩, fun _ => rfl⟩⟩, ?_⟩
  have H2 := (H.permL (List.perm_append_comm (l₁ := [_, _]) (l₂ := [_]))).nilEnd 48 3
  exact H2
variable {L : List (Id32 × List UInt8)}
theorem wlkStep_names {s : WS} {t : Todo} (h : (wlkStep L s t).1.err = 0) : (wlkStep L s t).1.names.length = s.names.length + 1 := by
  unfold wlkStep at h ⊢
  split at h
  · simp at h
  · rename_i hc
    rw [if_neg hc]
    cases hd : lookO L t.of with
    | none => rw [hd] at h; simp at h
    | some d =>
      rw [hd] at h
      dsimp only at h ⊢
      by_cases hk : t.kind = 1
      · rw [if_pos hk] at h ⊢
        by_cases hs : (d.length : Int) ≠ t.size
        · rw [if_pos hs] at h; simp at h
        · rw [if_neg hs]; simp
      · rw [if_neg hk] at h ⊢
        cases ht : takeF d with
        | none => rw [ht] at h; simp at h
        | some its => simp
theorem wlkRun_names : ∀ (n : Nat) (a : List Todo) (s : WS), s.names.length = s.met → (wlkRun L n a s).err = 0 → (wlkRun L n a s).names.length = (wlkRun L n a s).met
  | 0, _, s, h, _ => h
  | n + 1, [], s, h, _ => h
  | n + 1, t :: a, s, h0, h => by
    by_cases he : (wlkStep L s t).1.err = 0
    · rw [wlkRun_good he] at h ⊢
      exact wlkRun_names n _ _ (by rw [wlkStep_names he, (wlkStep_met he).1, h0]) h
    · rw [wlkRun_bad he] at h; exact absurd h he
theorem run_card {a : List Todo} {s : WS} {G : Id32 → Option Int} (hs : s.names.length = s.met) (hm : s.met ≤ 1024) (h : (wlkAll L a s).err = 0) (hG : ∀ k, (G k).isSome = true ↔ k ∈ (wlkAll L a s).names) (m : List Id32) (hn : m.Nodup) (hj : ∀ j ∈ m, (G j).isSome = true) : m.length ≤ 1024 := by
  have h1 := nd_le (m := (wlkAll L a s).names) hn (fun x hx => (hG x).1 (hj x hx))
  have h2 : (wlkAll L a s).names.length = (wlkAll L a s).met := wlkRun_names _ _ _ hs h
  have h3 := wlkAll_met hm h
  omega
end Go.Proofs.Ytomjbabllcmodaa
namespace Go.Proofs.Ytomjbabllcmodaa
open Go
set_option maxRecDepth 100000
def FilesOk (W : WS) (fs : List Fl) : Prop := (W.err = 0 → fs.map Fl.key = W.files.map Fil.key) ∧ (W.err ≠ 0 → fs = []) ∧ (∀ f ∈ fs, f.data.a = hd (f.data.a.map (·.block)) ∧ f.data.l.length = f.data.len) ∧ fs.length ≤ 1024
def NamesOk (W : WS) (R : List Id32) : Prop := (W.err = 0 → RisA R ∧ ∀ k, k ∈ R ↔ k ∈ W.names) ∧ (W.err ≠ 0 → R = [])
theorem wfiles_ret (w0 : World) (g : Gl Ob) (hg : g.ok obE 33 w0) (ho : ∀ o ∈ g.l, o.data.ok w0 ∧ o.data.len ≤ 1048576) (k : Id32) :
    Ret Try.prog 19 [g.v, .agg ((k.1).map V8).toArray] w0 fun v w' => ∃ (a : Option Nat) (c : Nat) (fs : List Fl), v = .tuple #[.slice (hd a) fs.length c, VI (wlkAll (obL g.l) [⟨2, k, 0, 1, []⟩] ⟨0, [], [], 0⟩).err] ∧ FilesOk (wlkAll (obL g.l) [⟨2, k, 0, 1, []⟩] ⟨0, [], [], 0⟩) fs ∧ Hp w0 w' [] (.own a fs.length c (fs.flatMap flE) 48 3 :: fs.map fch) := by
  refine ret_mk Try.func19 rfl Try.ntmps19 (by simp) ?_
  have H := Hp.refl w0 []
  have hap : ∀ o ∈ g.l, o.data.l ≠ [] → Apart o.data.a ([] : List Nat) := fun _ _ _ => apart_nil _
  repeat refine c_seq ?_
  refine c_region ?_; refine l_op (o_box (v := .agg ((k.1).map V8).toArray) H rfl (fun b1 w H hb1 => ?_)); replace H : Hp _ w _ ([.blk b1 ((k.1).map V8) 29]) := H
  refine l_op (o_val r_as ?_); refine l_op (o_val r_as ?_); first | refine l_end ?_ | refine l_nil ?_
  repeat refine c_seq ?_
  refine c_region ?_; refine l_op (o_val r_mv ?_); refine l_op (o_callR Try.func30 rfl rfl rfl (wbegin2_ret _ g (hg.up H) (fun o h => (ho_up ho hap H o h).1) true) ?_); rintro _ w ⟨wb2, zz3, rfl, hzz4, htt5, hrr6, Hc⟩
  replace H : Hp _ w _ (Ch.blk b1 ((k.1).map V8) 29 :: Ch.blk wb2 ([.map (some zz3.mo), .map (some zz3.mm), VI (zz3.n : Int), .bool zz3.tl, .slice (hd zz3.fa) zz3.fs.length zz3.fc, VI 0]) 70 :: Ch.obj zz3.mo (mobj kA zz3.Mo zz3.co) :: Ch.obj zz3.mm (mobj kA zz3.Mm zz3.cm) :: Ch.own zz3.fa zz3.fs.length zz3.fc ((zz3.fs).flatMap flE) 48 3 :: zz3.T) := H.call Hc
  clear Hc
  refine l_op (o_val r_as ?_); first | refine l_end ?_ | refine l_nil ?_
  repeat refine c_seq ?_
  refine c_region ?_; refine l_op (o_val r_mv ?_); refine l_op (o_val (r_ldAA (l := k.1) H (i := 0) rfl rfl rt29 (show (k.1).length = 32 from k.2)) ?_); refine l_op (o_callR Try.func31 rfl rfl rfl (wenter_all g.l _ wb2 zz3 (H.ownT (L := [.blk b1 ((k.1).map V8) 29, .blk wb2 ([.map (some zz3.mo), .map (some zz3.mm), VI (zz3.n : Int), .bool zz3.tl, .slice (hd zz3.fa) zz3.fs.length zz3.fc, VI 0]) 70, .obj zz3.mo (mobj kA zz3.Mo zz3.co), .obj zz3.mm (mobj kA zz3.Mm zz3.cm), .own zz3.fa zz3.fs.length zz3.fc ((zz3.fs).flatMap flE) 48 3]) (L1 := [.blk wb2 ([.map (some zz3.mo), .map (some zz3.mm), VI (zz3.n : Int), .bool zz3.tl, .slice (hd zz3.fa) zz3.fs.length zz3.fc, VI 0]) 70, .obj zz3.mo (mobj kA zz3.Mo zz3.co), .obj zz3.mm (mobj kA zz3.Mm zz3.cm), .own zz3.fa zz3.fs.length zz3.fc ((zz3.fs).flatMap flE) 48 3]) (Lr := ([.blk b1 ((k.1).map V8) 29] : List Ch)) (T := zz3.T) ((perm_front (j := 1) rfl).trans (.cons _ ((perm_front (j := 1) rfl).trans (.cons _ ((perm_front (j := 1) rfl).trans (.cons _ ((perm_front (j := 1) rfl).trans (.cons _ (.refl _)))))))))) hzz4 (ho_up ho hap H) (ap_turn hap ho H (L := [.blk b1 ((k.1).map V8) 29, .blk wb2 ([.map (some zz3.mo), .map (some zz3.mm), VI (zz3.n : Int), .bool zz3.tl, .slice (hd zz3.fa) zz3.fs.length zz3.fc, VI 0]) 70, .obj zz3.mo (mobj kA zz3.Mo zz3.co), .obj zz3.mm (mobj kA zz3.Mm zz3.cm), .own zz3.fa zz3.fs.length zz3.fc ((zz3.fs).flatMap flE) 48 3]) (L1 := [.blk wb2 ([.map (some zz3.mo), .map (some zz3.mm), VI (zz3.n : Int), .bool zz3.tl, .slice (hd zz3.fa) zz3.fs.length zz3.fc, VI 0]) 70, .obj zz3.mo (mobj kA zz3.Mo zz3.co), .obj zz3.mm (mobj kA zz3.Mm zz3.cm), .own zz3.fa zz3.fs.length zz3.fc ((zz3.fs).flatMap flE) 48 3]) (Lr := ([.blk b1 ((k.1).map V8) 29] : List Ch)) (T := zz3.T) ((perm_front (j := 1) rfl).trans (.cons _ ((perm_front (j := 1) rfl).trans (.cons _ ((perm_front (j := 1) rfl).trans (.cons _ ((perm_front (j := 1) rfl).trans (.cons _ (.refl _)))))))))) _ hrr6 k 0 [] [] rfl (by simp)) ?_); rintro _ w ⟨zz7, ee8, hzz9, htt10, hrr11, Hc⟩
  replace H := H.callT (L1' := [.blk wb2 ([.map (some zz7.mo), .map (some zz7.mm), VI (zz7.n : Int), .bool zz7.tl, .slice (hd zz7.fa) zz7.fs.length zz7.fc, VI ee8]) 70, .obj zz7.mo (mobj kA zz7.Mo zz7.co), .obj zz7.mm (mobj kA zz7.Mm zz7.cm), .own zz7.fa zz7.fs.length zz7.fc ((zz7.fs).flatMap flE) 48 3]) (T' := zz7.T) (L := [.blk b1 ((k.1).map V8) 29, .blk wb2 ([.map (some zz3.mo), .map (some zz3.mm), VI (zz3.n : Int), .bool zz3.tl, .slice (hd zz3.fa) zz3.fs.length zz3.fc, VI 0]) 70, .obj zz3.mo (mobj kA zz3.Mo zz3.co), .obj zz3.mm (mobj kA zz3.Mm zz3.cm), .own zz3.fa zz3.fs.length zz3.fc ((zz3.fs).flatMap flE) 48 3]) (L1 := [.blk wb2 ([.map (some zz3.mo), .map (some zz3.mm), VI (zz3.n : Int), .bool zz3.tl, .slice (hd zz3.fa) zz3.fs.length zz3.fc, VI 0]) 70, .obj zz3.mo (mobj kA zz3.Mo zz3.co), .obj zz3.mm (mobj kA zz3.Mm zz3.cm), .own zz3.fa zz3.fs.length zz3.fc ((zz3.fs).flatMap flE) 48 3]) (Lr := ([.blk b1 ((k.1).map V8) 29] : List Ch)) (T := zz3.T) ((perm_front (j := 1) rfl).trans (.cons _ ((perm_front (j := 1) rfl).trans (.cons _ ((perm_front (j := 1) rfl).trans (.cons _ ((perm_front (j := 1) rfl).trans (.cons _ (.refl _))))))))) Hc (.refl _)
  clear Hc
  replace H : Hp _ w _ (Ch.blk b1 ((k.1).map V8) 29 :: Ch.blk wb2 ([.map (some zz7.mo), .map (some zz7.mm), VI (zz7.n : Int), .bool zz7.tl, .slice (hd zz7.fa) zz7.fs.length zz7.fc, VI ee8]) 70 :: Ch.obj zz7.mo (mobj kA zz7.Mo zz7.co) :: Ch.obj zz7.mm (mobj kA zz7.Mm zz7.cm) :: Ch.own zz7.fa zz7.fs.length zz7.fc ((zz7.fs).flatMap flE) 48 3 :: zz7.T) := H
  first | refine l_end ?_ | refine l_nil ?_
  repeat refine c_seq ?_
  refine c_region ?_; refine l_op (o_val r_mv ?_); refine l_op (o_val (r_nilc rfl) ?_); refine l_op (o_val (r_fa rfl fo70_5) ?_); refine l_op (o_val (r_ld (v := VI ee8) H (i := 1) rfl rfl ct37 rfl) ?_); refine l_op (o_val (r_bin (a := ee8) (b := 0) rfl rfl (fun _ => b_neq)) ?_); first | refine l_end ?_ | refine l_nil ?_
  by_cases hc12 : ee8 ≠ 0
  ·
   repeat refine c_seq ?_
   refine c_yes (by exact congrArg Value.bool (decide_eq_true hc12)) ?_; repeat refine c_seq ?_
   refine c_still mixed (by kernel_rfl) ?_; replace H := H.drew
   refine s_op (r_mv) ?_; refine s_op (r_nilc rfl) ?_; refine s_op (r_fa rfl fo70_5) ?_; refine s_op (r_ld (v := VI ee8) H (i := 1) rfl rfl ct37 rfl) ?_; refine s_op (r_as) ?_; refine s_op (r_as) ?_; refine s_nil ?_; refine c_ret ?_; try dsimp only [Exit.then, Exit.inBlock]
   refine e_retN (vs := [.slice none 0 0, VI ee8]) _ Try.results19 rfl (resT (v := .slice none 0 0) rfl (resT (v := VI ee8) rfl (resZ))) ?_
   refine ⟨_, rfl, ?_⟩
   have he := hrr11.1
   exact ⟨none, 0, [], by rw [← he]; rfl, ⟨fun h => absurd (he.trans h) (by omega), fun _ => rfl, fun f hf => (by cases hf), Nat.zero_le _⟩, (H.sub (List.nil_sublist _)).nilEnd 48 3⟩
  ·
   repeat refine c_seq ?_
   refine c_no (by exact congrArg Value.bool (decide_eq_false hc12)) ?_; refine c_skip ?_; repeat refine c_seq ?_
   refine c_region ?_; refine l_op (o_val r_mv ?_); refine l_op (o_val (r_nilc rfl) ?_); refine l_op (o_val (r_fa rfl fo70_4) ?_); refine l_op (o_val (r_ld (v := .slice (hd zz7.fa) zz7.fs.length zz7.fc) H (i := 1) rfl rfl ct40 rfl) ?_); refine l_op (o_val r_as ?_); refine l_op (o_val r_as ?_); first | refine l_end ?_ | refine l_nil ?_
   refine c_ret ?_; try dsimp only [Exit.then, Exit.inBlock]
   refine e_retN (vs := [.slice (hd zz7.fa) zz7.fs.length zz7.fc, VI 0]) _ Try.results19 rfl (resT (v := .slice (hd zz7.fa) zz7.fs.length zz7.fc) rfl (resT (v := VI 0) rfl (resZ))) ?_
   refine ⟨_, rfl, ?_⟩
   have he0 : ee8 = 0 := by omega
   subst he0
   exact ⟨zz7.fa, zz7.fc, zz7.fs, by rw [← hrr11.1], ⟨fun h => (hrr11.2 h).2.2 (htt10.trans htt5), fun h => absurd hrr11.1.symm h, (hzz9 rfl).fat, by have h1 := (hzz9 rfl).fl; have h2 := (hzz9 rfl).nn; omega⟩, H.sub (.cons _ (.cons _ (.cons _ (.cons _ (.cons_cons _ (List.Sublist.refl _))))))⟩
theorem wclose_ret (w0 : World) (g : Gl Ob) (hg : g.ok obE 33 w0) (ho : ∀ o ∈ g.l, o.data.ok w0 ∧ o.data.len ≤ 1048576) (k : Id32) :
    Ret Try.prog 18 [g.v, .agg ((k.1).map V8).toArray] w0 fun v w' => ∃ (a : Option Nat) (c : Nat) (R : List Id32), v = .tuple #[.slice (hd a) R.length c, VI (wlkAll (obL g.l) [⟨2, k, 0, 1, []⟩] ⟨0, [], [], 0⟩).err] ∧ NamesOk (wlkAll (obL g.l) [⟨2, k, 0, 1, []⟩] ⟨0, [], [], 0⟩) R ∧ Hp w0 w' [] [.own a R.length c (R.flatMap idE) 29 32] := by
  refine ret_mk Try.func18 rfl Try.ntmps18 (by simp) ?_
  have H := Hp.refl w0 []
  have hap : ∀ o ∈ g.l, o.data.l ≠ [] → Apart o.data.a ([] : List Nat) := fun _ _ _ => apart_nil _
  repeat refine c_seq ?_
  refine c_region ?_; refine l_op (o_box (v := .agg ((k.1).map V8).toArray) H rfl (fun b1 w H hb1 => ?_)); replace H : Hp _ w _ ([.blk b1 ((k.1).map V8) 29]) := H
  refine l_op (o_val r_as ?_); refine l_op (o_val r_as ?_); first | refine l_end ?_ | refine l_nil ?_
  repeat refine c_seq ?_
  refine c_region ?_; refine l_op (o_val r_mv ?_); refine l_op (o_callR Try.func30 rfl rfl rfl (wbegin2_ret _ g (hg.up H) (fun o h => (ho_up ho hap H o h).1) false) ?_); rintro _ w ⟨wb2, zz3, rfl, hzz4, htt5, hrr6, Hc⟩
  replace H : Hp _ w _ (Ch.blk b1 ((k.1).map V8) 29 :: Ch.blk wb2 ([.map (some zz3.mo), .map (some zz3.mm), VI (zz3.n : Int), .bool zz3.tl, .slice (hd zz3.fa) zz3.fs.length zz3.fc, VI 0]) 70 :: Ch.obj zz3.mo (mobj kA zz3.Mo zz3.co) :: Ch.obj zz3.mm (mobj kA zz3.Mm zz3.cm) :: Ch.own zz3.fa zz3.fs.length zz3.fc ((zz3.fs).flatMap flE) 48 3 :: zz3.T) := H.call Hc
  clear Hc
  refine l_op (o_val r_as ?_); first | refine l_end ?_ | refine l_nil ?_
  repeat refine c_seq ?_
  refine c_region ?_; refine l_op (o_val r_mv ?_); refine l_op (o_val (r_ldAA (l := k.1) H (i := 0) rfl rfl rt29 (show (k.1).length = 32 from k.2)) ?_); refine l_op (o_callR Try.func31 rfl rfl rfl (wenter_all g.l _ wb2 zz3 (H.ownT (L := [.blk b1 ((k.1).map V8) 29, .blk wb2 ([.map (some zz3.mo), .map (some zz3.mm), VI (zz3.n : Int), .bool zz3.tl, .slice (hd zz3.fa) zz3.fs.length zz3.fc, VI 0]) 70, .obj zz3.mo (mobj kA zz3.Mo zz3.co), .obj zz3.mm (mobj kA zz3.Mm zz3.cm), .own zz3.fa zz3.fs.length zz3.fc ((zz3.fs).flatMap flE) 48 3]) (L1 := [.blk wb2 ([.map (some zz3.mo), .map (some zz3.mm), VI (zz3.n : Int), .bool zz3.tl, .slice (hd zz3.fa) zz3.fs.length zz3.fc, VI 0]) 70, .obj zz3.mo (mobj kA zz3.Mo zz3.co), .obj zz3.mm (mobj kA zz3.Mm zz3.cm), .own zz3.fa zz3.fs.length zz3.fc ((zz3.fs).flatMap flE) 48 3]) (Lr := ([.blk b1 ((k.1).map V8) 29] : List Ch)) (T := zz3.T) ((perm_front (j := 1) rfl).trans (.cons _ ((perm_front (j := 1) rfl).trans (.cons _ ((perm_front (j := 1) rfl).trans (.cons _ ((perm_front (j := 1) rfl).trans (.cons _ (.refl _)))))))))) hzz4 (ho_up ho hap H) (ap_turn hap ho H (L := [.blk b1 ((k.1).map V8) 29, .blk wb2 ([.map (some zz3.mo), .map (some zz3.mm), VI (zz3.n : Int), .bool zz3.tl, .slice (hd zz3.fa) zz3.fs.length zz3.fc, VI 0]) 70, .obj zz3.mo (mobj kA zz3.Mo zz3.co), .obj zz3.mm (mobj kA zz3.Mm zz3.cm), .own zz3.fa zz3.fs.length zz3.fc ((zz3.fs).flatMap flE) 48 3]) (L1 := [.blk wb2 ([.map (some zz3.mo), .map (some zz3.mm), VI (zz3.n : Int), .bool zz3.tl, .slice (hd zz3.fa) zz3.fs.length zz3.fc, VI 0]) 70, .obj zz3.mo (mobj kA zz3.Mo zz3.co), .obj zz3.mm (mobj kA zz3.Mm zz3.cm), .own zz3.fa zz3.fs.length zz3.fc ((zz3.fs).flatMap flE) 48 3]) (Lr := ([.blk b1 ((k.1).map V8) 29] : List Ch)) (T := zz3.T) ((perm_front (j := 1) rfl).trans (.cons _ ((perm_front (j := 1) rfl).trans (.cons _ ((perm_front (j := 1) rfl).trans (.cons _ ((perm_front (j := 1) rfl).trans (.cons _ (.refl _)))))))))) _ hrr6 k 0 [] [] rfl (by simp)) ?_); rintro _ w ⟨zz7, ee8, hzz9, htt10, hrr11, Hc⟩
  replace H := H.callT (L1' := [.blk wb2 ([.map (some zz7.mo), .map (some zz7.mm), VI (zz7.n : Int), .bool zz7.tl, .slice (hd zz7.fa) zz7.fs.length zz7.fc, VI ee8]) 70, .obj zz7.mo (mobj kA zz7.Mo zz7.co), .obj zz7.mm (mobj kA zz7.Mm zz7.cm), .own zz7.fa zz7.fs.length zz7.fc ((zz7.fs).flatMap flE) 48 3]) (T' := zz7.T) (L := [.blk b1 ((k.1).map V8) 29, .blk wb2 ([.map (some zz3.mo), .map (some zz3.mm), VI (zz3.n : Int), .bool zz3.tl, .slice (hd zz3.fa) zz3.fs.length zz3.fc, VI 0]) 70, .obj zz3.mo (mobj kA zz3.Mo zz3.co), .obj zz3.mm (mobj kA zz3.Mm zz3.cm), .own zz3.fa zz3.fs.length zz3.fc ((zz3.fs).flatMap flE) 48 3]) (L1 := [.blk wb2 ([.map (some zz3.mo), .map (some zz3.mm), VI (zz3.n : Int), .bool zz3.tl, .slice (hd zz3.fa) zz3.fs.length zz3.fc, VI 0]) 70, .obj zz3.mo (mobj kA zz3.Mo zz3.co), .obj zz3.mm (mobj kA zz3.Mm zz3.cm), .own zz3.fa zz3.fs.length zz3.fc ((zz3.fs).flatMap flE) 48 3]) (Lr := ([.blk b1 ((k.1).map V8) 29] : List Ch)) (T := zz3.T) ((perm_front (j := 1) rfl).trans (.cons _ ((perm_front (j := 1) rfl).trans (.cons _ ((perm_front (j := 1) rfl).trans (.cons _ ((perm_front (j := 1) rfl).trans (.cons _ (.refl _))))))))) Hc (.refl _)
  clear Hc
  replace H : Hp _ w _ (Ch.blk b1 ((k.1).map V8) 29 :: Ch.blk wb2 ([.map (some zz7.mo), .map (some zz7.mm), VI (zz7.n : Int), .bool zz7.tl, .slice (hd zz7.fa) zz7.fs.length zz7.fc, VI ee8]) 70 :: Ch.obj zz7.mo (mobj kA zz7.Mo zz7.co) :: Ch.obj zz7.mm (mobj kA zz7.Mm zz7.cm) :: Ch.own zz7.fa zz7.fs.length zz7.fc ((zz7.fs).flatMap flE) 48 3 :: zz7.T) := H
  first | refine l_end ?_ | refine l_nil ?_
  repeat refine c_seq ?_
  refine c_region ?_; refine l_op (o_val r_mv ?_); refine l_op (o_val (r_nilc rfl) ?_); refine l_op (o_val (r_fa rfl fo70_5) ?_); refine l_op (o_val (r_ld (v := VI ee8) H (i := 1) rfl rfl ct37 rfl) ?_); refine l_op (o_val (r_bin (a := ee8) (b := 0) rfl rfl (fun _ => b_neq)) ?_); first | refine l_end ?_ | refine l_nil ?_
  by_cases hc12 : ee8 ≠ 0
  ·
   repeat refine c_seq ?_
   refine c_yes (by exact congrArg Value.bool (decide_eq_true hc12)) ?_; repeat refine c_seq ?_
   refine c_still mixed (by kernel_rfl) ?_; replace H := H.drew
   refine s_op (r_mv) ?_; refine s_op (r_nilc rfl) ?_; refine s_op (r_fa rfl fo70_5) ?_; refine s_op (r_ld (v := VI ee8) H (i := 1) rfl rfl ct37 rfl) ?_; refine s_op (r_as) ?_; refine s_op (r_as) ?_; refine s_nil ?_; refine c_ret ?_; try dsimp only [Exit.then, Exit.inBlock]
   refine e_retN (vs := [.slice none 0 0, VI ee8]) _ Try.results18 rfl (resT (v := .slice none 0 0) rfl (resT (v := VI ee8) rfl (resZ))) ?_
   refine ⟨_, rfl, ?_⟩
   have he := hrr11.1
   exact ⟨none, 0, [], by rw [← he]; rfl, ⟨fun h => absurd (he.trans h) (by omega), fun _ => rfl⟩, (H.sub (List.nil_sublist _)).nilEnd 29 32⟩
  ·
   repeat refine c_seq ?_
   refine c_no (by exact congrArg Value.bool (decide_eq_false hc12)) ?_; refine c_skip ?_; have he0 : ee8 = 0 := by omega
   subst he0
   replace H := H.sub (.cons _ (.cons_cons _ (.cons _ (.cons_cons _ (List.nil_sublist _)))))
   replace H : Hp _ w _ ([.blk wb2 ([.map (some zz7.mo), .map (some zz7.mm), VI (zz7.n : Int), .bool zz7.tl, .slice (hd zz7.fa) zz7.fs.length zz7.fc, VI 0]) 70, _]) := H
   repeat refine c_seq ?_
   refine c_region ?_; refine l_op (o_val r_mv ?_); refine l_op (o_val (r_nilc rfl) ?_); refine l_op (o_val (r_fa rfl fo70_1) ?_); refine l_op (o_val (r_ld (v := .map (some zz7.mm)) H (i := 0) rfl rfl ct68 rfl) ?_); refine l_op (o_callR Try.func33 rfl rfl rfl (mkeysInt_ret _ zz7.mm) ?_); rintro _ w ⟨bb13, rfl, Hc⟩
   replace H : Hp _ w _ ([_, _, .blk bb13 ([.map (some zz7.mm)]) 68]) := H.call Hc
   clear Hc
   refine l_op (o_callR Try.func32 rfl rfl rfl (sorted_ret _ bb13 zz7.mm zz7.cm zz7.Mm zz7.G (hzz9 rfl).hM (hzz9 rfl).hMk (H.ownP (LL := [.blk bb13 ([.map (some zz7.mm)]) 68, .obj zz7.mm (mobj kA zz7.Mm zz7.cm), .blk wb2 ([.map (some zz7.mo), .map (some zz7.mm), VI (zz7.n : Int), .bool zz7.tl, .slice (hd zz7.fa) zz7.fs.length zz7.fc, VI 0]) 70]) (L1 := [.blk bb13 ([.map (some zz7.mm)]) 68, .obj zz7.mm (mobj kA zz7.Mm zz7.cm)]) (Lr := [.blk wb2 ([.map (some zz7.mo), .map (some zz7.mm), VI (zz7.n : Int), .bool zz7.tl, .slice (hd zz7.fa) zz7.fs.length zz7.fc, VI 0]) 70]) ((perm_front (j := 2) rfl).trans (.cons _ ((perm_front (j := 1) rfl).trans (.cons _ (.refl _))))) rfl) (fun m hn hj => Nat.le_trans (run_card rfl (Nat.zero_le _) hrr11.1.symm (hrr11.2 hrr11.1.symm).2.1 m hn hj) (by decide))) ?_); rintro _ w ⟨a14, k15, R16, hsq17, rfl, Hc⟩
   replace H := H.callP (L1 := [.blk bb13 ([.map (some zz7.mm)]) 68, .obj zz7.mm (mobj kA zz7.Mm zz7.cm)]) (Lr := [.blk wb2 ([.map (some zz7.mo), .map (some zz7.mm), VI (zz7.n : Int), .bool zz7.tl, .slice (hd zz7.fa) zz7.fs.length zz7.fc, VI 0]) 70]) (LL := [.blk bb13 ([.map (some zz7.mm)]) 68, .obj zz7.mm (mobj kA zz7.Mm zz7.cm), .blk wb2 ([.map (some zz7.mo), .map (some zz7.mm), VI (zz7.n : Int), .bool zz7.tl, .slice (hd zz7.fa) zz7.fs.length zz7.fc, VI 0]) 70]) ((perm_front (j := 2) rfl).trans (.cons _ ((perm_front (j := 1) rfl).trans (.cons _ (.refl _))))) rfl Hc ((perm_front (j := 0) rfl).trans (.cons _ ((perm_front (j := 1) rfl).trans (.cons _ (.refl _)))))
   clear Hc
   replace H : Hp _ w _ ([_, _, _, .own a14 R16.length k15 ((R16).flatMap idE) 29 32]) := H
   refine l_op (o_val r_as ?_); refine l_op (o_val r_as ?_); first | refine l_end ?_ | refine l_nil ?_
   refine c_ret ?_; try dsimp only [Exit.then, Exit.inBlock]
   refine e_retN (vs := [.slice (hd a14) R16.length k15, VI 0]) _ Try.results18 rfl (resT (v := .slice (hd a14) R16.length k15) rfl (resT (v := VI 0) rfl (resZ))) ?_
   refine ⟨_, rfl, ?_⟩
   exact ⟨_, _, R16, by rw [← hrr11.1], ⟨fun h => ⟨hsq17.1, fun k => (hsq17.2 k).trans ((hrr11.2 h).2.1 k)⟩, fun h => absurd hrr11.1.symm h⟩, H.sub (.cons _ (.cons _ (.cons _ (.cons_cons _ (List.nil_sublist _)))))⟩
end Go.Proofs.Ytomjbabllcmodaa
namespace Go.Proofs.Ytomjbabllcmodaa
open Go
set_option maxRecDepth 100000
theorem ach_ok {w : World} {a : Option Nat} {n c : Nat} {l : List UInt8} {T : TypeId} (h : (Ch.own a n c (l.map V8) T 1).ok w) : (⟨hd a, n, c, l⟩ : Sl).ok w :=
  (Own.start (w := w) (L := [.own a n c (l.map V8) T 1]) ⟨fun d hd => by rw [List.mem_singleton.1 hd]; exact h, List.pairwise_singleton ..⟩).slOwn (i := 0) rfl
end Go.Proofs.Ytomjbabllcmodaa
namespace Go.Proofs.Ytomjbabllcmodaa
open Go
set_option maxRecDepth 100000
def bIt : It := ⟨[97], 1, shaI [7], 1⟩
def bDir : List UInt8 := fldB [bIt]
theorem sha_7d : (sha256 [7] == sha256 bDir) = false := by decide +kernel
theorem ne_of_beq {a b : List UInt8} (h : (sha256 a == sha256 b) = false) : shaI a ≠ shaI b := fun e => by
  have e3 : sha256 a = sha256 b := congrArg Subtype.val e
  rw [e3] at h
  simp at h
theorem nameOk_a : NameOk [97] := by decide
theorem bIt_may : MayF [bIt] := by
  refine ⟨by simp, fun x hx => ?_, fun i x y hx hy => ?_⟩
  · rw [List.mem_singleton.1 hx]
    exact ⟨nameOk_a, .inl rfl, by decide, by decide⟩
  · have := (List.getElem?_eq_some_iff.1 hy).1
    simp at this
theorem bDir_len : bDir.length = 39 := by
  have := (shaI [7]).2
  simp only [bDir, fldB, List.flatMap_cons, List.flatMap_nil, List.append_nil, itB, bIt, List.length_append, List.length_cons, List.length_nil, this]
  rw [cnt_one _ (by decide), cnt_one _ (by decide)]
  rfl
theorem bDir_take : takeF bDir = some [bIt] := takeF_some bIt_may rfl (by rw [bDir_len]; decide)
theorem bytesRes_ok {g : List It} {t : List UInt8} {e : Int} (h : BytesRes g t e) (hm : MayF g) (hl : (fldB g).length ≤ 4000) : e = 0 ∧ t = fldB g := by
  rcases h with ⟨h1, _, h2, _⟩ | ⟨_, _, h3⟩
  · exact ⟨h1, h2⟩
  · exact absurd ⟨mayB_of hm, hl⟩ h3
theorem ris_nodup {l : List Id32} (h : RisA l) : l.Nodup := h.imp fun {x y} hxy e => by rw [e] at hxy; exact lt_irr _ hxy
end Go.Proofs.Ytomjbabllcmodaa
namespace Go.Proofs.Ytomjbabllcmodaa
open Go
set_option maxRecDepth 100000
theorem bFits : ∀ x ∈ [bIt], x.name.length ≤ 65536 ∧ x.size ≤ 9223372036854775807 := fun x hx => by
  rw [List.mem_singleton.1 hx]; exact ⟨by decide, by decide⟩
end Go.Proofs.Ytomjbabllcmodaa
namespace Go.Proofs.Ytomjbabllcmodaa
open Go
set_option maxRecDepth 100000
theorem tail_ok2 {w : World} {fs : List Fl} (h : ∀ f ∈ fs, (fch f).ok w) (hf : ∀ f ∈ fs, f.data.a = hd (f.data.a.map (·.block)) ∧ f.data.l.length = f.data.len) : ∀ f ∈ fs, f.data.ok w := fun f hm => by
  have h1 := ach_ok (h f hm)
  rw [← (hf f hm).1] at h1
  exact h1
theorem obs2 {w : World} {a b : Ob} (ha : a.data.ok w ∧ a.data.len ≤ 1048576) (hb : b.data.ok w ∧ b.data.len ≤ 1048576) : ∀ o ∈ [a, b], o.data.ok w ∧ o.data.len ≤ 1048576 := fun o ho => by
  simp only [List.mem_cons, List.not_mem_nil, or_false] at ho
  rcases ho with rfl | rfl
  · exact ha
  · exact hb
theorem obs1 {w : World} {a : Ob} (ha : a.data.ok w ∧ a.data.len ≤ 1048576) : ∀ o ∈ [a], o.data.ok w ∧ o.data.len ≤ 1048576 := fun o ho => by
  rw [List.mem_singleton.1 ho]; exact ha
theorem brun2 {x z : Sl} {t : List UInt8} (ht : t = bDir) (hx : x.l = [7]) (hz : z.l = t) : wlkAll (obL [⟨shaI [7], x⟩, ⟨shaI t, z⟩]) [⟨2, shaI t, 0, 1, []⟩] ⟨0, [], [], 0⟩ = ⟨2, [shaI t, shaI [7]], [⟨[97], some [7]⟩], 0⟩ := by
  subst ht
  have hne := ne_of_beq sha_7d
  have l2 : lookO (obL [⟨shaI [7], x⟩, ⟨shaI bDir, z⟩]) (shaI bDir) = some bDir := by rw [lookS_l]; simp [lookS_cons, hne, hz]
  have l1 : lookO (obL [⟨shaI [7], x⟩, ⟨shaI bDir, z⟩]) (shaI [7]) = some [7] := by rw [lookS_l]; simp [lookS_cons, hx]
  have h1 := step_dir (L := obL [⟨shaI [7], x⟩, ⟨shaI bDir, z⟩]) (t := ⟨2, shaI bDir, 0, 1, []⟩) (s := ⟨0, [], [], 0⟩) (by intro h; rcases h with ⟨_, h⟩ | h <;> simp at h) l2 (by show ¬ (2 : Int) = 1; decide) bDir_take
  rw [wlkAll_good (by rw [h1]), h1]
  have h2 := step_file (L := obL [⟨shaI [7], x⟩, ⟨shaI bDir, z⟩]) (t := ⟨1, shaI [7], 1, 2, [97]⟩) (s := ⟨1, [shaI bDir], [], 0⟩) (by intro h; rcases h with ⟨h, _⟩ | h <;> simp at h) l1 rfl rfl
  exact (wlkAll_one (t := ⟨1, shaI [7], 1, 2, [97]⟩) (s := ⟨1, [shaI bDir], [], 0⟩) (by rw [h2])).trans (by rw [h2]; rfl)
theorem brun1 {z : Sl} {t : List UInt8} (ht : t = bDir) (hz : z.l = t) : (wlkAll (obL [⟨shaI t, z⟩]) [⟨2, shaI t, 0, 1, []⟩] ⟨0, [], [], 0⟩).err = 15 := by
  subst ht
  have hne := ne_of_beq sha_7d
  have l2 : lookO (obL [⟨shaI bDir, z⟩]) (shaI bDir) = some bDir := by rw [lookS_l]; simp [lookS_cons, hz]
  have l1 : lookO (obL [⟨shaI bDir, z⟩]) (shaI [7]) = none := by rw [lookS_l]; simp [lookS, hne.symm]
  have h1 := step_dir (L := obL [⟨shaI bDir, z⟩]) (t := ⟨2, shaI bDir, 0, 1, []⟩) (s := ⟨0, [], [], 0⟩) (by intro h; rcases h with ⟨_, h⟩ | h <;> simp at h) l2 (by show ¬ (2 : Int) = 1; decide) bDir_take
  rw [wlkAll_good (by rw [h1]), h1]
  have h2 := step_miss (L := obL [⟨shaI bDir, z⟩]) (t := ⟨1, shaI [7], 1, 2, [97]⟩) (s := ⟨1, [shaI bDir], [], 0⟩) (by intro h; rcases h with ⟨h, _⟩ | h <;> simp at h) l1
  exact congrArg WS.err ((wlkAll_one (t := ⟨1, shaI [7], 1, 2, [97]⟩) (s := ⟨1, [shaI bDir], [], 0⟩) (by rw [h2])).trans (by rw [h2]))
theorem bnames {t : List UInt8} (ht : t = bDir) {W : WS} (hW : W = ⟨2, [shaI t, shaI [7]], [⟨[97], some [7]⟩], 0⟩) {R : List Id32} (h : NamesOk W R) : R.length = 2 := by
  subst hW ht
  obtain ⟨h1, h2⟩ := h.1 rfl
  have h3 := nd_le (m := [shaI bDir, shaI [7]]) (ris_nodup h1) (fun k hk => (h2 k).1 hk)
  have h4 := nd_le (l := [shaI bDir, shaI [7]]) (m := R) (by simp [(ne_of_beq sha_7d).symm]) (fun k hk => (h2 k).2 hk)
  simp only [List.length_cons, List.length_nil] at h3 h4
  omega
theorem bfiles {t : List UInt8} {W : WS} (hW : W = ⟨2, [shaI t, shaI [7]], [⟨[97], some [7]⟩], 0⟩) {fs : List Fl} (h : FilesOk W fs) : fs.length = 1 ∧ ∀ f, fs[0]? = some f → f.path = [97] ∧ f.data.l = [7] := by
  subst hW
  have h1 := h.1 rfl
  have h2 := congrArg List.length h1
  rw [List.length_map] at h2
  refine ⟨h2, fun f hf => ?_⟩
  have h3 := congrArg (·[0]?) h1
  simp only [List.getElem?_map, hf, Option.map_some] at h3
  have h4 := Option.some.inj h3
  exact ⟨congrArg Prod.fst h4, congrArg (fun q => q.2.2) h4⟩
theorem begun17_ret (w0 : World) :
    Ret Try.prog 17 [] w0 fun v w' => v = .bool true ∧ Hp w0 w' [] [] := by
  refine ret_mk Try.func17 rfl Try.ntmps17 (by simp) ?_
  have H := Hp.refl w0 []
  repeat refine c_seq ?_
  refine c_region ?_; refine l_op (o_val r_as ?_); first | refine l_end ?_ | refine l_nil ?_
  repeat refine c_seq ?_
  refine c_region ?_; refine l_op (o_bslB ([(7 : UInt8)]) H sl32 zc5 rfl rfl (by decide) (fun b1 w H hb1 => ?_)); replace H : Hp _ w _ ([.own (some b1) 1 1 (([(7 : UInt8)]).map V8) 5 1]) := H
  refine l_op (o_callR Try.func24 rfl rfl rfl (of17_ret _ ⟨hd (some b1), 1, 1, [(7 : UInt8)]⟩ (H.slOwn (i := 0) rfl) (by (try dsimp only); omega)) ?_); rintro _ w ⟨a2, c3, rfl, Hc⟩
  replace H : Hp _ w _ ([_, .own a2 (([(7 : UInt8)]).length) c3 (([(7 : UInt8)]).map V8) 5 1]) := H.call Hc
  clear Hc
  refine l_op (o_alloc H zc34 (fun b4 w H hb4 => ?_)); replace H : Hp _ w _ ([_, _, .blk b4 ((List.replicate 32 (0 : UInt8)).map V8 ++ (([.slice none 0 0] : List Value))) 34]) := H
  refine l_op (o_stW (C' := ((shaI ([(7 : UInt8)])).1).map V8 ++ (([.slice (hd a2) (([(7 : UInt8)]).length) c3] : List Value))) H (i := 2) rfl rfl rfl cs34 (by first | (simp [Value.oneCell', List.all_append, List.all_map]; done) | (simp only [List.all_append, List.all_cons, List.all_nil, List.all_map]; simp [Value.oneCell', Function.comp_def])) (by simp only [List.length_append, List.length_map, List.length_cons, List.length_nil, (show (List.replicate 32 (0 : UInt8)).length = 32 from (List.length_replicate ..))]) (by simp only [List.length_append, List.length_map, List.length_cons, List.length_nil, (show ((shaI ([(7 : UInt8)])).1).length = 32 from (shaI ([(7 : UInt8)])).2)]) (fun w H => ?_)); replace H : Hp _ w _ ([_, _, .blk b4 (((shaI ([(7 : UInt8)])).1).map V8 ++ (([.slice (hd a2) (([(7 : UInt8)]).length) c3] : List Value))) 34]) := H
  first | refine l_end ?_ | refine l_nil ?_
  repeat refine c_seq ?_
  refine c_region ?_; refine l_op (o_val (r_fa rfl fo34_0) ?_); refine l_op (o_val (r_lk H (i := 2) rfl rfl rt29 (show Cut3 (((shaI ([(7 : UInt8)])).1).map V8 ++ (([.slice (hd a2) (([(7 : UInt8)]).length) c3] : List Value))) (([] : List Value)) (((shaI ([(7 : UInt8)])).1).map V8) (([.slice (hd a2) (([(7 : UInt8)]).length) c3] : List Value)) 0 32 from ⟨(show ((shaI ([(7 : UInt8)])).1).map V8 ++ (([.slice (hd a2) (([(7 : UInt8)]).length) c3] : List Value)) = ([] : List Value) ++ ((((shaI ([(7 : UInt8)])).1).map V8) ++ (([.slice (hd a2) (([(7 : UInt8)]).length) c3] : List Value))) from by simp only [List.nil_append]), (by rfl), (by simp only [List.length_map, (show ((shaI ([(7 : UInt8)])).1).length = 32 from (shaI ([(7 : UInt8)])).2)])⟩)) ?_); refine l_op (o_val (r_bldG (Z := ([.string ⟨(([] : List UInt8)).toArray⟩, VI 0] : List Value) ++ ((List.replicate 32 (0 : UInt8)).map V8 ++ (([VI 0] : List Value)))) (E := ([.string ⟨(([97] : List UInt8)).toArray⟩, VI 1] : List Value) ++ (((shaI ([(7 : UInt8)])).1).map V8 ++ (([VI 1] : List Value)))) (pv := [(0, .string ⟨(([97] : List UInt8)).toArray⟩), (1, VI 1), (2, .agg (((shaI ([(7 : UInt8)])).1).map V8).toArray), (3, VI 1)]) bd54 rfl rfl (.cons (A := ([] : List Value)) (B := ([.string ⟨(([] : List UInt8)).toArray⟩] : List Value)) (D := ([VI 0] : List Value) ++ ((List.replicate 32 (0 : UInt8)).map V8 ++ (([VI 0] : List Value)))) (V := ([.string ⟨(([97] : List UInt8)).toArray⟩] : List Value)) (a := 0) (b := 1) rfl (show Cut3 (([.string ⟨(([] : List UInt8)).toArray⟩, VI 0] : List Value) ++ ((List.replicate 32 (0 : UInt8)).map V8 ++ (([VI 0] : List Value)))) (([] : List Value)) (([.string ⟨(([] : List UInt8)).toArray⟩] : List Value)) (([VI 0] : List Value) ++ ((List.replicate 32 (0 : UInt8)).map V8 ++ (([VI 0] : List Value)))) 0 1 from ⟨(show ([.string ⟨(([] : List UInt8)).toArray⟩, VI 0] : List Value) ++ ((List.replicate 32 (0 : UInt8)).map V8 ++ (([VI 0] : List Value))) = ([] : List Value) ++ ((([.string ⟨(([] : List UInt8)).toArray⟩] : List Value)) ++ (([VI 0] : List Value) ++ ((List.replicate 32 (0 : UInt8)).map V8 ++ (([VI 0] : List Value))))) from by simp only [List.cons_append, List.nil_append]), (by rfl), (by rfl)⟩) (by rfl) (by rfl) ((show ([.string ⟨(([97] : List UInt8)).toArray⟩, VI 0] : List Value) ++ ((List.replicate 32 (0 : UInt8)).map V8 ++ (([VI 0] : List Value))) = ([] : List Value) ++ ((([.string ⟨(([97] : List UInt8)).toArray⟩] : List Value)) ++ (([VI 0] : List Value) ++ ((List.replicate 32 (0 : UInt8)).map V8 ++ (([VI 0] : List Value))))) from by simp only [List.cons_append, List.nil_append]) ▸ .cons (A := ([.string ⟨(([97] : List UInt8)).toArray⟩] : List Value)) (B := ([VI 0] : List Value)) (D := (List.replicate 32 (0 : UInt8)).map V8 ++ (([VI 0] : List Value))) (V := ([VI 1] : List Value)) (a := 1) (b := 1) rfl (show Cut3 (([.string ⟨(([97] : List UInt8)).toArray⟩, VI 0] : List Value) ++ ((List.replicate 32 (0 : UInt8)).map V8 ++ (([VI 0] : List Value)))) (([.string ⟨(([97] : List UInt8)).toArray⟩] : List Value)) (([VI 0] : List Value)) ((List.replicate 32 (0 : UInt8)).map V8 ++ (([VI 0] : List Value))) 1 1 from ⟨(show ([.string ⟨(([97] : List UInt8)).toArray⟩, VI 0] : List Value) ++ ((List.replicate 32 (0 : UInt8)).map V8 ++ (([VI 0] : List Value))) = ([.string ⟨(([97] : List UInt8)).toArray⟩] : List Value) ++ ((([VI 0] : List Value)) ++ ((List.replicate 32 (0 : UInt8)).map V8 ++ (([VI 0] : List Value)))) from by simp only [List.cons_append, List.nil_append]), (by rfl), (by rfl)⟩) (by rfl) (by rfl) ((show ([.string ⟨(([97] : List UInt8)).toArray⟩, VI 1] : List Value) ++ ((List.replicate 32 (0 : UInt8)).map V8 ++ (([VI 0] : List Value))) = ([.string ⟨(([97] : List UInt8)).toArray⟩] : List Value) ++ ((([VI 1] : List Value)) ++ ((List.replicate 32 (0 : UInt8)).map V8 ++ (([VI 0] : List Value)))) from by simp only [List.cons_append, List.nil_append]) ▸ .cons (A := ([.string ⟨(([97] : List UInt8)).toArray⟩, VI 1] : List Value)) (B := (List.replicate 32 (0 : UInt8)).map V8) (D := ([VI 0] : List Value)) (V := ((shaI ([(7 : UInt8)])).1).map V8) (a := 2) (b := 32) rfl (show Cut3 (([.string ⟨(([97] : List UInt8)).toArray⟩, VI 1] : List Value) ++ ((List.replicate 32 (0 : UInt8)).map V8 ++ (([VI 0] : List Value)))) (([.string ⟨(([97] : List UInt8)).toArray⟩, VI 1] : List Value)) ((List.replicate 32 (0 : UInt8)).map V8) (([VI 0] : List Value)) 2 32 from ⟨(show ([.string ⟨(([97] : List UInt8)).toArray⟩, VI 1] : List Value) ++ ((List.replicate 32 (0 : UInt8)).map V8 ++ (([VI 0] : List Value))) = ([.string ⟨(([97] : List UInt8)).toArray⟩, VI 1] : List Value) ++ (((List.replicate 32 (0 : UInt8)).map V8) ++ (([VI 0] : List Value))) from by simp only [List.cons_append, List.nil_append]), (by rfl), (by simp only [List.length_map, (show (List.replicate 32 (0 : UInt8)).length = 32 from (List.length_replicate ..))])⟩) (by rfl) (by simp only [List.length_map, (show ((shaI ([(7 : UInt8)])).1).length = 32 from (shaI ([(7 : UInt8)])).2)]) ((show ([.string ⟨(([97] : List UInt8)).toArray⟩, VI 1] : List Value) ++ (((shaI ([(7 : UInt8)])).1).map V8 ++ (([VI 0] : List Value))) = ([.string ⟨(([97] : List UInt8)).toArray⟩, VI 1] : List Value) ++ ((((shaI ([(7 : UInt8)])).1).map V8) ++ (([VI 0] : List Value))) from by simp only [List.cons_append, List.nil_append]) ▸ .cons (A := ([.string ⟨(([97] : List UInt8)).toArray⟩, VI 1] : List Value) ++ (((shaI ([(7 : UInt8)])).1).map V8)) (B := ([VI 0] : List Value)) (D := ([] : List Value)) (V := ([VI 1] : List Value)) (a := 34) (b := 1) rfl (show Cut3 (([.string ⟨(([97] : List UInt8)).toArray⟩, VI 1] : List Value) ++ (((shaI ([(7 : UInt8)])).1).map V8 ++ (([VI 0] : List Value)))) (([.string ⟨(([97] : List UInt8)).toArray⟩, VI 1] : List Value) ++ (((shaI ([(7 : UInt8)])).1).map V8)) (([VI 0] : List Value)) (([] : List Value)) 34 1 from ⟨(show ([.string ⟨(([97] : List UInt8)).toArray⟩, VI 1] : List Value) ++ (((shaI ([(7 : UInt8)])).1).map V8 ++ (([VI 0] : List Value))) = (([.string ⟨(([97] : List UInt8)).toArray⟩, VI 1] : List Value) ++ (((shaI ([(7 : UInt8)])).1).map V8)) ++ ((([VI 0] : List Value)) ++ (([] : List Value))) from by simp only [List.cons_append, List.nil_append]), (by simp only [List.length_append, List.length_map, List.length_cons, List.length_nil, (show ((shaI ([(7 : UInt8)])).1).length = 32 from (shaI ([(7 : UInt8)])).2)]), (by rfl)⟩) (by rfl) (by rfl) ((show ([.string ⟨(([97] : List UInt8)).toArray⟩, VI 1] : List Value) ++ (((shaI ([(7 : UInt8)])).1).map V8 ++ (([VI 1] : List Value))) = (([.string ⟨(([97] : List UInt8)).toArray⟩, VI 1] : List Value) ++ (((shaI ([(7 : UInt8)])).1).map V8)) ++ ((([VI 1] : List Value)) ++ (([] : List Value))) from by simp only [List.cons_append, List.nil_append]) ▸ .nil _)))))) ?_)
  refine l_op (o_bslG1 (enc := itE) ((⟨([97] : List UInt8), 1, shaI ([(7 : UInt8)]), 1⟩ : It)) H sl52 zc54 (by rfl) (by decide) (by decide) rfl (itE_len _) (fun b5 w H hb5 => ?_)); replace H : Hp _ w _ ([_, _, _, .own (some b5) 1 1 (([(⟨([97] : List UInt8), 1, shaI ([(7 : UInt8)]), 1⟩ : It)]).flatMap itE) 54 35]) := H
  refine l_op (o_callR Try.func25 rfl rfl rfl (folder17_ret _ ⟨hd (some b5), 1, 1, [(⟨([97] : List UInt8), 1, shaI ([(7 : UInt8)]), 1⟩ : It)]⟩ (H.glOwn (i := 3) rfl (by decide) (fun c _ => itE_len c)) bFits) ?_); rintro _ w ⟨a6, c7, t8, e9, hfo10, rfl, Hc⟩
  replace H : Hp _ w _ ([_, _, _, _, .own a6 t8.length c7 ((t8).map V8) 5 1]) := H.call Hc
  clear Hc
  skip
  refine l_op (o_alloc H zc34 (fun b11 w H hb11 => ?_)); replace H : Hp _ w _ ([_, _, _, _, _, .blk b11 ((List.replicate 32 (0 : UInt8)).map V8 ++ (([.slice none 0 0] : List Value))) 34]) := H
  refine l_op (o_stW (C' := ((shaI t8).1).map V8 ++ (([.slice (hd a6) t8.length c7] : List Value))) H (i := 5) rfl rfl rfl cs34 (by first | (simp [Value.oneCell', List.all_append, List.all_map]; done) | (simp only [List.all_append, List.all_cons, List.all_nil, List.all_map]; simp [Value.oneCell', Function.comp_def])) (by simp only [List.length_append, List.length_map, List.length_cons, List.length_nil, (show (List.replicate 32 (0 : UInt8)).length = 32 from (List.length_replicate ..))]) (by simp only [List.length_append, List.length_map, List.length_cons, List.length_nil, (show ((shaI t8).1).length = 32 from (shaI t8).2)]) (fun w H => ?_)); replace H : Hp _ w _ ([_, _, _, _, _, .blk b11 (((shaI t8).1).map V8 ++ (([.slice (hd a6) t8.length c7] : List Value))) 34]) := H
  first | refine l_end ?_ | refine l_nil ?_
  have hby := bytesRes_ok hfo10 bIt_may (by show bDir.length ≤ 4000; rw [bDir_len]; decide)
  have hbt : t8 = bDir := hby.2
  have hbl : t8.length = 39 := by rw [hbt, bDir_len]
  repeat refine c_seq ?_
  refine c_region ?_; refine l_op (o_val (r_ldA (C := ((shaI ([(7 : UInt8)])).1).map V8 ++ (([.slice (hd a2) (([(7 : UInt8)]).length) c3] : List Value))) H (i := 2) rfl rfl rt34 (by simp only [List.length_append, List.length_map, List.length_cons, List.length_nil, (show ((shaI ([(7 : UInt8)])).1).length = 32 from (shaI ([(7 : UInt8)])).2)])) ?_); refine l_op (o_val (r_ldA (C := ((shaI t8).1).map V8 ++ (([.slice (hd a6) t8.length c7] : List Value))) H (i := 5) rfl rfl rt34 (by simp only [List.length_append, List.length_map, List.length_cons, List.length_nil, (show ((shaI t8).1).length = 32 from (shaI t8).2)])) ?_); refine l_op (o_bslGn (enc := obE) ([(⟨shaI ([(7 : UInt8)]), ⟨hd a2, ([(7 : UInt8)]).length, c3, [(7 : UInt8)]⟩⟩ : Ob), (⟨shaI t8, ⟨hd a6, t8.length, c7, t8⟩⟩ : Ob)]) H sl22 zc34 (by decide) rfl (by decide) (by rfl) (fun c _ => obE_len c) (fun b12 w H hb12 => ?_)); replace H : Hp _ w _ ([_, _, _, _, _, _, .own (some b12) 2 2 (([(⟨shaI ([(7 : UInt8)]), ⟨hd a2, ([(7 : UInt8)]).length, c3, [(7 : UInt8)]⟩⟩ : Ob), (⟨shaI t8, ⟨hd a6, t8.length, c7, t8⟩⟩ : Ob)]).flatMap obE) 34 33]) := H
  refine l_op (o_val (r_fa rfl fo34_0) ?_); refine l_op (o_val (r_lk H (i := 5) rfl rfl rt29 (show Cut3 (((shaI t8).1).map V8 ++ (([.slice (hd a6) t8.length c7] : List Value))) (([] : List Value)) (((shaI t8).1).map V8) (([.slice (hd a6) t8.length c7] : List Value)) 0 32 from ⟨(show ((shaI t8).1).map V8 ++ (([.slice (hd a6) t8.length c7] : List Value)) = ([] : List Value) ++ ((((shaI t8).1).map V8) ++ (([.slice (hd a6) t8.length c7] : List Value))) from by simp only [List.nil_append]), (by rfl), (by simp only [List.length_map, (show ((shaI t8).1).length = 32 from (shaI t8).2)])⟩)) ?_); refine l_op (o_callR Try.func18 rfl rfl rfl (wclose_ret _ ⟨hd (some b12), 2, 2, [(⟨shaI ([(7 : UInt8)]), ⟨hd a2, ([(7 : UInt8)]).length, c3, [(7 : UInt8)]⟩⟩ : Ob), (⟨shaI t8, ⟨hd a6, t8.length, c7, t8⟩⟩ : Ob)]⟩ (H.glOwn (i := 6) rfl (by decide) (fun c _ => obE_len c)) (obs2 ⟨H.slOwn (i := 1) rfl, (by show 1 ≤ 1048576; decide)⟩ ⟨H.slOwn (i := 4) rfl, (by show t8.length ≤ 1048576; omega)⟩) (shaI t8)) ?_); rintro _ w ⟨a13, c14, R15, rfl, hcl16, Hc⟩
  replace H : Hp _ w _ ([_, _, _, _, _, _, _, .own a13 R15.length c14 ((R15).flatMap idE) 29 32]) := H.call Hc
  clear Hc
  refine l_op (o_val r_mv ?_); refine l_op (o_val (r_ext rfl rfl) ?_); refine l_op (o_val (r_ext rfl rfl) ?_); refine l_op (o_val r_as ?_); refine l_op (o_val r_as ?_); first | refine l_end ?_ | refine l_nil ?_
  repeat refine c_seq ?_
  refine c_region ?_; refine l_op (o_val (r_ldA (C := ((shaI ([(7 : UInt8)])).1).map V8 ++ (([.slice (hd a2) (([(7 : UInt8)]).length) c3] : List Value))) H (i := 2) rfl rfl rt34 (by simp only [List.length_append, List.length_map, List.length_cons, List.length_nil, (show ((shaI ([(7 : UInt8)])).1).length = 32 from (shaI ([(7 : UInt8)])).2)])) ?_); refine l_op (o_val (r_ldA (C := ((shaI t8).1).map V8 ++ (([.slice (hd a6) t8.length c7] : List Value))) H (i := 5) rfl rfl rt34 (by simp only [List.length_append, List.length_map, List.length_cons, List.length_nil, (show ((shaI t8).1).length = 32 from (shaI t8).2)])) ?_); refine l_op (o_bslGn (enc := obE) ([(⟨shaI ([(7 : UInt8)]), ⟨hd a2, ([(7 : UInt8)]).length, c3, [(7 : UInt8)]⟩⟩ : Ob), (⟨shaI t8, ⟨hd a6, t8.length, c7, t8⟩⟩ : Ob)]) H sl22 zc34 (by decide) rfl (by decide) (by rfl) (fun c _ => obE_len c) (fun b17 w H hb17 => ?_)); replace H : Hp _ w _ ([_, _, _, _, _, _, _, _, .own (some b17) 2 2 (([(⟨shaI ([(7 : UInt8)]), ⟨hd a2, ([(7 : UInt8)]).length, c3, [(7 : UInt8)]⟩⟩ : Ob), (⟨shaI t8, ⟨hd a6, t8.length, c7, t8⟩⟩ : Ob)]).flatMap obE) 34 33]) := H
  refine l_op (o_val (r_fa rfl fo34_0) ?_); refine l_op (o_val (r_lk H (i := 5) rfl rfl rt29 (show Cut3 (((shaI t8).1).map V8 ++ (([.slice (hd a6) t8.length c7] : List Value))) (([] : List Value)) (((shaI t8).1).map V8) (([.slice (hd a6) t8.length c7] : List Value)) 0 32 from ⟨(show ((shaI t8).1).map V8 ++ (([.slice (hd a6) t8.length c7] : List Value)) = ([] : List Value) ++ ((((shaI t8).1).map V8) ++ (([.slice (hd a6) t8.length c7] : List Value))) from by simp only [List.nil_append]), (by rfl), (by simp only [List.length_map, (show ((shaI t8).1).length = 32 from (shaI t8).2)])⟩)) ?_); refine l_op (o_callR Try.func19 rfl rfl rfl (wfiles_ret _ ⟨hd (some b17), 2, 2, [(⟨shaI ([(7 : UInt8)]), ⟨hd a2, ([(7 : UInt8)]).length, c3, [(7 : UInt8)]⟩⟩ : Ob), (⟨shaI t8, ⟨hd a6, t8.length, c7, t8⟩⟩ : Ob)]⟩ (H.glOwn (i := 8) rfl (by decide) (fun c _ => obE_len c)) (obs2 ⟨H.slOwn (i := 1) rfl, (by show 1 ≤ 1048576; decide)⟩ ⟨H.slOwn (i := 4) rfl, (by show t8.length ≤ 1048576; omega)⟩) (shaI t8)) ?_); rintro _ w ⟨a18, c19, fl20, rfl, hfl21, Hc⟩
  replace H : Hp _ w _ (Ch.own (some b1) 1 1 (([(7 : UInt8)]).map V8) 5 1 :: Ch.own a2 (([(7 : UInt8)]).length) c3 (([(7 : UInt8)]).map V8) 5 1 :: Ch.blk b4 (((shaI ([(7 : UInt8)])).1).map V8 ++ (([.slice (hd a2) (([(7 : UInt8)]).length) c3] : List Value))) 34 :: Ch.own (some b5) 1 1 (([(⟨([97] : List UInt8), 1, shaI ([(7 : UInt8)]), 1⟩ : It)]).flatMap itE) 54 35 :: Ch.own a6 t8.length c7 ((t8).map V8) 5 1 :: Ch.blk b11 (((shaI t8).1).map V8 ++ (([.slice (hd a6) t8.length c7] : List Value))) 34 :: Ch.own (some b12) 2 2 (([(⟨shaI ([(7 : UInt8)]), ⟨hd a2, ([(7 : UInt8)]).length, c3, [(7 : UInt8)]⟩⟩ : Ob), (⟨shaI t8, ⟨hd a6, t8.length, c7, t8⟩⟩ : Ob)]).flatMap obE) 34 33 :: Ch.own a13 R15.length c14 ((R15).flatMap idE) 29 32 :: Ch.own (some b17) 2 2 (([(⟨shaI ([(7 : UInt8)]), ⟨hd a2, ([(7 : UInt8)]).length, c3, [(7 : UInt8)]⟩⟩ : Ob), (⟨shaI t8, ⟨hd a6, t8.length, c7, t8⟩⟩ : Ob)]).flatMap obE) 34 33 :: Ch.own a18 fl20.length c19 ((fl20).flatMap flE) 48 3 :: fl20.map fch) := H.call Hc
  clear Hc
  refine l_op (o_val r_mv ?_); refine l_op (o_val (r_ext rfl rfl) ?_); refine l_op (o_val (r_ext rfl rfl) ?_); refine l_op (o_val r_as ?_); refine l_op (o_val r_as ?_); first | refine l_end ?_ | refine l_nil ?_
  have hfl := bfiles (brun2 hbt rfl rfl) hfl21
  have hfl1 := hfl.1
  have hfat := hfl21.2.2.1
  have hcn := bnames hbt (brun2 hbt rfl rfl) hcl16
  repeat refine c_seq ?_
  refine c_region ?_; refine l_op (o_val (r_ldA (C := ((shaI t8).1).map V8 ++ (([.slice (hd a6) t8.length c7] : List Value))) H (i := 5) rfl rfl rt34 (by simp only [List.length_append, List.length_map, List.length_cons, List.length_nil, (show ((shaI t8).1).length = 32 from (shaI t8).2)])) ?_); refine l_op (o_bslG1 (enc := obE) ((⟨shaI t8, ⟨hd a6, t8.length, c7, t8⟩⟩ : Ob)) H sl22 zc34 (by rfl) (by decide) (by decide) rfl (obE_len _) (fun b22 w H hb22 => ?_)); replace H := H.rot
  replace H : Hp _ w _ (Ch.own (some b22) 1 1 (([(⟨shaI t8, ⟨hd a6, t8.length, c7, t8⟩⟩ : Ob)]).flatMap obE) 34 33 :: Ch.own (some b1) 1 1 (([(7 : UInt8)]).map V8) 5 1 :: Ch.own a2 (([(7 : UInt8)]).length) c3 (([(7 : UInt8)]).map V8) 5 1 :: Ch.blk b4 (((shaI ([(7 : UInt8)])).1).map V8 ++ (([.slice (hd a2) (([(7 : UInt8)]).length) c3] : List Value))) 34 :: Ch.own (some b5) 1 1 (([(⟨([97] : List UInt8), 1, shaI ([(7 : UInt8)]), 1⟩ : It)]).flatMap itE) 54 35 :: Ch.own a6 t8.length c7 ((t8).map V8) 5 1 :: Ch.blk b11 (((shaI t8).1).map V8 ++ (([.slice (hd a6) t8.length c7] : List Value))) 34 :: Ch.own (some b12) 2 2 (([(⟨shaI ([(7 : UInt8)]), ⟨hd a2, ([(7 : UInt8)]).length, c3, [(7 : UInt8)]⟩⟩ : Ob), (⟨shaI t8, ⟨hd a6, t8.length, c7, t8⟩⟩ : Ob)]).flatMap obE) 34 33 :: Ch.own a13 R15.length c14 ((R15).flatMap idE) 29 32 :: Ch.own (some b17) 2 2 (([(⟨shaI ([(7 : UInt8)]), ⟨hd a2, ([(7 : UInt8)]).length, c3, [(7 : UInt8)]⟩⟩ : Ob), (⟨shaI t8, ⟨hd a6, t8.length, c7, t8⟩⟩ : Ob)]).flatMap obE) 34 33 :: Ch.own a18 fl20.length c19 ((fl20).flatMap flE) 48 3 :: fl20.map fch) := H
  refine l_op (o_val (r_fa rfl fo34_0) ?_); refine l_op (o_val (r_lk H (i := 6) rfl rfl rt29 (show Cut3 (((shaI t8).1).map V8 ++ (([.slice (hd a6) t8.length c7] : List Value))) (([] : List Value)) (((shaI t8).1).map V8) (([.slice (hd a6) t8.length c7] : List Value)) 0 32 from ⟨(show ((shaI t8).1).map V8 ++ (([.slice (hd a6) t8.length c7] : List Value)) = ([] : List Value) ++ ((((shaI t8).1).map V8) ++ (([.slice (hd a6) t8.length c7] : List Value))) from by simp only [List.nil_append]), (by rfl), (by simp only [List.length_map, (show ((shaI t8).1).length = 32 from (shaI t8).2)])⟩)) ?_); refine l_op (o_callR Try.func18 rfl rfl rfl (wclose_ret _ ⟨hd (some b22), 1, 1, [(⟨shaI t8, ⟨hd a6, t8.length, c7, t8⟩⟩ : Ob)]⟩ (H.glOwn (i := 0) rfl (by decide) (fun c _ => obE_len c)) (obs1 ⟨H.slOwn (i := 5) rfl, (by show t8.length ≤ 1048576; omega)⟩) (shaI t8)) ?_); rintro _ w ⟨a23, c24, R25, rfl, hcl26, Hc⟩
  replace H : Hp _ w _ (Ch.own a23 R25.length c24 ((R25).flatMap idE) 29 32 :: Ch.own (some b22) 1 1 (([(⟨shaI t8, ⟨hd a6, t8.length, c7, t8⟩⟩ : Ob)]).flatMap obE) 34 33 :: Ch.own (some b1) 1 1 (([(7 : UInt8)]).map V8) 5 1 :: Ch.own a2 (([(7 : UInt8)]).length) c3 (([(7 : UInt8)]).map V8) 5 1 :: Ch.blk b4 (((shaI ([(7 : UInt8)])).1).map V8 ++ (([.slice (hd a2) (([(7 : UInt8)]).length) c3] : List Value))) 34 :: Ch.own (some b5) 1 1 (([(⟨([97] : List UInt8), 1, shaI ([(7 : UInt8)]), 1⟩ : It)]).flatMap itE) 54 35 :: Ch.own a6 t8.length c7 ((t8).map V8) 5 1 :: Ch.blk b11 (((shaI t8).1).map V8 ++ (([.slice (hd a6) t8.length c7] : List Value))) 34 :: Ch.own (some b12) 2 2 (([(⟨shaI ([(7 : UInt8)]), ⟨hd a2, ([(7 : UInt8)]).length, c3, [(7 : UInt8)]⟩⟩ : Ob), (⟨shaI t8, ⟨hd a6, t8.length, c7, t8⟩⟩ : Ob)]).flatMap obE) 34 33 :: Ch.own a13 R15.length c14 ((R15).flatMap idE) 29 32 :: Ch.own (some b17) 2 2 (([(⟨shaI ([(7 : UInt8)]), ⟨hd a2, ([(7 : UInt8)]).length, c3, [(7 : UInt8)]⟩⟩ : Ob), (⟨shaI t8, ⟨hd a6, t8.length, c7, t8⟩⟩ : Ob)]).flatMap obE) 34 33 :: Ch.own a18 fl20.length c19 ((fl20).flatMap flE) 48 3 :: fl20.map fch) := (H.call Hc).rot
  clear Hc
  refine l_op (o_val r_mv ?_); refine l_op (o_val (r_ext rfl rfl) ?_); refine l_op (o_val (r_ext rfl rfl) ?_); refine l_op (o_val r_as ?_); refine l_op (o_val r_as ?_); first | refine l_end ?_ | refine l_nil ?_
  repeat refine c_seq ?_
  refine c_region ?_; refine l_op (o_val r_mv ?_); refine l_op (o_val (r_bin (a := (wlkAll (obL ([(⟨shaI ([(7 : UInt8)]), ⟨hd a2, ([(7 : UInt8)]).length, c3, [(7 : UInt8)]⟩⟩ : Ob), (⟨shaI t8, ⟨hd a6, t8.length, c7, t8⟩⟩ : Ob)])) [⟨2, (shaI t8), 0, 1, []⟩] ⟨0, [], [], 0⟩).err) (b := 0) rfl rfl (fun _ => b_eqlB true (decide_eq_true (congrArg WS.err (brun2 hbt rfl rfl))))) ?_); refine l_op (o_val r_mv ?_); refine l_yes rfl rfl rfl (o_val r_mv ?_); refine l_yes rfl rfl rfl (o_val (r_bin (a := (wlkAll (obL ([(⟨shaI ([(7 : UInt8)]), ⟨hd a2, ([(7 : UInt8)]).length, c3, [(7 : UInt8)]⟩⟩ : Ob), (⟨shaI t8, ⟨hd a6, t8.length, c7, t8⟩⟩ : Ob)])) [⟨2, (shaI t8), 0, 1, []⟩] ⟨0, [], [], 0⟩).err) (b := 0) rfl rfl (fun _ => b_eqlB true (decide_eq_true (congrArg WS.err (brun2 hbt rfl rfl))))) ?_); refine l_op (o_val (r_pick rfl) ?_); refine l_op (o_val r_mv ?_); refine l_yes rfl rfl rfl (o_val r_mv ?_); refine l_yes rfl rfl rfl (o_val (r_bin (a := (wlkAll (obL ([(⟨shaI t8, ⟨hd a6, t8.length, c7, t8⟩⟩ : Ob)])) [⟨2, (shaI t8), 0, 1, []⟩] ⟨0, [], [], 0⟩).err) (b := 15) rfl rfl (fun _ => b_eqlB true (decide_eq_true (brun1 hbt rfl)))) ?_); refine l_op (o_val (r_pick rfl) ?_); refine l_op (o_val r_mv ?_); refine l_yes rfl rfl rfl (o_val r_mv ?_); refine l_yes rfl rfl rfl (o_val (r_lens el23 rfl) ?_); refine l_yes rfl rfl rfl (o_val (r_bin (a := (R15.length : Int)) (b := 2) rfl rfl (fun _ => b_eqlB true (decide_eq_true (by omega)))) ?_); refine l_op (o_val (r_pick rfl) ?_); refine l_op (o_val r_mv ?_); refine l_yes rfl rfl rfl (o_val r_mv ?_); refine l_yes rfl rfl rfl (o_val (r_lens el40 rfl) ?_); refine l_yes rfl rfl rfl (o_val (r_bin (a := (fl20.length : Int)) (b := 1) rfl rfl (fun _ => b_eqlB true (decide_eq_true (by omega)))) ?_); refine l_op (o_val (r_pick rfl) ?_); refine l_op (o_val r_mv ?_); refine l_yes rfl rfl rfl (o_val r_mv ?_); have ah28 := H.ownAddr (i := 11) rfl (by omega)
  obtain ⟨ab27, ah28⟩ := ah28
  refine l_yes rfl rfl rfl (o_val (r_isN 0 rfl rfl el40 ah28 (by omega) (by (try simp only [Sl.cut]); omega)) ?_); refine l_yes rfl rfl rfl (o_val (r_fa rfl fo48_0) ?_); have he30 : ∃ c, (fl20)[0]? = some c := ⟨_, List.getElem?_eq_getElem (by have := ((H.glOwn (i := 11) rfl (by decide) (fun c _ => flE_len c))).ln; (try dsimp only at this ⊢); omega)⟩
  obtain ⟨e29, he30⟩ := he30
  have hez31 := ((H.glOwn (i := 11) rfl (by decide) (fun c _ => flE_len c))).sz e29 (List.mem_of_getElem? he30)
  have hfm_e29 := List.mem_of_getElem? he30
  have hfe_e29 := hfl.2 e29 he30
  refine l_yes rfl rfl rfl (o_val (r_g1 (v := .string ⟨(e29.path).toArray⟩) (s := (⟨hd a18, fl20.length, c19, fl20⟩ : Gl Fl)) (j := 0) (H.glOwn (i := 11) rfl (by decide) (fun c _ => flE_len c)) ah28 rfl ct9 he30 (by decide) (show Cut3 (flE e29) (([] : List Value)) (([.string ⟨(e29.path).toArray⟩] : List Value)) (([.bool e29.dir, e29.data.v] : List Value)) 0 1 from ⟨(show ([.string ⟨(e29.path).toArray⟩, .bool e29.dir, e29.data.v] : List Value) = ([] : List Value) ++ ((([.string ⟨(e29.path).toArray⟩] : List Value)) ++ (([.bool e29.dir, e29.data.v] : List Value))) from by simp only [List.cons_append, List.nil_append]), (by rfl), (by rfl)⟩)) ?_); refine l_yes rfl rfl rfl (o_val (r_streq (a := e29.path) (b := ([97] : List UInt8)) rfl rfl) ?_); have hk32 : (decide (e29.path = ([97] : List UInt8))) = true := (decide_eq_true hfe_e29.1)
  refine l_op (o_val (r_pick rfl) ?_); refine l_op (o_val r_mv ?_); refine l_yes rfl rfl (by exact congrArg Value.bool hk32) (o_val r_mv ?_); refine l_yes rfl rfl (by exact congrArg Value.bool hk32) (o_val (r_isN 0 rfl rfl el40 ah28 (by omega) (by (try simp only [Sl.cut]); omega)) ?_); refine l_yes rfl rfl (by exact congrArg Value.bool hk32) (o_val (r_fa rfl fo48_2) ?_); refine l_yes rfl rfl (by exact congrArg Value.bool hk32) (o_val (r_g1 (v := e29.data.v) (s := (⟨hd a18, fl20.length, c19, fl20⟩ : Gl Fl)) (j := 0) (H.glOwn (i := 11) rfl (by decide) (fun c _ => flE_len c)) ah28 rfl ct32 he30 (by decide) (show Cut3 (flE e29) (([.string ⟨(e29.path).toArray⟩, .bool e29.dir] : List Value)) (([e29.data.v] : List Value)) (([] : List Value)) 2 1 from ⟨(show ([.string ⟨(e29.path).toArray⟩, .bool e29.dir, e29.data.v] : List Value) = ([.string ⟨(e29.path).toArray⟩, .bool e29.dir] : List Value) ++ ((([e29.data.v] : List Value)) ++ (([] : List Value))) from by simp only [List.cons_append, List.nil_append]), (by rfl), (by rfl)⟩)) ?_); refine l_yes rfl rfl (by exact congrArg Value.bool hk32) (o_val (r_b2S (s := e29.data) Try.underlying32 Try.underlying5 Try.underlying9 rfl ((tail_ok2 (fun f hm => H.has (fch f) (by repeat (first | exact List.mem_map_of_mem hm | apply List.mem_cons_of_mem))) hfat) e29 hfm_e29)) ?_); refine l_yes rfl rfl (by exact congrArg Value.bool hk32) (o_val (r_streq (a := e29.data.l) (b := ([7] : List UInt8)) rfl rfl) ?_); have hk33 : (decide (e29.data.l = ([7] : List UInt8))) = true := (decide_eq_true hfe_e29.2)
  refine l_op (o_val (r_pick (b := true) (congrArg Value.bool hk32)) ?_); refine l_op (o_val r_as ?_); first | refine l_end ?_ | refine l_nil ?_
  refine c_ret ?_; try dsimp only [Exit.then, Exit.inBlock]
  refine e_ret1 (v := .bool (decide (e29.data.l = ([7] : List UInt8)))) Try.results17 rfl ?_
  refine ⟨_, rfl, ?_⟩
  exact ⟨congrArg Value.bool hk33, H.sub (List.nil_sublist _)⟩
end Go.Proofs.Ytomjbabllcmodaa
namespace Go.Proofs.Ytomjbabllcmodaa
open Go
set_option maxRecDepth 100000
def ach (s : Sl) : Ch := .own (s.a.map (·.block)) s.len s.cap (s.l.map V8) 5 1
end Go.Proofs.Ytomjbabllcmodaa
namespace Go.Proofs.Ytomjbabllcmodaa
open Go
set_option maxRecDepth 100000
def wLeaf : List UInt8 := [108, 101, 97, 102]
/-- the items of a folder: so many, each of one object. -/
def wIts (T : Nat) (leaf : Bool) (of : Id32) : List It := (List.range T).map fun i => ⟨[UInt8.ofNat (97 + i)], if leaf then 1 else 2, of, if leaf then 4 else 0⟩
/-- the objects, one a level: the leaf, and the folders above it. -/
def wLev (T : Nat) : Nat → Id32 × List UInt8
  | 0 => (shaI wLeaf, wLeaf)
  | d + 1 => (shaI (fldB (wIts T (d == 0) (wLev T d).1)), fldB (wIts T (d == 0) (wLev T d).1))
theorem wl_up {T d : Nat} {a b : List UInt8} (h : (wLev T d).1.1 = a) (ha : a.length = 32) (hs : sha256 (fldB (wIts T (d == 0) ⟨a, ha⟩)) = b) : (wLev T (d + 1)).1.1 = b := by
  have e : (wLev T d).1 = ⟨a, ha⟩ := Subtype.ext h
  show sha256 (fldB (wIts T (d == 0) (wLev T d).1)) = b
  rw [e]; exact hs
theorem wl_ne {T i j : Nat} {a b : List UInt8} (hi : (wLev T i).1.1 = a) (hj : (wLev T j).1.1 = b) (h : (a == b) = false) : (wLev T i).1 ≠ (wLev T j).1 := fun e => by
  have e3 : a = b := by rw [← hi, ← hj, e]
  rw [e3] at h
  simp at h
theorem wleaf_is : sha256 wLeaf = [159, 145, 22, 31, 67, 67, 62, 73, 166, 222, 109, 182, 128, 215, 159, 96, 21, 159, 46, 74, 201, 23, 38, 33, 161, 40, 70, 66, 129, 88, 68, 11] := by decide +kernel
theorem w1_0 : (wLev 1 0).1.1 = [159, 145, 22, 31, 67, 67, 62, 73, 166, 222, 109, 182, 128, 215, 159, 96, 21, 159, 46, 74, 201, 23, 38, 33, 161, 40, 70, 66, 129, 88, 68, 11] := wleaf_is
theorem w1_1 : (wLev 1 1).1.1 = [127, 87, 13, 73, 227, 153, 70, 181, 164, 53, 30, 143, 203, 208, 227, 101, 78, 73, 151, 6, 95, 102, 113, 231, 223, 139, 92, 39, 254, 153, 145, 195] := wl_up w1_0 rfl (by decide +kernel)
theorem w1_2 : (wLev 1 2).1.1 = [77, 42, 227, 206, 1, 162, 75, 135, 179, 141, 132, 145, 214, 85, 127, 192, 105, 65, 34, 163, 157, 251, 152, 52, 193, 51, 167, 194, 117, 63, 49, 167] := wl_up w1_1 rfl (by decide +kernel)
theorem w1_3 : (wLev 1 3).1.1 = [9, 176, 29, 202, 147, 244, 204, 9, 66, 152, 64, 160, 67, 210, 113, 100, 187, 58, 156, 215, 250, 117, 247, 197, 196, 38, 203, 12, 35, 78, 107, 92] := wl_up w1_2 rfl (by decide +kernel)
theorem w1_4 : (wLev 1 4).1.1 = [57, 136, 98, 156, 172, 195, 205, 194, 1, 132, 139, 207, 187, 249, 201, 217, 143, 90, 117, 95, 163, 103, 122, 33, 9, 62, 216, 164, 252, 160, 104, 15] := wl_up w1_3 rfl (by decide +kernel)
theorem w1_5 : (wLev 1 5).1.1 = [81, 119, 103, 171, 29, 213, 193, 204, 198, 134, 39, 107, 2, 219, 189, 116, 203, 78, 182, 168, 93, 62, 108, 136, 155, 26, 110, 253, 70, 178, 117, 182] := wl_up w1_4 rfl (by decide +kernel)
theorem w1_6 : (wLev 1 6).1.1 = [190, 173, 129, 228, 108, 197, 87, 17, 18, 139, 130, 56, 83, 227, 208, 83, 116, 41, 123, 210, 75, 146, 16, 190, 156, 194, 54, 65, 161, 255, 231, 255] := wl_up w1_5 rfl (by decide +kernel)
theorem w1_7 : (wLev 1 7).1.1 = [141, 195, 94, 235, 203, 49, 120, 6, 77, 49, 29, 91, 190, 56, 254, 207, 7, 179, 139, 106, 17, 232, 139, 36, 41, 24, 28, 53, 95, 251, 192, 98] := wl_up w1_6 rfl (by decide +kernel)
theorem w2_0 : (wLev 2 0).1.1 = [159, 145, 22, 31, 67, 67, 62, 73, 166, 222, 109, 182, 128, 215, 159, 96, 21, 159, 46, 74, 201, 23, 38, 33, 161, 40, 70, 66, 129, 88, 68, 11] := wleaf_is
theorem w2_1 : (wLev 2 1).1.1 = [152, 78, 211, 171, 174, 3, 23, 28, 9, 194, 156, 154, 233, 187, 26, 243, 25, 103, 112, 180, 114, 179, 91, 254, 60, 144, 108, 184, 131, 101, 232, 58] := wl_up w2_0 rfl (by decide +kernel)
theorem w2_2 : (wLev 2 2).1.1 = [63, 1, 77, 193, 122, 133, 205, 22, 235, 87, 86, 74, 238, 153, 227, 160, 224, 146, 69, 100, 246, 113, 230, 88, 159, 158, 201, 130, 8, 128, 240, 172] := wl_up w2_1 rfl (by decide +kernel)
theorem w2_3 : (wLev 2 3).1.1 = [211, 66, 221, 96, 91, 167, 85, 102, 99, 80, 83, 215, 22, 196, 50, 68, 249, 141, 111, 242, 123, 154, 147, 142, 193, 232, 139, 119, 247, 29, 117, 254] := wl_up w2_2 rfl (by decide +kernel)
theorem w2_4 : (wLev 2 4).1.1 = [83, 89, 159, 177, 228, 109, 195, 88, 249, 35, 230, 17, 92, 78, 127, 16, 236, 121, 203, 202, 215, 82, 77, 167, 18, 187, 240, 203, 89, 229, 99, 102] := wl_up w2_3 rfl (by decide +kernel)
theorem w2_5 : (wLev 2 5).1.1 = [244, 200, 217, 231, 196, 20, 76, 151, 168, 143, 73, 69, 106, 49, 93, 149, 11, 145, 204, 115, 172, 165, 157, 186, 28, 244, 59, 99, 141, 132, 47, 195] := wl_up w2_4 rfl (by decide +kernel)
theorem w2_6 : (wLev 2 6).1.1 = [178, 73, 160, 22, 165, 9, 161, 229, 99, 237, 55, 207, 62, 159, 166, 65, 158, 180, 202, 217, 234, 241, 106, 114, 117, 84, 115, 181, 213, 131, 236, 86] := wl_up w2_5 rfl (by decide +kernel)
theorem w2_7 : (wLev 2 7).1.1 = [152, 10, 140, 48, 103, 64, 116, 221, 41, 158, 175, 7, 73, 52, 222, 204, 168, 185, 97, 194, 164, 152, 120, 245, 159, 196, 234, 216, 173, 145, 234, 211] := wl_up w2_6 rfl (by decide +kernel)
theorem w3_0 : (wLev 3 0).1.1 = [159, 145, 22, 31, 67, 67, 62, 73, 166, 222, 109, 182, 128, 215, 159, 96, 21, 159, 46, 74, 201, 23, 38, 33, 161, 40, 70, 66, 129, 88, 68, 11] := wleaf_is
theorem w3_1 : (wLev 3 1).1.1 = [46, 88, 218, 148, 142, 232, 95, 11, 146, 249, 222, 57, 17, 243, 228, 95, 120, 231, 130, 204, 250, 27, 210, 81, 130, 172, 137, 240, 59, 236, 214, 94] := wl_up w3_0 rfl (by decide +kernel)
theorem w3_2 : (wLev 3 2).1.1 = [253, 116, 95, 221, 82, 62, 159, 38, 177, 174, 250, 145, 189, 6, 121, 159, 39, 245, 204, 180, 54, 1, 192, 39, 102, 38, 129, 43, 155, 58, 253, 231] := wl_up w3_1 rfl (by decide +kernel)
theorem w3_3 : (wLev 3 3).1.1 = [162, 34, 130, 216, 245, 170, 46, 142, 24, 79, 193, 224, 126, 212, 117, 157, 23, 37, 51, 64, 105, 36, 220, 113, 51, 18, 147, 113, 186, 216, 49, 79] := wl_up w3_2 rfl (by decide +kernel)
theorem w3_4 : (wLev 3 4).1.1 = [238, 24, 240, 17, 41, 221, 122, 32, 163, 115, 126, 219, 119, 138, 119, 62, 165, 69, 211, 126, 138, 214, 9, 238, 100, 6, 154, 170, 12, 193, 129, 73] := wl_up w3_3 rfl (by decide +kernel)
theorem w3_5 : (wLev 3 5).1.1 = [82, 38, 109, 47, 242, 177, 10, 213, 233, 101, 64, 211, 29, 171, 72, 198, 33, 47, 114, 253, 100, 96, 190, 59, 142, 131, 165, 15, 78, 222, 43, 189] := wl_up w3_4 rfl (by decide +kernel)
theorem w3_6 : (wLev 3 6).1.1 = [127, 166, 53, 176, 186, 183, 82, 150, 195, 232, 83, 103, 119, 31, 16, 128, 47, 84, 173, 117, 73, 90, 209, 197, 175, 105, 127, 63, 204, 30, 184, 2] := wl_up w3_5 rfl (by decide +kernel)
theorem w3_7 : (wLev 3 7).1.1 = [97, 3, 121, 30, 201, 228, 162, 170, 60, 220, 21, 253, 68, 78, 73, 240, 84, 156, 180, 122, 9, 149, 153, 24, 102, 235, 72, 95, 119, 172, 150, 243] := wl_up w3_6 rfl (by decide +kernel)
theorem w4_0 : (wLev 4 0).1.1 = [159, 145, 22, 31, 67, 67, 62, 73, 166, 222, 109, 182, 128, 215, 159, 96, 21, 159, 46, 74, 201, 23, 38, 33, 161, 40, 70, 66, 129, 88, 68, 11] := wleaf_is
theorem w4_1 : (wLev 4 1).1.1 = [15, 127, 133, 70, 19, 210, 41, 213, 97, 33, 28, 76, 203, 39, 2, 80, 247, 27, 211, 252, 186, 177, 79, 84, 194, 35, 254, 197, 160, 215, 232, 201] := wl_up w4_0 rfl (by decide +kernel)
theorem w4_2 : (wLev 4 2).1.1 = [11, 108, 235, 193, 22, 66, 201, 118, 246, 102, 112, 249, 184, 9, 178, 209, 217, 129, 47, 194, 86, 90, 230, 49, 45, 115, 31, 79, 146, 24, 2, 148] := wl_up w4_1 rfl (by decide +kernel)
theorem w4_3 : (wLev 4 3).1.1 = [81, 138, 149, 12, 18, 85, 32, 207, 135, 116, 145, 230, 131, 21, 8, 29, 29, 250, 227, 48, 162, 248, 91, 65, 49, 45, 251, 231, 10, 32, 100, 123] := wl_up w4_2 rfl (by decide +kernel)
theorem w4_4 : (wLev 4 4).1.1 = [167, 218, 29, 171, 117, 61, 171, 219, 91, 31, 141, 36, 147, 76, 192, 65, 72, 199, 120, 17, 156, 225, 144, 213, 164, 179, 72, 74, 228, 5, 138, 97] := wl_up w4_3 rfl (by decide +kernel)
theorem w4_5 : (wLev 4 5).1.1 = [84, 3, 220, 50, 54, 39, 112, 192, 231, 45, 164, 134, 244, 86, 131, 0, 21, 196, 142, 85, 66, 74, 122, 52, 240, 126, 221, 173, 55, 146, 74, 183] := wl_up w4_4 rfl (by decide +kernel)
theorem w4_6 : (wLev 4 6).1.1 = [60, 56, 236, 154, 43, 144, 96, 6, 116, 94, 77, 128, 2, 4, 188, 165, 83, 202, 135, 187, 207, 57, 141, 179, 49, 26, 255, 64, 22, 200, 110, 0] := wl_up w4_5 rfl (by decide +kernel)
theorem w4_7 : (wLev 4 7).1.1 = [197, 86, 208, 121, 216, 93, 120, 171, 245, 85, 208, 63, 22, 254, 5, 175, 240, 174, 193, 100, 210, 100, 129, 167, 34, 56, 148, 109, 173, 109, 6, 170] := wl_up w4_6 rfl (by decide +kernel)
theorem w5_0 : (wLev 5 0).1.1 = [159, 145, 22, 31, 67, 67, 62, 73, 166, 222, 109, 182, 128, 215, 159, 96, 21, 159, 46, 74, 201, 23, 38, 33, 161, 40, 70, 66, 129, 88, 68, 11] := wleaf_is
theorem w5_1 : (wLev 5 1).1.1 = [159, 215, 72, 92, 248, 112, 124, 32, 157, 175, 110, 161, 34, 113, 28, 248, 169, 254, 62, 142, 9, 138, 186, 27, 122, 179, 31, 96, 180, 247, 171, 154] := wl_up w5_0 rfl (by decide +kernel)
theorem w5_2 : (wLev 5 2).1.1 = [40, 183, 125, 111, 205, 134, 198, 222, 128, 30, 83, 247, 87, 93, 166, 253, 152, 103, 228, 231, 106, 69, 111, 81, 211, 236, 211, 63, 237, 149, 97, 193] := wl_up w5_1 rfl (by decide +kernel)
theorem w5_3 : (wLev 5 3).1.1 = [128, 191, 24, 220, 243, 166, 9, 117, 88, 162, 42, 59, 23, 82, 6, 37, 184, 172, 56, 227, 179, 116, 186, 25, 31, 53, 115, 246, 57, 154, 224, 12] := wl_up w5_2 rfl (by decide +kernel)
theorem w5_4 : (wLev 5 4).1.1 = [11, 27, 197, 113, 205, 183, 62, 96, 248, 194, 52, 73, 148, 2, 74, 228, 181, 153, 87, 82, 50, 16, 187, 240, 13, 213, 254, 153, 202, 57, 245, 39] := wl_up w5_3 rfl (by decide +kernel)
theorem w5_5 : (wLev 5 5).1.1 = [205, 162, 233, 44, 88, 227, 254, 185, 180, 173, 60, 91, 34, 177, 142, 210, 214, 143, 235, 113, 209, 130, 184, 109, 19, 37, 213, 78, 155, 37, 20, 225] := wl_up w5_4 rfl (by decide +kernel)
theorem w5_6 : (wLev 5 6).1.1 = [11, 54, 187, 237, 111, 78, 205, 185, 59, 72, 165, 215, 50, 155, 77, 7, 201, 95, 169, 171, 141, 66, 117, 141, 132, 34, 137, 191, 72, 28, 9, 116] := wl_up w5_5 rfl (by decide +kernel)
theorem w5_7 : (wLev 5 7).1.1 = [81, 135, 171, 157, 113, 167, 46, 111, 68, 18, 130, 143, 218, 112, 208, 161, 78, 31, 8, 25, 165, 40, 178, 85, 87, 146, 89, 123, 156, 128, 60, 200] := wl_up w5_6 rfl (by decide +kernel)
theorem w6_0 : (wLev 6 0).1.1 = [159, 145, 22, 31, 67, 67, 62, 73, 166, 222, 109, 182, 128, 215, 159, 96, 21, 159, 46, 74, 201, 23, 38, 33, 161, 40, 70, 66, 129, 88, 68, 11] := wleaf_is
theorem w6_1 : (wLev 6 1).1.1 = [248, 218, 144, 20, 214, 138, 132, 214, 90, 48, 67, 46, 97, 21, 32, 248, 195, 236, 113, 2, 34, 206, 188, 100, 48, 147, 72, 157, 148, 9, 47, 223] := wl_up w6_0 rfl (by decide +kernel)
theorem w6_2 : (wLev 6 2).1.1 = [52, 54, 128, 106, 53, 16, 101, 38, 55, 113, 197, 142, 121, 201, 180, 176, 212, 212, 43, 246, 194, 93, 52, 224, 22, 89, 38, 82, 42, 252, 95, 113] := wl_up w6_1 rfl (by decide +kernel)
theorem w6_3 : (wLev 6 3).1.1 = [247, 198, 116, 79, 61, 185, 88, 210, 51, 57, 213, 17, 255, 35, 17, 153, 219, 15, 86, 128, 127, 102, 79, 93, 180, 156, 147, 218, 151, 200, 163, 57] := wl_up w6_2 rfl (by decide +kernel)
theorem w6_4 : (wLev 6 4).1.1 = [17, 168, 135, 24, 122, 193, 100, 191, 234, 181, 11, 113, 207, 251, 244, 182, 35, 124, 153, 117, 20, 143, 157, 223, 192, 215, 182, 48, 162, 93, 192, 20] := wl_up w6_3 rfl (by decide +kernel)
theorem w6_5 : (wLev 6 5).1.1 = [16, 202, 132, 43, 156, 62, 26, 115, 30, 145, 33, 4, 72, 88, 65, 102, 135, 154, 34, 120, 134, 90, 88, 85, 1, 201, 103, 218, 68, 146, 35, 99] := wl_up w6_4 rfl (by decide +kernel)
theorem w6_6 : (wLev 6 6).1.1 = [175, 22, 177, 4, 255, 84, 205, 122, 1, 110, 20, 234, 78, 45, 21, 83, 19, 52, 29, 81, 204, 146, 244, 6, 235, 120, 130, 119, 11, 200, 229, 136] := wl_up w6_5 rfl (by decide +kernel)
theorem w6_7 : (wLev 6 7).1.1 = [14, 165, 150, 46, 184, 121, 215, 182, 163, 129, 125, 34, 139, 245, 121, 53, 71, 126, 83, 62, 216, 125, 186, 134, 248, 104, 53, 250, 106, 229, 253, 243] := wl_up w6_6 rfl (by decide +kernel)
theorem w7_0 : (wLev 7 0).1.1 = [159, 145, 22, 31, 67, 67, 62, 73, 166, 222, 109, 182, 128, 215, 159, 96, 21, 159, 46, 74, 201, 23, 38, 33, 161, 40, 70, 66, 129, 88, 68, 11] := wleaf_is
theorem w7_1 : (wLev 7 1).1.1 = [249, 182, 20, 187, 217, 197, 243, 70, 162, 21, 201, 174, 45, 74, 250, 208, 73, 180, 9, 208, 212, 56, 27, 148, 221, 27, 103, 27, 111, 34, 144, 93] := wl_up w7_0 rfl (by decide +kernel)
theorem w7_2 : (wLev 7 2).1.1 = [193, 17, 147, 85, 192, 71, 14, 112, 52, 49, 207, 215, 219, 87, 92, 28, 221, 115, 14, 23, 96, 228, 77, 166, 242, 159, 223, 211, 90, 56, 53, 91] := wl_up w7_1 rfl (by decide +kernel)
theorem w7_3 : (wLev 7 3).1.1 = [41, 47, 47, 179, 202, 216, 147, 211, 122, 173, 126, 27, 103, 133, 65, 48, 232, 84, 43, 68, 200, 33, 209, 89, 104, 147, 219, 171, 150, 130, 246, 159] := wl_up w7_2 rfl (by decide +kernel)
theorem w7_4 : (wLev 7 4).1.1 = [96, 58, 120, 129, 7, 187, 172, 214, 119, 10, 234, 151, 233, 65, 157, 41, 254, 57, 120, 65, 234, 206, 228, 93, 33, 116, 156, 210, 226, 254, 93, 15] := wl_up w7_3 rfl (by decide +kernel)
theorem w7_5 : (wLev 7 5).1.1 = [188, 143, 243, 144, 28, 126, 105, 135, 112, 205, 148, 166, 122, 158, 167, 78, 191, 66, 70, 191, 240, 142, 71, 52, 253, 235, 52, 92, 124, 132, 101, 3] := wl_up w7_4 rfl (by decide +kernel)
theorem w7_6 : (wLev 7 6).1.1 = [158, 26, 235, 230, 240, 0, 185, 131, 137, 196, 105, 51, 213, 68, 252, 206, 155, 211, 220, 33, 160, 202, 107, 179, 187, 138, 162, 125, 152, 202, 107, 173] := wl_up w7_5 rfl (by decide +kernel)
theorem w7_7 : (wLev 7 7).1.1 = [9, 212, 243, 198, 180, 195, 4, 220, 6, 213, 179, 172, 46, 120, 39, 132, 196, 134, 227, 110, 31, 212, 216, 23, 110, 64, 170, 15, 254, 151, 20, 248] := wl_up w7_6 rfl (by decide +kernel)
theorem w8_0 : (wLev 8 0).1.1 = [159, 145, 22, 31, 67, 67, 62, 73, 166, 222, 109, 182, 128, 215, 159, 96, 21, 159, 46, 74, 201, 23, 38, 33, 161, 40, 70, 66, 129, 88, 68, 11] := wleaf_is
theorem w8_1 : (wLev 8 1).1.1 = [175, 200, 162, 208, 109, 170, 112, 88, 97, 101, 11, 106, 126, 43, 24, 193, 241, 100, 147, 215, 205, 197, 46, 20, 121, 176, 87, 11, 142, 67, 25, 81] := wl_up w8_0 rfl (by decide +kernel)
theorem w8_2 : (wLev 8 2).1.1 = [25, 66, 171, 121, 201, 74, 174, 71, 27, 233, 34, 64, 106, 34, 227, 147, 47, 81, 100, 113, 33, 86, 46, 195, 36, 113, 225, 57, 18, 254, 189, 117] := wl_up w8_1 rfl (by decide +kernel)
theorem w8_3 : (wLev 8 3).1.1 = [40, 13, 21, 195, 230, 194, 48, 233, 192, 198, 114, 154, 209, 240, 211, 22, 240, 232, 25, 71, 173, 133, 187, 192, 165, 204, 236, 85, 127, 56, 94, 129] := wl_up w8_2 rfl (by decide +kernel)
theorem w8_4 : (wLev 8 4).1.1 = [224, 117, 62, 84, 43, 246, 82, 140, 155, 104, 193, 187, 142, 16, 57, 157, 11, 45, 252, 254, 9, 207, 197, 41, 2, 241, 255, 123, 136, 21, 74, 23] := wl_up w8_3 rfl (by decide +kernel)
theorem w8_5 : (wLev 8 5).1.1 = [136, 101, 110, 68, 57, 20, 192, 125, 216, 103, 86, 133, 234, 62, 30, 25, 122, 7, 30, 88, 192, 123, 72, 22, 143, 233, 74, 52, 229, 143, 94, 220] := wl_up w8_4 rfl (by decide +kernel)
theorem w8_6 : (wLev 8 6).1.1 = [129, 143, 2, 2, 247, 136, 216, 98, 214, 15, 175, 166, 82, 234, 107, 205, 181, 133, 217, 111, 108, 78, 243, 72, 147, 134, 83, 7, 44, 200, 198, 20] := wl_up w8_5 rfl (by decide +kernel)
theorem w8_7 : (wLev 8 7).1.1 = [122, 35, 169, 187, 21, 0, 251, 117, 16, 165, 23, 28, 75, 204, 199, 13, 65, 102, 205, 166, 75, 22, 102, 222, 146, 246, 161, 238, 19, 178, 44, 29] := wl_up w8_6 rfl (by decide +kernel)
end Go.Proofs.Ytomjbabllcmodaa
namespace Go.Proofs.Ytomjbabllcmodaa
open Go
set_option maxRecDepth 100000
variable {L : List (Id32 × List UInt8)}
/-- what is met from t on: so many, so many files, these names; too many: an error. -/
def Good (L : List (Id32 × List UInt8)) (n f : Nat) (N : List Id32) (t : Todo) : Prop := ∀ s : WS, s.err = 0 → s.met ≤ 1024 →
  (s.met + n ≤ 1024 → (wlkAll L [t] s).err = 0 ∧ (wlkAll L [t] s).met = s.met + n ∧ (wlkAll L [t] s).files.length = s.files.length + f ∧ ∀ k, k ∈ (wlkAll L [t] s).names ↔ k ∈ s.names ∨ k ∈ N) ∧
  (1024 < s.met + n → (wlkAll L [t] s).err = 2)
theorem good_list {n f : Nat} {N : List Id32} : ∀ (a : List Todo), (∀ t ∈ a, Good L n f N t) → ∀ s : WS, s.err = 0 → s.met ≤ 1024 →
    (s.met + n * a.length ≤ 1024 → (wlkAll L a s).err = 0 ∧ (wlkAll L a s).met = s.met + n * a.length ∧ (wlkAll L a s).files.length = s.files.length + f * a.length ∧ ∀ k, k ∈ (wlkAll L a s).names ↔ k ∈ s.names ∨ (a ≠ [] ∧ k ∈ N)) ∧
    (1024 < s.met + n * a.length → (wlkAll L a s).err = 2)
  | [], _, s, he, hm => by
    rw [wlkAll_nil]
    exact ⟨fun _ => ⟨he, by simp, by simp, fun k => by simp⟩, fun h => absurd h (by simp; omega)⟩
  | t :: ts, hg, s, he, hm => by
    obtain ⟨g1, g2⟩ := hg t (List.mem_cons_self ..) s he hm
    have happ : wlkAll L (t :: ts) s = if (wlkAll L [t] s).err ≠ 0 then wlkAll L [t] s else wlkAll L ts (wlkAll L [t] s) := wlkAll_app (a := [t]) (b := ts) he hm
    have e1 : n * (t :: ts).length = n + n * ts.length := by rw [List.length_cons, Nat.mul_succ, Nat.add_comm]
    have e2 : f * (t :: ts).length = f + f * ts.length := by rw [List.length_cons, Nat.mul_succ, Nat.add_comm]
    rw [e1, e2]
    by_cases h : s.met + n ≤ 1024
    · obtain ⟨h1, h2, h3, h4⟩ := g1 h
      rw [if_neg (fun e => e h1)] at happ
      obtain ⟨i1, i2⟩ := good_list ts (fun u hu => hg u (List.mem_cons_of_mem _ hu)) (wlkAll L [t] s) h1 (by omega)
      rw [happ]
      refine ⟨fun hb => ?_, fun hb => i2 (by omega)⟩
      obtain ⟨j1, j2, j3, j4⟩ := i1 (by omega)
      refine ⟨j1, by omega, by omega, fun k => ?_⟩
      rw [j4, h4]
      constructor
      · rintro ((h | h) | ⟨_, h⟩)
        · exact .inl h
        · exact .inr ⟨by simp, h⟩
        · exact .inr ⟨by simp, h⟩
      · rintro (h | ⟨_, h⟩)
        · exact .inl (.inl h)
        · exact .inl (.inr h)
    · have h1 := g2 (by omega)
      rw [if_pos (by rw [h1]; decide)] at happ
      rw [happ]
      exact ⟨fun hb => by omega, fun _ => h1⟩
theorem good_file {t : Todo} {d : List UInt8} (hk : lookO L t.of = some d) (h1 : t.kind = 1) (hs : (d.length : Int) = t.size) : Good L 1 1 [t.of] t := fun s he hm => by
  by_cases h : 1024 ≤ s.met
  · have hst := step_long (L := L) (t := t) (s := s) (.inr h)
    rw [wlkAll_one (by rw [hst]), hst]
    exact ⟨fun hb => by omega, fun _ => rfl⟩
  · have hst := step_file (L := L) (t := t) (s := s) (by rintro (⟨h2, _⟩ | h2) <;> omega) hk h1 hs
    rw [wlkAll_one (by rw [hst]), hst]
    exact ⟨fun _ => ⟨he, rfl, by simp, fun k => by simp⟩, fun hb => by omega⟩
theorem good_dir {t : Todo} {d : List UInt8} {its : List It} {n f : Nat} {N : List Id32} (hk : lookO L t.of = some d) (h1 : t.kind = 2) (h8 : t.deep ≤ 8) (ht : takeF d = some its) (hne : its ≠ []) (hg : ∀ x ∈ its, Good L n f N (wkid t x)) : Good L (1 + n * its.length) (f * its.length) (t.of :: N) t := fun s he hm => by
  by_cases h : 1024 ≤ s.met
  · have hst := step_long (L := L) (t := t) (s := s) (.inr h)
    rw [wlkAll_one (by rw [hst]), hst]
    exact ⟨fun hb => by omega, fun _ => rfl⟩
  · have hst := step_dir (L := L) (t := t) (s := s) (by rintro (⟨_, h2⟩ | h2) <;> omega) hk (by omega) ht
    have hop : wlkAll L [t] s = _ := wlkAll_good (L := L) (t := t) (ts := []) (s := s) (by rw [hst]; exact he)
    rw [List.append_nil, hst] at hop
    rw [if_neg (fun hh => hne hh.1)] at hop
    rw [hop]
    obtain ⟨g1, g2⟩ := good_list (its.map (wkid t)) (fun u hu => by obtain ⟨x, hx, rfl⟩ := List.mem_map.1 hu; exact hg x hx) ⟨s.met + 1, s.names ++ [t.of], s.files ++ [], s.err⟩ he (by show s.met + 1 ≤ 1024; omega)
    rw [List.length_map] at g1 g2
    refine ⟨fun hb => ?_, fun hb => g2 (by show 1024 < s.met + 1 + _; omega)⟩
    obtain ⟨j1, j2, j3, j4⟩ := g1 (by show s.met + 1 + _ ≤ 1024; omega)
    refine ⟨j1, j2.trans (by show s.met + 1 + _ = _; omega), j3.trans (by simp), fun k => (j4 k).trans ?_⟩
    rw [List.mem_cons, List.mem_append, List.mem_singleton]
    constructor
    · rintro ((h | h) | ⟨_, h⟩)
      · exact .inl h
      · exact .inr (.inl h)
      · exact .inr (.inr h)
    · rintro (h | h | h)
      · exact .inl (.inl h)
      · exact .inl (.inr h)
      · exact .inr ⟨by simpa using hne, h⟩
def wSz (T : Nat) : Nat → Nat
  | 0 => 1
  | j + 1 => 1 + wSz T j * T
def wNs (T : Nat) : Nat → List Id32
  | 0 => [(wLev T 0).1]
  | j + 1 => (wLev T (j + 1)).1 :: wNs T j
theorem wIts_get (T : Nat) (b : Bool) (o : Id32) {i : Nat} {x : It} (h : (wIts T b o)[i]? = some x) : i < T ∧ x = ⟨[UInt8.ofNat (97 + i)], if b then 1 else 2, o, if b then 4 else 0⟩ := by
  rw [wIts, List.getElem?_map] at h
  obtain ⟨j, hj, rfl⟩ := Option.map_eq_some_iff.1 h
  obtain ⟨h1, h2⟩ := List.getElem?_eq_some_iff.1 hj
  rw [List.getElem_range] at h2
  rw [List.length_range] at h1
  subst h2
  exact ⟨h1, rfl⟩
theorem wName_ok : ∀ i, i < 8 → NameOk [UInt8.ofNat (97 + i)] := by decide
theorem wName_up : ∀ i, i < 7 → ([UInt8.ofNat (97 + i)] : List UInt8) < [UInt8.ofNat (97 + (i + 1))] := by decide
theorem wIts_may {T : Nat} (hT : T ≤ 8) (b : Bool) (o : Id32) : MayF (wIts T b o) := by
  refine ⟨by rw [wIts, List.length_map, List.length_range]; omega, fun x hx => ?_, fun i x y hx hy => ?_⟩
  · obtain ⟨i, hi⟩ := List.getElem?_of_mem hx
    obtain ⟨h1, rfl⟩ := wIts_get T b o hi
    refine ⟨wName_ok i (by omega), ?_⟩
    cases b
    · exact ⟨.inr ⟨rfl, rfl⟩, (show (0 : Int) ≤ 0 by decide), (show (0 : Int) ≤ 9223372036854775807 by decide)⟩
    · exact ⟨.inl rfl, (show (0 : Int) ≤ 4 by decide), (show (4 : Int) ≤ 9223372036854775807 by decide)⟩
  · obtain ⟨h1, rfl⟩ := wIts_get T b o hx
    obtain ⟨h2, rfl⟩ := wIts_get T b o hy
    exact wName_up i (by omega)
theorem itB_36 {x : It} (h1 : x.name.length = 1) (h2 : x.size.toNat ≤ 127) : (itB x).length = 36 := by
  have h3 := x.of.2
  rw [itB, h1, cnt_one 1 (by decide), cnt_one _ h2]
  simp only [List.length_cons, List.length_append, List.length_nil, h1, h3]
theorem fm_len : ∀ {l : List It}, (∀ x ∈ l, (itB x).length = 36) → (l.flatMap itB).length = l.length * 36
  | [], _ => rfl
  | x :: l, h => by
    rw [List.flatMap_cons, List.length_append, h x (List.mem_cons_self ..), fm_len (l := l) (fun y hy => h y (List.mem_cons_of_mem _ hy)), List.length_cons]; omega
theorem wIts_len (T : Nat) (b : Bool) (o : Id32) : (wIts T b o).length = T := by rw [wIts, List.length_map, List.length_range]
theorem wFld_len {T : Nat} (hT : T ≤ 8) (b : Bool) (o : Id32) : (fldB (wIts T b o)).length ≤ 4000 := by
  have h := fm_len (l := wIts T b o) (fun x hx => by
    obtain ⟨i, hi⟩ := List.getElem?_of_mem hx
    obtain ⟨h1, rfl⟩ := wIts_get T b o hi
    cases b
    · exact itB_36 rfl (show (0 : Int).toNat ≤ 127 by decide)
    · exact itB_36 rfl (show (4 : Int).toNat ≤ 127 by decide))
  rw [fldB, List.length_append, List.length_append, h, wIts_len, cnt_one T (by omega)]
  simp only [List.length_cons, List.length_nil]
  omega
theorem wLev_take {T : Nat} (hT : T ≤ 8) (j : Nat) : takeF (wLev T (j + 1)).2 = some (wIts T (j == 0) (wLev T j).1) := takeF_some (wIts_may hT _ _) rfl (wFld_len hT _ _)
theorem good_lev {T D : Nat} (hT1 : 1 ≤ T) (hT : T ≤ 8) (hL : ∀ j, j ≤ D → lookO L (wLev T j).1 = some (wLev T j).2) : ∀ j, j ≤ D → ∀ t : Todo, t.of = (wLev T j).1 → (j = 0 → t.kind = 1 ∧ t.size = 4) → (0 < j → t.kind = 2) → t.deep + j ≤ 9 → Good L (wSz T j) (T ^ j) (wNs T j) t
  | 0, hj, t, h1, h2, _, _ => by
    have hk := hL 0 hj
    rw [← h1] at hk
    have := good_file hk (h2 rfl).1 (by rw [(h2 rfl).2]; rfl)
    rw [h1] at this
    exact this
  | j + 1, hj, t, h1, _, h3, h4 => by
    have hk := hL (j + 1) hj
    rw [← h1] at hk
    have h := good_dir (n := wSz T j) (f := T ^ j) (N := wNs T j) hk (h3 (by omega)) (by omega) (wLev_take hT j) (by intro e; have := congrArg List.length e; rw [wIts_len, List.length_nil] at this; omega) (fun x hx => by
      obtain ⟨i, hi⟩ := List.getElem?_of_mem hx
      obtain ⟨_, rfl⟩ := wIts_get T _ _ hi
      refine good_lev hT1 hT hL j (by omega) _ rfl (fun e => ?_) (fun e => ?_) (by show t.deep + 1 + j ≤ 9; omega)
      · subst e; exact ⟨rfl, rfl⟩
      · show (if (j == 0) = true then (1 : Int) else 2) = 2
        rw [if_neg (by simp; omega)])
    rw [wIts_len, h1, ← Nat.pow_succ] at h
    exact h
end Go.Proofs.Ytomjbabllcmodaa
namespace Go.Proofs.Ytomjbabllcmodaa
open Go
set_option maxRecDepth 100000
theorem wne1 {i j : Nat} (h : i < j) (hj : j ≤ 7) : (wLev 1 i).1 ≠ (wLev 1 j).1 := by
  have hj2 : j = 1 ∨ j = 2 ∨ j = 3 ∨ j = 4 ∨ j = 5 ∨ j = 6 ∨ j = 7 := by omega
  rcases hj2 with rfl | rfl | rfl | rfl | rfl | rfl | rfl
  · obtain rfl : i = 0 := by omega
    exact wl_ne w1_0 w1_1 (by decide +kernel)
  · have hi2 : i = 0 ∨ i = 1 := by omega
    rcases hi2 with rfl | rfl
    · exact wl_ne w1_0 w1_2 (by decide +kernel)
    · exact wl_ne w1_1 w1_2 (by decide +kernel)
  · have hi2 : i = 0 ∨ i = 1 ∨ i = 2 := by omega
    rcases hi2 with rfl | rfl | rfl
    · exact wl_ne w1_0 w1_3 (by decide +kernel)
    · exact wl_ne w1_1 w1_3 (by decide +kernel)
    · exact wl_ne w1_2 w1_3 (by decide +kernel)
  · have hi2 : i = 0 ∨ i = 1 ∨ i = 2 ∨ i = 3 := by omega
    rcases hi2 with rfl | rfl | rfl | rfl
    · exact wl_ne w1_0 w1_4 (by decide +kernel)
    · exact wl_ne w1_1 w1_4 (by decide +kernel)
    · exact wl_ne w1_2 w1_4 (by decide +kernel)
    · exact wl_ne w1_3 w1_4 (by decide +kernel)
  · have hi2 : i = 0 ∨ i = 1 ∨ i = 2 ∨ i = 3 ∨ i = 4 := by omega
    rcases hi2 with rfl | rfl | rfl | rfl | rfl
    · exact wl_ne w1_0 w1_5 (by decide +kernel)
    · exact wl_ne w1_1 w1_5 (by decide +kernel)
    · exact wl_ne w1_2 w1_5 (by decide +kernel)
    · exact wl_ne w1_3 w1_5 (by decide +kernel)
    · exact wl_ne w1_4 w1_5 (by decide +kernel)
  · have hi2 : i = 0 ∨ i = 1 ∨ i = 2 ∨ i = 3 ∨ i = 4 ∨ i = 5 := by omega
    rcases hi2 with rfl | rfl | rfl | rfl | rfl | rfl
    · exact wl_ne w1_0 w1_6 (by decide +kernel)
    · exact wl_ne w1_1 w1_6 (by decide +kernel)
    · exact wl_ne w1_2 w1_6 (by decide +kernel)
    · exact wl_ne w1_3 w1_6 (by decide +kernel)
    · exact wl_ne w1_4 w1_6 (by decide +kernel)
    · exact wl_ne w1_5 w1_6 (by decide +kernel)
  · have hi2 : i = 0 ∨ i = 1 ∨ i = 2 ∨ i = 3 ∨ i = 4 ∨ i = 5 ∨ i = 6 := by omega
    rcases hi2 with rfl | rfl | rfl | rfl | rfl | rfl | rfl
    · exact wl_ne w1_0 w1_7 (by decide +kernel)
    · exact wl_ne w1_1 w1_7 (by decide +kernel)
    · exact wl_ne w1_2 w1_7 (by decide +kernel)
    · exact wl_ne w1_3 w1_7 (by decide +kernel)
    · exact wl_ne w1_4 w1_7 (by decide +kernel)
    · exact wl_ne w1_5 w1_7 (by decide +kernel)
    · exact wl_ne w1_6 w1_7 (by decide +kernel)
theorem wne2 {i j : Nat} (h : i < j) (hj : j ≤ 7) : (wLev 2 i).1 ≠ (wLev 2 j).1 := by
  have hj2 : j = 1 ∨ j = 2 ∨ j = 3 ∨ j = 4 ∨ j = 5 ∨ j = 6 ∨ j = 7 := by omega
  rcases hj2 with rfl | rfl | rfl | rfl | rfl | rfl | rfl
  · obtain rfl : i = 0 := by omega
    exact wl_ne w2_0 w2_1 (by decide +kernel)
  · have hi2 : i = 0 ∨ i = 1 := by omega
    rcases hi2 with rfl | rfl
    · exact wl_ne w2_0 w2_2 (by decide +kernel)
    · exact wl_ne w2_1 w2_2 (by decide +kernel)
  · have hi2 : i = 0 ∨ i = 1 ∨ i = 2 := by omega
    rcases hi2 with rfl | rfl | rfl
    · exact wl_ne w2_0 w2_3 (by decide +kernel)
    · exact wl_ne w2_1 w2_3 (by decide +kernel)
    · exact wl_ne w2_2 w2_3 (by decide +kernel)
  · have hi2 : i = 0 ∨ i = 1 ∨ i = 2 ∨ i = 3 := by omega
    rcases hi2 with rfl | rfl | rfl | rfl
    · exact wl_ne w2_0 w2_4 (by decide +kernel)
    · exact wl_ne w2_1 w2_4 (by decide +kernel)
    · exact wl_ne w2_2 w2_4 (by decide +kernel)
    · exact wl_ne w2_3 w2_4 (by decide +kernel)
  · have hi2 : i = 0 ∨ i = 1 ∨ i = 2 ∨ i = 3 ∨ i = 4 := by omega
    rcases hi2 with rfl | rfl | rfl | rfl | rfl
    · exact wl_ne w2_0 w2_5 (by decide +kernel)
    · exact wl_ne w2_1 w2_5 (by decide +kernel)
    · exact wl_ne w2_2 w2_5 (by decide +kernel)
    · exact wl_ne w2_3 w2_5 (by decide +kernel)
    · exact wl_ne w2_4 w2_5 (by decide +kernel)
  · have hi2 : i = 0 ∨ i = 1 ∨ i = 2 ∨ i = 3 ∨ i = 4 ∨ i = 5 := by omega
    rcases hi2 with rfl | rfl | rfl | rfl | rfl | rfl
    · exact wl_ne w2_0 w2_6 (by decide +kernel)
    · exact wl_ne w2_1 w2_6 (by decide +kernel)
    · exact wl_ne w2_2 w2_6 (by decide +kernel)
    · exact wl_ne w2_3 w2_6 (by decide +kernel)
    · exact wl_ne w2_4 w2_6 (by decide +kernel)
    · exact wl_ne w2_5 w2_6 (by decide +kernel)
  · have hi2 : i = 0 ∨ i = 1 ∨ i = 2 ∨ i = 3 ∨ i = 4 ∨ i = 5 ∨ i = 6 := by omega
    rcases hi2 with rfl | rfl | rfl | rfl | rfl | rfl | rfl
    · exact wl_ne w2_0 w2_7 (by decide +kernel)
    · exact wl_ne w2_1 w2_7 (by decide +kernel)
    · exact wl_ne w2_2 w2_7 (by decide +kernel)
    · exact wl_ne w2_3 w2_7 (by decide +kernel)
    · exact wl_ne w2_4 w2_7 (by decide +kernel)
    · exact wl_ne w2_5 w2_7 (by decide +kernel)
    · exact wl_ne w2_6 w2_7 (by decide +kernel)
theorem wne3 {i j : Nat} (h : i < j) (hj : j ≤ 7) : (wLev 3 i).1 ≠ (wLev 3 j).1 := by
  have hj2 : j = 1 ∨ j = 2 ∨ j = 3 ∨ j = 4 ∨ j = 5 ∨ j = 6 ∨ j = 7 := by omega
  rcases hj2 with rfl | rfl | rfl | rfl | rfl | rfl | rfl
  · obtain rfl : i = 0 := by omega
    exact wl_ne w3_0 w3_1 (by decide +kernel)
  · have hi2 : i = 0 ∨ i = 1 := by omega
    rcases hi2 with rfl | rfl
    · exact wl_ne w3_0 w3_2 (by decide +kernel)
    · exact wl_ne w3_1 w3_2 (by decide +kernel)
  · have hi2 : i = 0 ∨ i = 1 ∨ i = 2 := by omega
    rcases hi2 with rfl | rfl | rfl
    · exact wl_ne w3_0 w3_3 (by decide +kernel)
    · exact wl_ne w3_1 w3_3 (by decide +kernel)
    · exact wl_ne w3_2 w3_3 (by decide +kernel)
  · have hi2 : i = 0 ∨ i = 1 ∨ i = 2 ∨ i = 3 := by omega
    rcases hi2 with rfl | rfl | rfl | rfl
    · exact wl_ne w3_0 w3_4 (by decide +kernel)
    · exact wl_ne w3_1 w3_4 (by decide +kernel)
    · exact wl_ne w3_2 w3_4 (by decide +kernel)
    · exact wl_ne w3_3 w3_4 (by decide +kernel)
  · have hi2 : i = 0 ∨ i = 1 ∨ i = 2 ∨ i = 3 ∨ i = 4 := by omega
    rcases hi2 with rfl | rfl | rfl | rfl | rfl
    · exact wl_ne w3_0 w3_5 (by decide +kernel)
    · exact wl_ne w3_1 w3_5 (by decide +kernel)
    · exact wl_ne w3_2 w3_5 (by decide +kernel)
    · exact wl_ne w3_3 w3_5 (by decide +kernel)
    · exact wl_ne w3_4 w3_5 (by decide +kernel)
  · have hi2 : i = 0 ∨ i = 1 ∨ i = 2 ∨ i = 3 ∨ i = 4 ∨ i = 5 := by omega
    rcases hi2 with rfl | rfl | rfl | rfl | rfl | rfl
    · exact wl_ne w3_0 w3_6 (by decide +kernel)
    · exact wl_ne w3_1 w3_6 (by decide +kernel)
    · exact wl_ne w3_2 w3_6 (by decide +kernel)
    · exact wl_ne w3_3 w3_6 (by decide +kernel)
    · exact wl_ne w3_4 w3_6 (by decide +kernel)
    · exact wl_ne w3_5 w3_6 (by decide +kernel)
  · have hi2 : i = 0 ∨ i = 1 ∨ i = 2 ∨ i = 3 ∨ i = 4 ∨ i = 5 ∨ i = 6 := by omega
    rcases hi2 with rfl | rfl | rfl | rfl | rfl | rfl | rfl
    · exact wl_ne w3_0 w3_7 (by decide +kernel)
    · exact wl_ne w3_1 w3_7 (by decide +kernel)
    · exact wl_ne w3_2 w3_7 (by decide +kernel)
    · exact wl_ne w3_3 w3_7 (by decide +kernel)
    · exact wl_ne w3_4 w3_7 (by decide +kernel)
    · exact wl_ne w3_5 w3_7 (by decide +kernel)
    · exact wl_ne w3_6 w3_7 (by decide +kernel)
theorem wne4 {i j : Nat} (h : i < j) (hj : j ≤ 7) : (wLev 4 i).1 ≠ (wLev 4 j).1 := by
  have hj2 : j = 1 ∨ j = 2 ∨ j = 3 ∨ j = 4 ∨ j = 5 ∨ j = 6 ∨ j = 7 := by omega
  rcases hj2 with rfl | rfl | rfl | rfl | rfl | rfl | rfl
  · obtain rfl : i = 0 := by omega
    exact wl_ne w4_0 w4_1 (by decide +kernel)
  · have hi2 : i = 0 ∨ i = 1 := by omega
    rcases hi2 with rfl | rfl
    · exact wl_ne w4_0 w4_2 (by decide +kernel)
    · exact wl_ne w4_1 w4_2 (by decide +kernel)
  · have hi2 : i = 0 ∨ i = 1 ∨ i = 2 := by omega
    rcases hi2 with rfl | rfl | rfl
    · exact wl_ne w4_0 w4_3 (by decide +kernel)
    · exact wl_ne w4_1 w4_3 (by decide +kernel)
    · exact wl_ne w4_2 w4_3 (by decide +kernel)
  · have hi2 : i = 0 ∨ i = 1 ∨ i = 2 ∨ i = 3 := by omega
    rcases hi2 with rfl | rfl | rfl | rfl
    · exact wl_ne w4_0 w4_4 (by decide +kernel)
    · exact wl_ne w4_1 w4_4 (by decide +kernel)
    · exact wl_ne w4_2 w4_4 (by decide +kernel)
    · exact wl_ne w4_3 w4_4 (by decide +kernel)
  · have hi2 : i = 0 ∨ i = 1 ∨ i = 2 ∨ i = 3 ∨ i = 4 := by omega
    rcases hi2 with rfl | rfl | rfl | rfl | rfl
    · exact wl_ne w4_0 w4_5 (by decide +kernel)
    · exact wl_ne w4_1 w4_5 (by decide +kernel)
    · exact wl_ne w4_2 w4_5 (by decide +kernel)
    · exact wl_ne w4_3 w4_5 (by decide +kernel)
    · exact wl_ne w4_4 w4_5 (by decide +kernel)
  · have hi2 : i = 0 ∨ i = 1 ∨ i = 2 ∨ i = 3 ∨ i = 4 ∨ i = 5 := by omega
    rcases hi2 with rfl | rfl | rfl | rfl | rfl | rfl
    · exact wl_ne w4_0 w4_6 (by decide +kernel)
    · exact wl_ne w4_1 w4_6 (by decide +kernel)
    · exact wl_ne w4_2 w4_6 (by decide +kernel)
    · exact wl_ne w4_3 w4_6 (by decide +kernel)
    · exact wl_ne w4_4 w4_6 (by decide +kernel)
    · exact wl_ne w4_5 w4_6 (by decide +kernel)
  · have hi2 : i = 0 ∨ i = 1 ∨ i = 2 ∨ i = 3 ∨ i = 4 ∨ i = 5 ∨ i = 6 := by omega
    rcases hi2 with rfl | rfl | rfl | rfl | rfl | rfl | rfl
    · exact wl_ne w4_0 w4_7 (by decide +kernel)
    · exact wl_ne w4_1 w4_7 (by decide +kernel)
    · exact wl_ne w4_2 w4_7 (by decide +kernel)
    · exact wl_ne w4_3 w4_7 (by decide +kernel)
    · exact wl_ne w4_4 w4_7 (by decide +kernel)
    · exact wl_ne w4_5 w4_7 (by decide +kernel)
    · exact wl_ne w4_6 w4_7 (by decide +kernel)
theorem wne5 {i j : Nat} (h : i < j) (hj : j ≤ 7) : (wLev 5 i).1 ≠ (wLev 5 j).1 := by
  have hj2 : j = 1 ∨ j = 2 ∨ j = 3 ∨ j = 4 ∨ j = 5 ∨ j = 6 ∨ j = 7 := by omega
  rcases hj2 with rfl | rfl | rfl | rfl | rfl | rfl | rfl
  · obtain rfl : i = 0 := by omega
    exact wl_ne w5_0 w5_1 (by decide +kernel)
  · have hi2 : i = 0 ∨ i = 1 := by omega
    rcases hi2 with rfl | rfl
    · exact wl_ne w5_0 w5_2 (by decide +kernel)
    · exact wl_ne w5_1 w5_2 (by decide +kernel)
  · have hi2 : i = 0 ∨ i = 1 ∨ i = 2 := by omega
    rcases hi2 with rfl | rfl | rfl
    · exact wl_ne w5_0 w5_3 (by decide +kernel)
    · exact wl_ne w5_1 w5_3 (by decide +kernel)
    · exact wl_ne w5_2 w5_3 (by decide +kernel)
  · have hi2 : i = 0 ∨ i = 1 ∨ i = 2 ∨ i = 3 := by omega
    rcases hi2 with rfl | rfl | rfl | rfl
    · exact wl_ne w5_0 w5_4 (by decide +kernel)
    · exact wl_ne w5_1 w5_4 (by decide +kernel)
    · exact wl_ne w5_2 w5_4 (by decide +kernel)
    · exact wl_ne w5_3 w5_4 (by decide +kernel)
  · have hi2 : i = 0 ∨ i = 1 ∨ i = 2 ∨ i = 3 ∨ i = 4 := by omega
    rcases hi2 with rfl | rfl | rfl | rfl | rfl
    · exact wl_ne w5_0 w5_5 (by decide +kernel)
    · exact wl_ne w5_1 w5_5 (by decide +kernel)
    · exact wl_ne w5_2 w5_5 (by decide +kernel)
    · exact wl_ne w5_3 w5_5 (by decide +kernel)
    · exact wl_ne w5_4 w5_5 (by decide +kernel)
  · have hi2 : i = 0 ∨ i = 1 ∨ i = 2 ∨ i = 3 ∨ i = 4 ∨ i = 5 := by omega
    rcases hi2 with rfl | rfl | rfl | rfl | rfl | rfl
    · exact wl_ne w5_0 w5_6 (by decide +kernel)
    · exact wl_ne w5_1 w5_6 (by decide +kernel)
    · exact wl_ne w5_2 w5_6 (by decide +kernel)
    · exact wl_ne w5_3 w5_6 (by decide +kernel)
    · exact wl_ne w5_4 w5_6 (by decide +kernel)
    · exact wl_ne w5_5 w5_6 (by decide +kernel)
  · have hi2 : i = 0 ∨ i = 1 ∨ i = 2 ∨ i = 3 ∨ i = 4 ∨ i = 5 ∨ i = 6 := by omega
    rcases hi2 with rfl | rfl | rfl | rfl | rfl | rfl | rfl
    · exact wl_ne w5_0 w5_7 (by decide +kernel)
    · exact wl_ne w5_1 w5_7 (by decide +kernel)
    · exact wl_ne w5_2 w5_7 (by decide +kernel)
    · exact wl_ne w5_3 w5_7 (by decide +kernel)
    · exact wl_ne w5_4 w5_7 (by decide +kernel)
    · exact wl_ne w5_5 w5_7 (by decide +kernel)
    · exact wl_ne w5_6 w5_7 (by decide +kernel)
theorem wne6 {i j : Nat} (h : i < j) (hj : j ≤ 7) : (wLev 6 i).1 ≠ (wLev 6 j).1 := by
  have hj2 : j = 1 ∨ j = 2 ∨ j = 3 ∨ j = 4 ∨ j = 5 ∨ j = 6 ∨ j = 7 := by omega
  rcases hj2 with rfl | rfl | rfl | rfl | rfl | rfl | rfl
  · obtain rfl : i = 0 := by omega
    exact wl_ne w6_0 w6_1 (by decide +kernel)
  · have hi2 : i = 0 ∨ i = 1 := by omega
    rcases hi2 with rfl | rfl
    · exact wl_ne w6_0 w6_2 (by decide +kernel)
    · exact wl_ne w6_1 w6_2 (by decide +kernel)
  · have hi2 : i = 0 ∨ i = 1 ∨ i = 2 := by omega
    rcases hi2 with rfl | rfl | rfl
    · exact wl_ne w6_0 w6_3 (by decide +kernel)
    · exact wl_ne w6_1 w6_3 (by decide +kernel)
    · exact wl_ne w6_2 w6_3 (by decide +kernel)
  · have hi2 : i = 0 ∨ i = 1 ∨ i = 2 ∨ i = 3 := by omega
    rcases hi2 with rfl | rfl | rfl | rfl
    · exact wl_ne w6_0 w6_4 (by decide +kernel)
    · exact wl_ne w6_1 w6_4 (by decide +kernel)
    · exact wl_ne w6_2 w6_4 (by decide +kernel)
    · exact wl_ne w6_3 w6_4 (by decide +kernel)
  · have hi2 : i = 0 ∨ i = 1 ∨ i = 2 ∨ i = 3 ∨ i = 4 := by omega
    rcases hi2 with rfl | rfl | rfl | rfl | rfl
    · exact wl_ne w6_0 w6_5 (by decide +kernel)
    · exact wl_ne w6_1 w6_5 (by decide +kernel)
    · exact wl_ne w6_2 w6_5 (by decide +kernel)
    · exact wl_ne w6_3 w6_5 (by decide +kernel)
    · exact wl_ne w6_4 w6_5 (by decide +kernel)
  · have hi2 : i = 0 ∨ i = 1 ∨ i = 2 ∨ i = 3 ∨ i = 4 ∨ i = 5 := by omega
    rcases hi2 with rfl | rfl | rfl | rfl | rfl | rfl
    · exact wl_ne w6_0 w6_6 (by decide +kernel)
    · exact wl_ne w6_1 w6_6 (by decide +kernel)
    · exact wl_ne w6_2 w6_6 (by decide +kernel)
    · exact wl_ne w6_3 w6_6 (by decide +kernel)
    · exact wl_ne w6_4 w6_6 (by decide +kernel)
    · exact wl_ne w6_5 w6_6 (by decide +kernel)
  · have hi2 : i = 0 ∨ i = 1 ∨ i = 2 ∨ i = 3 ∨ i = 4 ∨ i = 5 ∨ i = 6 := by omega
    rcases hi2 with rfl | rfl | rfl | rfl | rfl | rfl | rfl
    · exact wl_ne w6_0 w6_7 (by decide +kernel)
    · exact wl_ne w6_1 w6_7 (by decide +kernel)
    · exact wl_ne w6_2 w6_7 (by decide +kernel)
    · exact wl_ne w6_3 w6_7 (by decide +kernel)
    · exact wl_ne w6_4 w6_7 (by decide +kernel)
    · exact wl_ne w6_5 w6_7 (by decide +kernel)
    · exact wl_ne w6_6 w6_7 (by decide +kernel)
theorem wne7 {i j : Nat} (h : i < j) (hj : j ≤ 7) : (wLev 7 i).1 ≠ (wLev 7 j).1 := by
  have hj2 : j = 1 ∨ j = 2 ∨ j = 3 ∨ j = 4 ∨ j = 5 ∨ j = 6 ∨ j = 7 := by omega
  rcases hj2 with rfl | rfl | rfl | rfl | rfl | rfl | rfl
  · obtain rfl : i = 0 := by omega
    exact wl_ne w7_0 w7_1 (by decide +kernel)
  · have hi2 : i = 0 ∨ i = 1 := by omega
    rcases hi2 with rfl | rfl
    · exact wl_ne w7_0 w7_2 (by decide +kernel)
    · exact wl_ne w7_1 w7_2 (by decide +kernel)
  · have hi2 : i = 0 ∨ i = 1 ∨ i = 2 := by omega
    rcases hi2 with rfl | rfl | rfl
    · exact wl_ne w7_0 w7_3 (by decide +kernel)
    · exact wl_ne w7_1 w7_3 (by decide +kernel)
    · exact wl_ne w7_2 w7_3 (by decide +kernel)
  · have hi2 : i = 0 ∨ i = 1 ∨ i = 2 ∨ i = 3 := by omega
    rcases hi2 with rfl | rfl | rfl | rfl
    · exact wl_ne w7_0 w7_4 (by decide +kernel)
    · exact wl_ne w7_1 w7_4 (by decide +kernel)
    · exact wl_ne w7_2 w7_4 (by decide +kernel)
    · exact wl_ne w7_3 w7_4 (by decide +kernel)
  · have hi2 : i = 0 ∨ i = 1 ∨ i = 2 ∨ i = 3 ∨ i = 4 := by omega
    rcases hi2 with rfl | rfl | rfl | rfl | rfl
    · exact wl_ne w7_0 w7_5 (by decide +kernel)
    · exact wl_ne w7_1 w7_5 (by decide +kernel)
    · exact wl_ne w7_2 w7_5 (by decide +kernel)
    · exact wl_ne w7_3 w7_5 (by decide +kernel)
    · exact wl_ne w7_4 w7_5 (by decide +kernel)
  · have hi2 : i = 0 ∨ i = 1 ∨ i = 2 ∨ i = 3 ∨ i = 4 ∨ i = 5 := by omega
    rcases hi2 with rfl | rfl | rfl | rfl | rfl | rfl
    · exact wl_ne w7_0 w7_6 (by decide +kernel)
    · exact wl_ne w7_1 w7_6 (by decide +kernel)
    · exact wl_ne w7_2 w7_6 (by decide +kernel)
    · exact wl_ne w7_3 w7_6 (by decide +kernel)
    · exact wl_ne w7_4 w7_6 (by decide +kernel)
    · exact wl_ne w7_5 w7_6 (by decide +kernel)
  · have hi2 : i = 0 ∨ i = 1 ∨ i = 2 ∨ i = 3 ∨ i = 4 ∨ i = 5 ∨ i = 6 := by omega
    rcases hi2 with rfl | rfl | rfl | rfl | rfl | rfl | rfl
    · exact wl_ne w7_0 w7_7 (by decide +kernel)
    · exact wl_ne w7_1 w7_7 (by decide +kernel)
    · exact wl_ne w7_2 w7_7 (by decide +kernel)
    · exact wl_ne w7_3 w7_7 (by decide +kernel)
    · exact wl_ne w7_4 w7_7 (by decide +kernel)
    · exact wl_ne w7_5 w7_7 (by decide +kernel)
    · exact wl_ne w7_6 w7_7 (by decide +kernel)
theorem wne8 {i j : Nat} (h : i < j) (hj : j ≤ 7) : (wLev 8 i).1 ≠ (wLev 8 j).1 := by
  have hj2 : j = 1 ∨ j = 2 ∨ j = 3 ∨ j = 4 ∨ j = 5 ∨ j = 6 ∨ j = 7 := by omega
  rcases hj2 with rfl | rfl | rfl | rfl | rfl | rfl | rfl
  · obtain rfl : i = 0 := by omega
    exact wl_ne w8_0 w8_1 (by decide +kernel)
  · have hi2 : i = 0 ∨ i = 1 := by omega
    rcases hi2 with rfl | rfl
    · exact wl_ne w8_0 w8_2 (by decide +kernel)
    · exact wl_ne w8_1 w8_2 (by decide +kernel)
  · have hi2 : i = 0 ∨ i = 1 ∨ i = 2 := by omega
    rcases hi2 with rfl | rfl | rfl
    · exact wl_ne w8_0 w8_3 (by decide +kernel)
    · exact wl_ne w8_1 w8_3 (by decide +kernel)
    · exact wl_ne w8_2 w8_3 (by decide +kernel)
  · have hi2 : i = 0 ∨ i = 1 ∨ i = 2 ∨ i = 3 := by omega
    rcases hi2 with rfl | rfl | rfl | rfl
    · exact wl_ne w8_0 w8_4 (by decide +kernel)
    · exact wl_ne w8_1 w8_4 (by decide +kernel)
    · exact wl_ne w8_2 w8_4 (by decide +kernel)
    · exact wl_ne w8_3 w8_4 (by decide +kernel)
  · have hi2 : i = 0 ∨ i = 1 ∨ i = 2 ∨ i = 3 ∨ i = 4 := by omega
    rcases hi2 with rfl | rfl | rfl | rfl | rfl
    · exact wl_ne w8_0 w8_5 (by decide +kernel)
    · exact wl_ne w8_1 w8_5 (by decide +kernel)
    · exact wl_ne w8_2 w8_5 (by decide +kernel)
    · exact wl_ne w8_3 w8_5 (by decide +kernel)
    · exact wl_ne w8_4 w8_5 (by decide +kernel)
  · have hi2 : i = 0 ∨ i = 1 ∨ i = 2 ∨ i = 3 ∨ i = 4 ∨ i = 5 := by omega
    rcases hi2 with rfl | rfl | rfl | rfl | rfl | rfl
    · exact wl_ne w8_0 w8_6 (by decide +kernel)
    · exact wl_ne w8_1 w8_6 (by decide +kernel)
    · exact wl_ne w8_2 w8_6 (by decide +kernel)
    · exact wl_ne w8_3 w8_6 (by decide +kernel)
    · exact wl_ne w8_4 w8_6 (by decide +kernel)
    · exact wl_ne w8_5 w8_6 (by decide +kernel)
  · have hi2 : i = 0 ∨ i = 1 ∨ i = 2 ∨ i = 3 ∨ i = 4 ∨ i = 5 ∨ i = 6 := by omega
    rcases hi2 with rfl | rfl | rfl | rfl | rfl | rfl | rfl
    · exact wl_ne w8_0 w8_7 (by decide +kernel)
    · exact wl_ne w8_1 w8_7 (by decide +kernel)
    · exact wl_ne w8_2 w8_7 (by decide +kernel)
    · exact wl_ne w8_3 w8_7 (by decide +kernel)
    · exact wl_ne w8_4 w8_7 (by decide +kernel)
    · exact wl_ne w8_5 w8_7 (by decide +kernel)
    · exact wl_ne w8_6 w8_7 (by decide +kernel)
theorem wne {T i j : Nat} (h1 : 1 ≤ T) (h8 : T ≤ 8) (h : i < j) (hj : j ≤ 7) : (wLev T i).1 ≠ (wLev T j).1 := by
  have hT : T = 1 ∨ T = 2 ∨ T = 3 ∨ T = 4 ∨ T = 5 ∨ T = 6 ∨ T = 7 ∨ T = 8 := by omega
  rcases hT with rfl | rfl | rfl | rfl | rfl | rfl | rfl | rfl
  · exact wne1 h hj
  · exact wne2 h hj
  · exact wne3 h hj
  · exact wne4 h hj
  · exact wne5 h hj
  · exact wne6 h hj
  · exact wne7 h hj
  · exact wne8 h hj
theorem wLook {T D : Nat} (h1 : 1 ≤ T) (h8 : T ≤ 8) (hD : D ≤ 7) : ∀ j, j ≤ D → lookO ((List.range (D + 1)).map (wLev T)) (wLev T j).1 = some (wLev T j).2 := fun j hj => by
  have hf : ((List.range (D + 1)).map (wLev T)).find? (fun o => decide (o.1 = (wLev T j).1)) = some (wLev T j) := by
    rw [List.find?_eq_some_iff_getElem]
    refine ⟨by simp, j, by simp; omega, by simp, fun i hi => ?_⟩
    simp only [List.getElem_map, List.getElem_range, Bool.not_eq_true', decide_eq_false_iff_not]
    exact wne h1 h8 hi (by omega)
  rw [lookO, hf]; rfl
theorem wIts_snoc {T i : Nat} {b : Bool} {o : Id32} (h : i < T) : (wIts T b o).take (i + 1) = (wIts T b o).take i ++ [⟨[UInt8.ofNat (97 + i)], if b then 1 else 2, o, if b then 4 else 0⟩] := by
  have hg : (wIts T b o)[i]? = some ⟨[UInt8.ofNat (97 + i)], if b then 1 else 2, o, if b then 4 else 0⟩ := by
    rw [wIts, List.getElem?_map, List.getElem?_range h]; rfl
  rw [List.take_add_one, hg]; rfl
theorem wIts_fits {T : Nat} {b : Bool} {o : Id32} : ∀ x ∈ wIts T b o, x.name.length ≤ 65536 ∧ x.size ≤ 9223372036854775807 := fun x hx => by
  obtain ⟨i, hi⟩ := List.getElem?_of_mem hx
  obtain ⟨h1, rfl⟩ := wIts_get T b o hi
  refine ⟨by show 1 ≤ 65536; decide, ?_⟩
  cases b
  · show (0 : Int) ≤ _; decide
  · show (4 : Int) ≤ _; decide
theorem wSz_pow (T : Nat) : ∀ j, wSz T (j + 1) = wSz T j + T ^ (j + 1)
  | 0 => by simp [wSz]
  | j + 1 => by
    have h := wSz_pow T j
    have e : wSz T (j + 1 + 1) = 1 + wSz T (j + 1) * T := rfl
    have e2 : wSz T (j + 1) = 1 + wSz T j * T := rfl
    rw [e, h, Nat.add_mul, ← Nat.pow_succ, ← Nat.add_assoc, ← e2, h]
end Go.Proofs.Ytomjbabllcmodaa
namespace Go.Proofs.Ytomjbabllcmodaa
open Go
set_option maxRecDepth 100000
theorem place_ret (w : World) (k n : Int) (hn : 1 ≤ n) (hm : n ≤ 4611686018427387904) : Ret Try.prog 23 [VI k, VI n] w fun v w' => ∃ m : Nat, v = VI (m : Int) ∧ (m : Int) < n ∧ w' = w := by
  refine ret_mk Try.func23 rfl Try.ntmps23 (by simp) ?_
  have hb := tmod_lt k n (by omega)
  obtain ⟨r, hr⟩ : ∃ r, k.tmod n = r := ⟨_, rfl⟩
  rw [hr] at hb
  repeat refine c_seq ?_
  refine c_region ?_; refine l_op (o_as ?_); first | refine l_end ?_ | refine l_nil ?_
  repeat refine c_seq ?_
  refine c_region ?_; refine l_op (o_mv ?_); refine l_op (o_bin rfl rfl (fun _ => b_lssB false (decide_eq_false (by omega))) ?_); first | refine l_end ?_ | refine l_nil ?_
  repeat refine c_seq ?_
  refine c_no rfl ?_; refine c_skip ?_; repeat refine c_seq ?_
  refine c_region ?_; refine l_op (o_mv ?_); refine l_op (o_mv ?_); refine l_op (o_bin (v := VI r) rfl rfl (fun _ => by rw [← hr]; exact b_remT (by omega)) ?_); refine l_op (o_as ?_); first | refine l_end ?_ | refine l_nil ?_
  by_cases h0 : r < 0
  · skip
    repeat refine c_seq ?_
    refine c_region ?_; refine l_op (o_mv ?_); refine l_op (o_bin rfl rfl (fun _ => b_lssB true (decide_eq_true h0)) ?_); first | refine l_end ?_ | refine l_nil ?_
    repeat refine c_seq ?_
    refine c_yes rfl ?_; repeat refine c_seq ?_
    refine c_region ?_; refine l_op (o_mv ?_); refine l_op (o_mv ?_); refine l_op (o_bin rfl rfl (fun _ => b_add (by omega) (by omega)) ?_); refine l_op (o_as ?_); first | refine l_end ?_ | refine l_nil ?_
    repeat refine c_seq ?_
    refine c_region ?_; refine l_op (o_mv ?_); refine l_op (o_as ?_); first | refine l_end ?_ | refine l_nil ?_
    refine c_ret (e_ret1 (v := VI ((r + n).toNat : Int)) Try.results23 ?_ ⟨_, rfl, (r + n).toNat, rfl, by omega, rfl⟩); have e : ((r + n).toNat : Int) = r + n := by omega
    rw [e]; rfl
  · skip
    repeat refine c_seq ?_
    refine c_region ?_; refine l_op (o_mv ?_); refine l_op (o_bin rfl rfl (fun _ => b_lssB false (decide_eq_false h0)) ?_); first | refine l_end ?_ | refine l_nil ?_
    repeat refine c_seq ?_
    refine c_no rfl ?_; refine c_skip ?_; repeat refine c_seq ?_
    refine c_region ?_; refine l_op (o_mv ?_); refine l_op (o_as ?_); first | refine l_end ?_ | refine l_nil ?_
    refine c_ret (e_ret1 (v := VI (r.toNat : Int)) Try.results23 ?_ ⟨_, rfl, r.toNat, rfl, by omega, rfl⟩); have e : (r.toNat : Int) = r := by omega
    rw [e]; rfl
end Go.Proofs.Ytomjbabllcmodaa
namespace Go.Proofs.Ytomjbabllcmodaa
open Go
set_option maxRecDepth 100000
section
variable {P : Program} {n : Nat} {σ : Nat → Value} {w : World} {Q : Exit → Act → World → Prop}
theorem c_loop9 {α0 α1 α2 α3 α4 α5 α6 α7 α8 : Type} {c : Code} (pat : α0 → α1 → α2 → α3 → α4 → α5 → α6 → α7 → α8 → List (Nat × Value)) (A : α0 → α1 → α2 → α3 → α4 → α5 → α6 → α7 → α8 → World → Prop) (μ : α0 → α1 → α2 → α3 → α4 → α5 → α6 → α7 → α8 → Nat) (x0 : α0) (x1 : α1) (x2 : α2) (x3 : α3) (x4 : α4) (x5 : α5) (x6 : α6) (x7 : α7) (x8 : α8) (hp : fits σ (pat x0 x1 x2 x3 x4 x5 x6 x7 x8)) (hA : A x0 x1 x2 x3 x4 x5 x6 x7 x8 w)
    (h : ∀ x0 x1 x2 x3 x4 x5 x6 x7 x8 τ w, A x0 x1 x2 x3 x4 x5 x6 x7 x8 w → c.wp P (Exit.then (Rnd n (fun y : α0 × α1 × α2 × α3 × α4 × α5 × α6 × α7 × α8 => pat y.1 y.2.1 y.2.2.1 y.2.2.2.1 y.2.2.2.2.1 y.2.2.2.2.2.1 y.2.2.2.2.2.2.1 y.2.2.2.2.2.2.2.1 y.2.2.2.2.2.2.2.2) (fun y => A y.1 y.2.1 y.2.2.1 y.2.2.2.1 y.2.2.2.2.1 y.2.2.2.2.2.1 y.2.2.2.2.2.2.1 y.2.2.2.2.2.2.2.1 y.2.2.2.2.2.2.2.2) (fun y => μ y.1 y.2.1 y.2.2.1 y.2.2.2.1 y.2.2.2.2.1 y.2.2.2.2.2.1 y.2.2.2.2.2.2.1 y.2.2.2.2.2.2.2.1 y.2.2.2.2.2.2.2.2) (μ x0 x1 x2 x3 x4 x5 x6 x7 x8)) Q) (mk n (ups τ (pat x0 x1 x2 x3 x4 x5 x6 x7 x8))) w) : (Code.loop c).wp P Q (mk n σ) w :=
  c_loop (fun y : α0 × α1 × α2 × α3 × α4 × α5 × α6 × α7 × α8 => pat y.1 y.2.1 y.2.2.1 y.2.2.2.1 y.2.2.2.2.1 y.2.2.2.2.2.1 y.2.2.2.2.2.2.1 y.2.2.2.2.2.2.2.1 y.2.2.2.2.2.2.2.2) (fun y => A y.1 y.2.1 y.2.2.1 y.2.2.2.1 y.2.2.2.2.1 y.2.2.2.2.2.1 y.2.2.2.2.2.2.1 y.2.2.2.2.2.2.2.1 y.2.2.2.2.2.2.2.2) (fun y => μ y.1 y.2.1 y.2.2.1 y.2.2.2.1 y.2.2.2.2.1 y.2.2.2.2.2.1 y.2.2.2.2.2.2.1 y.2.2.2.2.2.2.2.1 y.2.2.2.2.2.2.2.2) (x0, x1, x2, x3, x4, x5, x6, x7, x8) hp hA fun y τ w hA => h y.1 y.2.1 y.2.2.1 y.2.2.2.1 y.2.2.2.2.1 y.2.2.2.2.2.1 y.2.2.2.2.2.2.1 y.2.2.2.2.2.2.2.1 y.2.2.2.2.2.2.2.2 τ w hA
end
end Go.Proofs.Ytomjbabllcmodaa
namespace Go.Proofs.Ytomjbabllcmodaa
open Go
set_option maxRecDepth 100000
def obsOk (T n : Nat) (obs : List Ob) : Prop := obL obs = (List.range n).map (wLev T) ∧ ∀ o ∈ obs, o.data.a = hd (o.data.a.map (·.block)) ∧ o.data.l.length = o.data.len ∧ o.data.len ≤ 4096
theorem wNs_mem {T : Nat} : ∀ (j : Nat) (k : Id32), k ∈ wNs T j ↔ ∃ i, i ≤ j ∧ k = (wLev T i).1
  | 0, k => by
    rw [wNs, List.mem_singleton]
    exact ⟨fun h => ⟨0, Nat.le_refl _, h⟩, fun ⟨i, h1, h2⟩ => by obtain rfl : i = 0 := by omega
                                                                 exact h2⟩
  | j + 1, k => by
    rw [wNs, List.mem_cons, wNs_mem j k]
    constructor
    · rintro (h | ⟨i, h1, h2⟩)
      · exact ⟨j + 1, Nat.le_refl _, h⟩
      · exact ⟨i, by omega, h2⟩
    · rintro ⟨i, h1, h2⟩
      by_cases e : i = j + 1
      · subst e; exact .inl h2
      · exact .inr ⟨i, by omega, h2⟩
theorem wNs_nd {T : Nat} (h1 : 1 ≤ T) (h8 : T ≤ 8) : ∀ j, j ≤ 7 → (wNs T j).Nodup ∧ (wNs T j).length = j + 1
  | 0, _ => ⟨by rw [wNs]; simp, rfl⟩
  | j + 1, hj => by
    obtain ⟨h2, h3⟩ := wNs_nd h1 h8 j (by omega)
    refine ⟨List.nodup_cons.2 ⟨fun hm => ?_, h2⟩, by rw [wNs, List.length_cons, h3]⟩
    obtain ⟨i, hi, e⟩ := (wNs_mem j _).1 hm
    exact wne h1 h8 (show i < j + 1 by omega) hj e.symm
theorem wide_run {T d : Nat} {obs : List Ob} (h1 : 1 ≤ T) (h8 : T ≤ 8) (hd : 1 ≤ d ∧ d ≤ 7) (hob : obsOk T (d + 1) obs) :
    (wSz T d ≤ 1024 → (wlkAll (obL obs) [⟨2, (wLev T d).1, 0, 1, []⟩] ⟨0, [], [], 0⟩).err = 0 ∧ (wlkAll (obL obs) [⟨2, (wLev T d).1, 0, 1, []⟩] ⟨0, [], [], 0⟩).files.length = T ^ d ∧ ∀ k, k ∈ (wlkAll (obL obs) [⟨2, (wLev T d).1, 0, 1, []⟩] ⟨0, [], [], 0⟩).names ↔ k ∈ wNs T d) ∧
    (1024 < wSz T d → (wlkAll (obL obs) [⟨2, (wLev T d).1, 0, 1, []⟩] ⟨0, [], [], 0⟩).err = 2) := by
  obtain ⟨g1, g2⟩ := good_lev (L := obL obs) (D := d) h1 h8 (by rw [hob.1]; exact wLook h1 h8 hd.2) d (Nat.le_refl _) ⟨2, (wLev T d).1, 0, 1, []⟩ rfl (fun e => by omega) (fun _ => rfl) (by show 1 + d ≤ 9; omega) ⟨0, [], [], 0⟩ rfl (Nat.zero_le _)
  refine ⟨fun h => ?_, fun h => g2 (by show 1024 < 0 + _; omega)⟩
  obtain ⟨i1, _, i3, i4⟩ := g1 (by show 0 + _ ≤ 1024; omega)
  exact ⟨i1, i3.trans (Nat.zero_add _), fun k => (i4 k).trans ⟨fun h => h.elim (fun h => by cases h) id, .inr⟩⟩
theorem wide_names {T d : Nat} {W : WS} {R : List Id32} (h1 : 1 ≤ T) (h8 : T ≤ 8) (hd : d ≤ 7) (h : NamesOk W R) (he : W.err = 0) (hn : ∀ k, k ∈ W.names ↔ k ∈ wNs T d) : R.length = d + 1 := by
  obtain ⟨r1, r2⟩ := h.1 he
  obtain ⟨n1, n2⟩ := wNs_nd h1 h8 d hd
  have l1 := nd_le (m := wNs T d) (ris_nodup r1) (fun k hk => (hn k).1 ((r2 k).1 hk))
  have l2 := nd_le (l := wNs T d) (m := R) n1 (fun k hk => (r2 k).2 ((hn k).2 hk))
  omega
theorem wide_files {W : WS} {fs : List Fl} {n : Nat} (h : FilesOk W fs) (he : W.err = 0) (hn : W.files.length = n) : fs.length = n := by
  have := congrArg List.length (h.1 he)
  rw [List.length_map, List.length_map] at this
  omega
theorem wide_bd {T e : Nat} (hT : T ≤ 8) (he : e ≤ 7) : T ^ e ≤ 2097152 := Nat.le_trans (Nat.pow_le_pow_left hT e) (Nat.le_trans (Nat.pow_le_pow_right (by decide) he) (by decide))
theorem wSz_nine {T : Nat} (hT : T ≤ 8) : ∀ d, wSz T d ≤ 9 ^ d
  | 0 => Nat.le_refl _
  | d + 1 => by
    have h := wSz_nine hT d
    have h1 : wSz T d * T ≤ 9 ^ d * 8 := Nat.mul_le_mul h hT
    have h2 : 1 ≤ 9 ^ d := Nat.one_le_pow _ _ (by decide)
    rw [Nat.pow_succ]
    show 1 + wSz T d * T ≤ _
    omega
theorem wSz_bd {T d : Nat} (hT : T ≤ 8) (hd : d ≤ 7) : wSz T d ≤ 4782969 := Nat.le_trans (wSz_nine hT d) (Nat.le_trans (Nat.pow_le_pow_right (by decide) hd) (by decide))
theorem wide_start {w0 w : World} {S : List Nat} {a : Option Nat} {n c : Nat} {l : List UInt8} {k : Id32} {x y : Ch} (H : Hp w0 w S [.own a n c (l.map V8) 5 1, x, y]) : Hp w0 w S (x :: y :: ([(⟨k, ⟨hd a, n, c, l⟩⟩ : Ob)].map (·.data)).map ach) := by
  have e : ach ⟨hd a, n, c, l⟩ = .own a n c (l.map V8) 5 1 := by cases a <;> rfl
  show Hp w0 w S [x, y, ach ⟨hd a, n, c, l⟩]
  rw [e]
  exact H.perm (List.perm_append_comm (l₁ := [_]) (l₂ := [_, _]))
theorem wide_step {w0 w : World} {S : List Nat} {a : Option Nat} {n c : Nat} {l : List UInt8} {k : Id32} {x y : Ch} {obs : List Ob} (H : Hp w0 w S (.own a n c (l.map V8) 5 1 :: x :: y :: (obs.map (·.data)).map ach)) : Hp w0 w S (x :: y :: ((obs ++ [(⟨k, ⟨hd a, n, c, l⟩⟩ : Ob)]).map (·.data)).map ach) := by
  have e : ach ⟨hd a, n, c, l⟩ = .own a n c (l.map V8) 5 1 := by cases a <;> rfl
  rw [List.map_append, List.map_append]
  show Hp w0 w S (x :: y :: ((obs.map (·.data)).map ach ++ [ach ⟨hd a, n, c, l⟩]))
  rw [e]
  refine H.perm ?_; have := (List.perm_append_singleton (Ch.own a n c (l.map V8) 5 1) (x :: y :: (obs.map (·.data)).map ach)).symm
  simpa using this
theorem obs_start {T : Nat} {a : Option Nat} {c : Nat} {l : List UInt8} (hl : l = wLeaf) : obsOk T 1 [⟨shaI l, ⟨hd a, l.length, c, l⟩⟩] := by
  subst hl
  exact ⟨rfl, fun o ho => by rw [List.mem_singleton.1 ho]; exact ⟨by cases a <;> rfl, rfl, by show 4 ≤ 4096; decide⟩⟩
theorem obs_step {T d : Nat} {obs : List Ob} {a : Option Nat} {c : Nat} {t : List UInt8} (h : obsOk T (d + 1) obs) (ht : wLev T (d + 1) = (shaI t, t)) (hl : t.length ≤ 4096) : obsOk T (d + 1 + 1) (obs ++ [⟨shaI t, ⟨hd a, t.length, c, t⟩⟩]) := by
  refine ⟨?_, fun o ho => ?_⟩
  · rw [obL, List.map_append, List.range_succ, List.map_append]
    have h1 := h.1
    rw [obL] at h1
    rw [h1]
    show _ ++ [(shaI t, t)] = _ ++ [wLev T (d + 1)]
    rw [ht]
  · rcases List.mem_append.1 ho with ho | ho
    · exact h.2 o ho
    · rw [List.mem_singleton.1 ho]; exact ⟨by cases a <;> rfl, rfl, hl⟩
theorem obs_ok {w : World} {T n : Nat} {obs : List Ob} (h : obsOk T n obs) (hH : ∀ o ∈ obs, (ach o.data).ok w) : ∀ o ∈ obs, o.data.ok w ∧ o.data.len ≤ 1048576 := fun o ho => by
  obtain ⟨h1, h2, h3⟩ := h.2 o ho
  have h4 := ach_ok (hH o ho)
  rw [← h1] at h4
  exact ⟨h4, by omega⟩
theorem lev_is {T d : Nat} {its : List It} {t : List UInt8} {e : Int} (hT : T ≤ 8) (hi : its = wIts T (d == 0) (wLev T d).1) (h : BytesRes its t e) : wLev T (d + 1) = (shaI t, t) ∧ t.length ≤ 4000 := by
  subst hi
  have h1 := (bytesRes_ok h (wIts_may hT _ _) (wFld_len hT _ _)).2
  subst h1
  exact ⟨rfl, wFld_len hT _ _⟩
theorem wfilesL_ret (w0 : World) (g : Gl Ob) (hg : g.ok obE 33 w0) (ho : ∀ o ∈ g.l, o.data.ok w0 ∧ o.data.len ≤ 1048576) (k : Id32) : Ret Try.prog 19 [g.v, .agg (k.1.map V8).toArray] w0 fun v w' => ∃ (a : Option Nat) (c : Nat) (fs : List Fl), v = .tuple #[.slice (hd a) fs.length c, VI (wlkAll (obL g.l) [⟨2, k, 0, 1, []⟩] ⟨0, [], [], 0⟩).err] ∧ FilesOk (wlkAll (obL g.l) [⟨2, k, 0, 1, []⟩] ⟨0, [], [], 0⟩) fs ∧ Hp w0 w' [] [.own a fs.length c (fs.flatMap flE) 48 3] :=
  (wfiles_ret w0 g hg ho k).mono fun v _w' ⟨a, c, fs, hv, hf, H⟩ => ⟨a, c, fs, hv, hf, H.sub (.cons_cons _ (List.nil_sublist _))⟩
theorem walkWide_ret (w0 : World) (deep times : Int) :
    Ret Try.prog 7 [VI deep, VI times] w0 fun v w' => v = .bool true ∧ Hp w0 w' [] [] := by
  refine ret_mk Try.func7 rfl Try.ntmps7 (by simp) ?_
  have H := Hp.refl w0 []
  repeat refine c_seq ?_
  refine c_region ?_; refine l_op (o_val r_as ?_); first | refine l_end ?_ | refine l_nil ?_
  repeat refine c_seq ?_
  refine c_region ?_; refine l_op (o_callR Try.func17 rfl rfl rfl (begun17_ret _) ?_); rintro _ w ⟨rfl, Hc⟩
  replace H : Hp _ w _ ([]) := H.call Hc
  clear Hc
  refine l_op (o_val (r_not rfl) ?_); first | refine l_end ?_ | refine l_nil ?_
  repeat refine c_seq ?_
  refine c_no rfl ?_; refine c_skip ?_; repeat refine c_seq ?_
  refine c_region ?_; refine l_op (o_val r_mv ?_); refine l_op (o_callR Try.func23 rfl rfl rfl (place_ret _ deep 7 (by omega) (by omega)) ?_); rintro _ w' ⟨m1, rfl, hm2, hw3⟩
  rw [hw3]; clear hw3 w'
  refine l_op (o_val (r_bin (a := 1) (b := (m1 : Int)) rfl rfl (fun _ => b_add (by omega) (by omega))) ?_); refine l_op (o_val r_mv ?_); refine l_op (o_callR Try.func23 rfl rfl rfl (place_ret _ times 8 (by omega) (by omega)) ?_); rintro _ w' ⟨m4, rfl, hm5, hw6⟩
  rw [hw6]; clear hw6 w'
  refine l_op (o_val (r_bin (a := 1) (b := (m4 : Int)) rfl rfl (fun _ => b_add (by omega) (by omega))) ?_); refine l_op (o_val r_as ?_); refine l_op (o_val r_as ?_); first | refine l_end ?_ | refine l_nil ?_
  repeat refine c_seq ?_
  refine c_region ?_; refine l_op (o_bslB ([(108 : UInt8), (101 : UInt8), (97 : UInt8), (102 : UInt8)]) H sl32 zc5 rfl rfl (by decide) (fun b7 w H hb7 => ?_)); replace H : Hp _ w _ ([.own (some b7) 4 4 (([(108 : UInt8), (101 : UInt8), (97 : UInt8), (102 : UInt8)]).map V8) 5 1]) := H
  replace H := H.toBlkB (i := 0) rfl
  refine l_op (o_lit H (i := 0) rfl Try.underlying32 Try.underlying5 rfl (fun w H => ?_)); replace H : Hp _ w _ ([.obj b7 (litO (([(108 : UInt8), (101 : UInt8), (97 : UInt8), (102 : UInt8)]).map V8) 5)]) := H
  refine l_op (o_callR Try.func24 rfl rfl rfl (of17_ret _ (⟨some ⟨b7, 0, none⟩, 4, 4, [(108 : UInt8), (101 : UInt8), (97 : UInt8), (102 : UInt8)]⟩ : Sl) (ok_lit H (i := 0) rfl rfl rfl (by decide) (by decide)) (by (try dsimp only); omega)) ?_); rintro _ w ⟨a8, c9, rfl, Hc⟩
  replace H : Hp _ w _ ([_, .own a8 (([(108 : UInt8), (101 : UInt8), (97 : UInt8), (102 : UInt8)]).length) c9 (([(108 : UInt8), (101 : UInt8), (97 : UInt8), (102 : UInt8)]).map V8) 5 1]) := H.call Hc
  clear Hc
  refine l_op (o_alloc H zc34 (fun b10 w H hb10 => ?_)); replace H : Hp _ w _ ([_, _, .blk b10 ((List.replicate 32 (0 : UInt8)).map V8 ++ (([.slice none 0 0] : List Value))) 34]) := H
  refine l_op (o_stW (C' := ((shaI ([(108 : UInt8), (101 : UInt8), (97 : UInt8), (102 : UInt8)])).1).map V8 ++ (([.slice (hd a8) (([(108 : UInt8), (101 : UInt8), (97 : UInt8), (102 : UInt8)]).length) c9] : List Value))) H (i := 2) rfl rfl rfl cs34 (by first | (simp [Value.oneCell', List.all_append, List.all_map]; done) | (simp only [List.all_append, List.all_cons, List.all_nil, List.all_map]; simp [Value.oneCell', Function.comp_def])) (by simp only [List.length_append, List.length_map, List.length_cons, List.length_nil, (show (List.replicate 32 (0 : UInt8)).length = 32 from (List.length_replicate ..))]) (by simp only [List.length_append, List.length_map, List.length_cons, List.length_nil, (show ((shaI ([(108 : UInt8), (101 : UInt8), (97 : UInt8), (102 : UInt8)])).1).length = 32 from (shaI ([(108 : UInt8), (101 : UInt8), (97 : UInt8), (102 : UInt8)])).2)]) (fun w H => ?_)); replace H : Hp _ w _ ([_, _, .blk b10 (((shaI ([(108 : UInt8), (101 : UInt8), (97 : UInt8), (102 : UInt8)])).1).map V8 ++ (([.slice (hd a8) (([(108 : UInt8), (101 : UInt8), (97 : UInt8), (102 : UInt8)]).length) c9] : List Value))) 34]) := H
  first | refine l_end ?_ | refine l_nil ?_
  repeat refine c_seq ?_
  refine c_region ?_; refine l_op (o_val (r_ldA (C := ((shaI ([(108 : UInt8), (101 : UInt8), (97 : UInt8), (102 : UInt8)])).1).map V8 ++ (([.slice (hd a8) (([(108 : UInt8), (101 : UInt8), (97 : UInt8), (102 : UInt8)]).length) c9] : List Value))) H (i := 2) rfl rfl rt34 (by simp only [List.length_append, List.length_map, List.length_cons, List.length_nil, (show ((shaI ([(108 : UInt8), (101 : UInt8), (97 : UInt8), (102 : UInt8)])).1).length = 32 from (shaI ([(108 : UInt8), (101 : UInt8), (97 : UInt8), (102 : UInt8)])).2)])) ?_); refine l_op (o_bslG1 (enc := obE) ((⟨shaI ([(108 : UInt8), (101 : UInt8), (97 : UInt8), (102 : UInt8)]), ⟨hd a8, ([(108 : UInt8), (101 : UInt8), (97 : UInt8), (102 : UInt8)]).length, c9, [(108 : UInt8), (101 : UInt8), (97 : UInt8), (102 : UInt8)]⟩⟩ : Ob)) H sl22 zc34 (by rfl) (by decide) (by decide) rfl (obE_len _) (fun b11 w H hb11 => ?_)); replace H : Hp _ w _ ([_, _, _, .own (some b11) 1 1 (([(⟨shaI ([(108 : UInt8), (101 : UInt8), (97 : UInt8), (102 : UInt8)]), ⟨hd a8, ([(108 : UInt8), (101 : UInt8), (97 : UInt8), (102 : UInt8)]).length, c9, [(108 : UInt8), (101 : UInt8), (97 : UInt8), (102 : UInt8)]⟩⟩ : Ob)]).flatMap obE) 34 33]) := H
  refine l_op (o_val r_as ?_); first | refine l_end ?_ | refine l_nil ?_
  repeat refine c_seq ?_
  refine c_region ?_; refine l_op (o_val (r_fa rfl fo34_0) ?_); refine l_op (o_val (r_lk H (i := 2) rfl rfl rt29 (show Cut3 (((shaI ([(108 : UInt8), (101 : UInt8), (97 : UInt8), (102 : UInt8)])).1).map V8 ++ (([.slice (hd a8) (([(108 : UInt8), (101 : UInt8), (97 : UInt8), (102 : UInt8)]).length) c9] : List Value))) (([] : List Value)) (((shaI ([(108 : UInt8), (101 : UInt8), (97 : UInt8), (102 : UInt8)])).1).map V8) (([.slice (hd a8) (([(108 : UInt8), (101 : UInt8), (97 : UInt8), (102 : UInt8)]).length) c9] : List Value)) 0 32 from ⟨(show ((shaI ([(108 : UInt8), (101 : UInt8), (97 : UInt8), (102 : UInt8)])).1).map V8 ++ (([.slice (hd a8) (([(108 : UInt8), (101 : UInt8), (97 : UInt8), (102 : UInt8)]).length) c9] : List Value)) = ([] : List Value) ++ ((((shaI ([(108 : UInt8), (101 : UInt8), (97 : UInt8), (102 : UInt8)])).1).map V8) ++ (([.slice (hd a8) (([(108 : UInt8), (101 : UInt8), (97 : UInt8), (102 : UInt8)]).length) c9] : List Value))) from by simp only [List.nil_append]), (by rfl), (by simp only [List.length_map, (show ((shaI ([(108 : UInt8), (101 : UInt8), (97 : UInt8), (102 : UInt8)])).1).length = 32 from (shaI ([(108 : UInt8), (101 : UInt8), (97 : UInt8), (102 : UInt8)])).2)])⟩)) ?_); refine l_op (o_alloc H zc29 (fun b12 w H hb12 => ?_)); replace H : Hp _ w _ ([_, _, _, _, .blk b12 ((List.replicate 32 (0 : UInt8)).map V8) 29]) := H
  refine l_op (o_stA (l' := (shaI ([(108 : UInt8), (101 : UInt8), (97 : UInt8), (102 : UInt8)])).1) H (i := 4) rfl rfl rfl cs29 (show (List.replicate 32 (0 : UInt8)).length = 32 from (List.length_replicate ..)) (show ((shaI ([(108 : UInt8), (101 : UInt8), (97 : UInt8), (102 : UInt8)])).1).length = 32 from (shaI ([(108 : UInt8), (101 : UInt8), (97 : UInt8), (102 : UInt8)])).2) (fun w H => ?_)); replace H : Hp _ w _ ([_, _, _, _, .blk b12 (((shaI ([(108 : UInt8), (101 : UInt8), (97 : UInt8), (102 : UInt8)])).1).map V8) 29]) := H
  refine l_op (o_val r_as ?_); refine l_op (o_val r_as ?_); first | refine l_end ?_ | refine l_nil ?_
  repeat refine c_seq ?_
  refine c_region ?_; refine l_op (o_val r_as ?_); refine l_op (o_val r_as ?_); first | refine l_end ?_ | refine l_nil ?_
  repeat refine c_seq ?_
  refine c_region ?_; refine l_op (o_val r_as ?_); first | refine l_end ?_ | refine l_nil ?_
  repeat refine c_seq ?_
  refine c_block ?_; repeat refine c_seq ?_
  refine c_loop9 (fun (d : Nat) (obs : List Ob) (oa : Option Nat) (ok : Nat) (on : Nat) (kd : Int) (sz : Int) (met : Nat) (wide : Nat) => [(0, VI (1 + (m1 : Int))), (1, VI (1 + (m4 : Int))), (6, .slice (hd oa) on ok), (7, .pointer (some ⟨b12, 0, none⟩)), (8, VI kd), (9, VI sz), (10, VI (met : Int)), (11, VI (wide : Int)), (12, VI (d : Int))])
    (fun (d : Nat) (obs : List Ob) (oa : Option Nat) (ok : Nat) (on : Nat) (kd : Int) (sz : Int) (met : Nat) (wide : Nat) w => (d ≤ m1 + 1 ∧ obsOk (m4 + 1) (d + 1) obs ∧ obs.length = on ∧ kd = (if d = 0 then 1 else 2) ∧ sz = (if d = 0 then 4 else 0) ∧ met = wSz (m4 + 1) d ∧ wide = (m4 + 1) ^ d) ∧ Hp w0 w [] (Ch.own oa on ok ((obs).flatMap obE) 34 33 :: Ch.blk b12 (((wLev (m4 + 1) d).1.1).map V8) 29 :: (obs.map (·.data)).map ach))
    (fun (d : Nat) (obs : List Ob) (oa : Option Nat) (ok : Nat) (on : Nat) (kd : Int) (sz : Int) (met : Nat) (wide : Nat) => m1 + 1 - d) 0 ([(⟨shaI ([(108 : UInt8), (101 : UInt8), (97 : UInt8), (102 : UInt8)]), ⟨hd a8, ([(108 : UInt8), (101 : UInt8), (97 : UInt8), (102 : UInt8)]).length, c9, [(108 : UInt8), (101 : UInt8), (97 : UInt8), (102 : UInt8)]⟩⟩ : Ob)]) (some b11) 1 1 1 4 1 1 ⟨rfl, rfl, rfl, rfl, rfl, rfl, rfl, rfl, rfl, trivial⟩ ⟨⟨Nat.zero_le _, obs_start rfl, rfl, rfl, rfl, rfl, rfl⟩, (wide_start (H.sub (.cons _ (.cons_cons _ (.cons _ (.cons_cons _ (.cons_cons _ (List.nil_sublist _))))))))⟩ ?_
  clear H
  rintro d obs oa ok on kd sz met wide τ w ⟨⟨hd7, hob, hol, hkd, hsz, hmet, hwd⟩, H⟩
  have honl := congrArg List.length hob.1
  rw [obL, List.length_map, List.length_map, List.length_range] at honl
  repeat refine c_seq ?_
  refine c_region ?_; refine l_op (o_val r_mv ?_); refine l_op (o_val r_mv ?_); refine l_op (o_val (r_bin (a := (d : Int)) (b := 1 + (m1 : Int)) rfl rfl (fun _ => b_lss)) ?_); first | refine l_end ?_ | refine l_nil ?_
  by_cases hc13 : (d : Int) < 1 + (m1 : Int)
  ·
   repeat refine c_seq ?_
   refine c_yes (by exact congrArg Value.bool (decide_eq_true hc13)) ?_; refine c_skip ?_; repeat refine c_seq ?_
   refine c_block ?_; repeat refine c_seq ?_
   refine c_region ?_; refine l_op (o_val r_as ?_); first | refine l_end ?_ | refine l_nil ?_
   repeat refine c_seq ?_
   refine c_region ?_; refine l_op (o_val r_as ?_); first | refine l_end ?_ | refine l_nil ?_
   repeat refine c_seq ?_
   refine c_block ?_; replace H := (H.nilEnd 54 35).rot
   replace H : Hp _ w _ (Ch.own none 0 0 (([]).flatMap itE) 54 35 :: Ch.own oa on ok ((obs).flatMap obE) 34 33 :: Ch.blk b12 (((wLev (m4 + 1) d).1.1).map V8) 29 :: (obs.map (·.data)).map ach) := H
   repeat refine c_seq ?_
   refine c_loop5 (fun (i : Nat) (its : List It) (ia : Option Nat) (ik : Nat) (inn : Nat) => [(0, VI (1 + (m1 : Int))), (1, VI (1 + (m4 : Int))), (6, .slice (hd oa) on ok), (7, .pointer (some ⟨b12, 0, none⟩)), (8, VI kd), (9, VI sz), (10, VI (met : Int)), (11, VI (wide : Int)), (12, VI (d : Int)), (13, .slice (hd ia) inn ik), (14, VI (i : Int))])
     (fun (i : Nat) (its : List It) (ia : Option Nat) (ik : Nat) (inn : Nat) w => (i ≤ m4 + 1 ∧ its = (wIts (m4 + 1) (d == 0) (wLev (m4 + 1) d).1).take i ∧ its.length = inn) ∧ Hp w0 w [] (Ch.own ia inn ik ((its).flatMap itE) 54 35 :: Ch.own oa on ok ((obs).flatMap obE) 34 33 :: Ch.blk b12 (((wLev (m4 + 1) d).1.1).map V8) 29 :: (obs.map (·.data)).map ach))
     (fun (i : Nat) (its : List It) (ia : Option Nat) (ik : Nat) (inn : Nat) => m4 + 1 - i) 0 ([]) none 0 0 ⟨rfl, rfl, rfl, rfl, rfl, rfl, rfl, rfl, rfl, rfl, rfl, trivial⟩ ⟨⟨Nat.zero_le _, rfl, rfl⟩, H⟩ ?_
   clear H
   rintro i its ia ik inn τ w ⟨⟨hii, hits, hin⟩, H⟩
   have hinl := congrArg List.length hits
   rw [List.length_take, wIts_len] at hinl
   repeat refine c_seq ?_
   refine c_region ?_; refine l_op (o_val r_mv ?_); refine l_op (o_val r_mv ?_); refine l_op (o_val (r_bin (a := (i : Int)) (b := 1 + (m4 : Int)) rfl rfl (fun _ => b_lss)) ?_); first | refine l_end ?_ | refine l_nil ?_
   by_cases hc14 : (i : Int) < 1 + (m4 : Int)
   ·
    repeat refine c_seq ?_
    refine c_yes (by exact congrArg Value.bool (decide_eq_true hc14)) ?_; refine c_skip ?_; repeat refine c_seq ?_
    refine c_block ?_; repeat refine c_seq ?_
    refine c_region ?_; refine l_op (o_val r_mv ?_); refine l_op (o_val r_mv ?_); refine l_op (o_val (r_bin (a := 97) (b := (i : Int)) rfl rfl (fun _ => b_add (by omega) (by omega))) ?_); refine l_op (o_val (r_conv (a := 97 + (i : Int)) (v := ((UInt8.ofNat (97 + i)).toNat : Int)) Try.underlying3 Try.underlying5 rfl (w_u8_N (97 + i) (by omega))) ?_); refine l_op (o_bslB ([UInt8.ofNat (97 + i)]) H sl32 zc5 rfl rfl (by decide) (fun b15 w H hb15 => ?_)); replace H := H.rot
    replace H : Hp _ w _ (Ch.own (some b15) 1 1 (([UInt8.ofNat (97 + i)]).map V8) 5 1 :: Ch.own ia inn ik ((its).flatMap itE) 54 35 :: Ch.own oa on ok ((obs).flatMap obE) 34 33 :: Ch.blk b12 (((wLev (m4 + 1) d).1.1).map V8) 29 :: (obs.map (·.data)).map ach) := H
    refine l_op (o_val (r_b2S (s := ⟨hd (some b15), 1, 1, [UInt8.ofNat (97 + i)]⟩) Try.underlying32 Try.underlying5 Try.underlying9 rfl (H.slOwn (i := 0) rfl)) ?_); refine l_op (o_val r_mv ?_); refine l_op (o_val (r_ldAA (l := (wLev (m4 + 1) d).1.1) H (i := 3) rfl rfl rt29 (show ((wLev (m4 + 1) d).1.1).length = 32 from (wLev (m4 + 1) d).1.2)) ?_); refine l_op (o_val r_mv ?_); refine l_op (o_val (r_bldG (Z := ([.string ⟨(([] : List UInt8)).toArray⟩, VI 0] : List Value) ++ ((List.replicate 32 (0 : UInt8)).map V8 ++ (([VI 0] : List Value)))) (E := ([.string ⟨([UInt8.ofNat (97 + i)]).toArray⟩, VI kd] : List Value) ++ (((wLev (m4 + 1) d).1.1).map V8 ++ (([VI sz] : List Value)))) (pv := [(0, .string ⟨([UInt8.ofNat (97 + i)]).toArray⟩), (1, VI kd), (2, .agg (((wLev (m4 + 1) d).1.1).map V8).toArray), (3, VI sz)]) bd54 rfl rfl (.cons (A := ([] : List Value)) (B := ([.string ⟨(([] : List UInt8)).toArray⟩] : List Value)) (D := ([VI 0] : List Value) ++ ((List.replicate 32 (0 : UInt8)).map V8 ++ (([VI 0] : List Value)))) (V := ([.string ⟨([UInt8.ofNat (97 + i)]).toArray⟩] : List Value)) (a := 0) (b := 1) rfl (show Cut3 (([.string ⟨(([] : List UInt8)).toArray⟩, VI 0] : List Value) ++ ((List.replicate 32 (0 : UInt8)).map V8 ++ (([VI 0] : List Value)))) (([] : List Value)) (([.string ⟨(([] : List UInt8)).toArray⟩] : List Value)) (([VI 0] : List Value) ++ ((List.replicate 32 (0 : UInt8)).map V8 ++ (([VI 0] : List Value)))) 0 1 from ⟨(show ([.string ⟨(([] : List UInt8)).toArray⟩, VI 0] : List Value) ++ ((List.replicate 32 (0 : UInt8)).map V8 ++ (([VI 0] : List Value))) = ([] : List Value) ++ ((([.string ⟨(([] : List UInt8)).toArray⟩] : List Value)) ++ (([VI 0] : List Value) ++ ((List.replicate 32 (0 : UInt8)).map V8 ++ (([VI 0] : List Value))))) from by simp only [List.cons_append, List.nil_append]), (by rfl), (by rfl)⟩) (by rfl) (by rfl) ((show ([.string ⟨([UInt8.ofNat (97 + i)]).toArray⟩, VI 0] : List Value) ++ ((List.replicate 32 (0 : UInt8)).map V8 ++ (([VI 0] : List Value))) = ([] : List Value) ++ ((([.string ⟨([UInt8.ofNat (97 + i)]).toArray⟩] : List Value)) ++ (([VI 0] : List Value) ++ ((List.replicate 32 (0 : UInt8)).map V8 ++ (([VI 0] : List Value))))) from by simp only [List.cons_append, List.nil_append]) ▸ .cons (A := ([.string ⟨([UInt8.ofNat (97 + i)]).toArray⟩] : List Value)) (B := ([VI 0] : List Value)) (D := (List.replicate 32 (0 : UInt8)).map V8 ++ (([VI 0] : List Value))) (V := ([VI kd] : List Value)) (a := 1) (b := 1) rfl (show Cut3 (([.string ⟨([UInt8.ofNat (97 + i)]).toArray⟩, VI 0] : List Value) ++ ((List.replicate 32 (0 : UInt8)).map V8 ++ (([VI 0] : List Value)))) (([.string ⟨([UInt8.ofNat (97 + i)]).toArray⟩] : List Value)) (([VI 0] : List Value)) ((List.replicate 32 (0 : UInt8)).map V8 ++ (([VI 0] : List Value))) 1 1 from ⟨(show ([.string ⟨([UInt8.ofNat (97 + i)]).toArray⟩, VI 0] : List Value) ++ ((List.replicate 32 (0 : UInt8)).map V8 ++ (([VI 0] : List Value))) = ([.string ⟨([UInt8.ofNat (97 + i)]).toArray⟩] : List Value) ++ ((([VI 0] : List Value)) ++ ((List.replicate 32 (0 : UInt8)).map V8 ++ (([VI 0] : List Value)))) from by simp only [List.cons_append, List.nil_append]), (by rfl), (by rfl)⟩) (by rfl) (by rfl) ((show ([.string ⟨([UInt8.ofNat (97 + i)]).toArray⟩, VI kd] : List Value) ++ ((List.replicate 32 (0 : UInt8)).map V8 ++ (([VI 0] : List Value))) = ([.string ⟨([UInt8.ofNat (97 + i)]).toArray⟩] : List Value) ++ ((([VI kd] : List Value)) ++ ((List.replicate 32 (0 : UInt8)).map V8 ++ (([VI 0] : List Value)))) from by simp only [List.cons_append, List.nil_append]) ▸ .cons (A := ([.string ⟨([UInt8.ofNat (97 + i)]).toArray⟩, VI kd] : List Value)) (B := (List.replicate 32 (0 : UInt8)).map V8) (D := ([VI 0] : List Value)) (V := ((wLev (m4 + 1) d).1.1).map V8) (a := 2) (b := 32) rfl (show Cut3 (([.string ⟨([UInt8.ofNat (97 + i)]).toArray⟩, VI kd] : List Value) ++ ((List.replicate 32 (0 : UInt8)).map V8 ++ (([VI 0] : List Value)))) (([.string ⟨([UInt8.ofNat (97 + i)]).toArray⟩, VI kd] : List Value)) ((List.replicate 32 (0 : UInt8)).map V8) (([VI 0] : List Value)) 2 32 from ⟨(show ([.string ⟨([UInt8.ofNat (97 + i)]).toArray⟩, VI kd] : List Value) ++ ((List.replicate 32 (0 : UInt8)).map V8 ++ (([VI 0] : List Value))) = ([.string ⟨([UInt8.ofNat (97 + i)]).toArray⟩, VI kd] : List Value) ++ (((List.replicate 32 (0 : UInt8)).map V8) ++ (([VI 0] : List Value))) from by simp only [List.cons_append, List.nil_append]), (by rfl), (by simp only [List.length_map, (show (List.replicate 32 (0 : UInt8)).length = 32 from (List.length_replicate ..))])⟩) (by rfl) (by simp only [List.length_map, (show ((wLev (m4 + 1) d).1.1).length = 32 from (wLev (m4 + 1) d).1.2)]) ((show ([.string ⟨([UInt8.ofNat (97 + i)]).toArray⟩, VI kd] : List Value) ++ (((wLev (m4 + 1) d).1.1).map V8 ++ (([VI 0] : List Value))) = ([.string ⟨([UInt8.ofNat (97 + i)]).toArray⟩, VI kd] : List Value) ++ ((((wLev (m4 + 1) d).1.1).map V8) ++ (([VI 0] : List Value))) from by simp only [List.cons_append, List.nil_append]) ▸ .cons (A := ([.string ⟨([UInt8.ofNat (97 + i)]).toArray⟩, VI kd] : List Value) ++ (((wLev (m4 + 1) d).1.1).map V8)) (B := ([VI 0] : List Value)) (D := ([] : List Value)) (V := ([VI sz] : List Value)) (a := 34) (b := 1) rfl (show Cut3 (([.string ⟨([UInt8.ofNat (97 + i)]).toArray⟩, VI kd] : List Value) ++ (((wLev (m4 + 1) d).1.1).map V8 ++ (([VI 0] : List Value)))) (([.string ⟨([UInt8.ofNat (97 + i)]).toArray⟩, VI kd] : List Value) ++ (((wLev (m4 + 1) d).1.1).map V8)) (([VI 0] : List Value)) (([] : List Value)) 34 1 from ⟨(show ([.string ⟨([UInt8.ofNat (97 + i)]).toArray⟩, VI kd] : List Value) ++ (((wLev (m4 + 1) d).1.1).map V8 ++ (([VI 0] : List Value))) = (([.string ⟨([UInt8.ofNat (97 + i)]).toArray⟩, VI kd] : List Value) ++ (((wLev (m4 + 1) d).1.1).map V8)) ++ ((([VI 0] : List Value)) ++ (([] : List Value))) from by simp only [List.cons_append, List.nil_append]), (by simp only [List.length_append, List.length_map, List.length_cons, List.length_nil, (show ((wLev (m4 + 1) d).1.1).length = 32 from (wLev (m4 + 1) d).1.2)]), (by rfl)⟩) (by rfl) (by rfl) ((show ([.string ⟨([UInt8.ofNat (97 + i)]).toArray⟩, VI kd] : List Value) ++ (((wLev (m4 + 1) d).1.1).map V8 ++ (([VI sz] : List Value))) = (([.string ⟨([UInt8.ofNat (97 + i)]).toArray⟩, VI kd] : List Value) ++ (((wLev (m4 + 1) d).1.1).map V8)) ++ ((([VI sz] : List Value)) ++ (([] : List Value))) from by simp only [List.cons_append, List.nil_append]) ▸ .nil _)))))) ?_)
    refine l_op (o_bslG1 (enc := itE) ((⟨[UInt8.ofNat (97 + i)], kd, (wLev (m4 + 1) d).1, sz⟩ : It)) H sl52 zc54 (by rfl) (by decide) (by decide) rfl (itE_len _) (fun b16 w H hb16 => ?_)); replace H := H.rot
    replace H : Hp _ w _ (Ch.own (some b16) 1 1 (([(⟨[UInt8.ofNat (97 + i)], kd, (wLev (m4 + 1) d).1, sz⟩ : It)]).flatMap itE) 54 35 :: Ch.own (some b15) 1 1 (([UInt8.ofNat (97 + i)]).map V8) 5 1 :: Ch.own ia inn ik ((its).flatMap itE) 54 35 :: Ch.own oa on ok ((obs).flatMap obE) 34 33 :: Ch.blk b12 (((wLev (m4 + 1) d).1.1).map V8) 29 :: (obs.map (·.data)).map ach) := H
    refine l_op (o_appG (enc := itE) (s := ⟨hd (some b16), 1, 1, [(⟨[UInt8.ofNat (97 + i)], kd, (wLev (m4 + 1) d).1, sz⟩ : It)]⟩) (l' := its ++ ([(⟨[UInt8.ofNat (97 + i)], kd, (wLev (m4 + 1) d).1, sz⟩ : It)])) (len' := inn + 1) rfl rfl H (i := 2) rfl sl52 Try.underlying52 rfl rfl (H.glOwn (i := 0) rfl (by decide) (fun c _ => itE_len c)) (by decide) (fun c _ => itE_all c) (by omega) (by decide) (fun a17 c18 w H => ?_)); replace H : Hp _ w _ (Ch.own (some b16) 1 1 (([(⟨[UInt8.ofNat (97 + i)], kd, (wLev (m4 + 1) d).1, sz⟩ : It)]).flatMap itE) 54 35 :: Ch.own (some b15) 1 1 (([UInt8.ofNat (97 + i)]).map V8) 5 1 :: Ch.own a17 (inn + 1) c18 ((its ++ ([(⟨[UInt8.ofNat (97 + i)], kd, (wLev (m4 + 1) d).1, sz⟩ : It)])).flatMap itE) 54 35 :: Ch.own oa on ok ((obs).flatMap obE) 34 33 :: Ch.blk b12 (((wLev (m4 + 1) d).1.1).map V8) 29 :: (obs.map (·.data)).map ach) := H
    refine l_op (o_val r_as ?_); first | refine l_end ?_ | refine l_nil ?_
    repeat refine c_seq ?_
    refine c_region ?_; refine l_op (o_val r_mv ?_); refine l_op (o_val (r_bin (a := (i : Int)) (b := 1) rfl rfl (fun _ => b_add (by omega) (by omega))) ?_); refine l_op (o_val r_as ?_); first | refine l_end ?_ | refine l_nil ?_
    refine round_end (i + 1, its ++ ([(⟨[UInt8.ofNat (97 + i)], kd, (wLev (m4 + 1) d).1, sz⟩ : It)]), a17, c18, inn + 1) ?_ ?_ ?_
    · exact ⟨rfl, rfl, rfl, rfl, rfl, rfl, rfl, rfl, rfl, rfl, show VI ((i : Int) + 1) = VI ((i + 1 : Nat) : Int) from congrArg VI (by omega), trivial⟩
    · refine ⟨?_, ?_⟩
      · try dsimp only
        exact ⟨by omega, by rw [wIts_snoc (by omega), ← hits, hkd, hsz]; congr 1; by_cases h0 : d = 0 <;> simp [h0], by rw [List.length_append, hin]; rfl⟩
      · exact H.sub (.cons _ (.cons _ (.cons_cons _ (.cons_cons _ (.cons_cons _ (List.Sublist.refl _))))))
    · show m4 + 1 - (i + 1 : Nat) < m4 + 1 - i; omega
   ·
    repeat refine c_seq ?_
    refine c_no (by exact congrArg Value.bool (decide_eq_false hc14)) ?_; refine c_exit ?_; have hitf : its = wIts (m4 + 1) (d == 0) (wLev (m4 + 1) d).1 := by rw [hits, List.take_of_length_le (by rw [wIts_len]; omega)]
    repeat refine c_seq ?_
    refine c_region ?_; refine l_op (o_val r_mv ?_); refine l_op (o_callR Try.func25 rfl rfl rfl (folder17_ret _ ⟨hd ia, inn, ik, its⟩ (H.glOwn (i := 0) rfl (by decide) (fun c _ => itE_len c)) (by rw [hitf]; exact wIts_fits)) ?_); rintro _ w ⟨a19, c20, t21, e22, hfo23, rfl, Hc⟩
    replace H : Hp _ w _ (Ch.own a19 t21.length c20 ((t21).map V8) 5 1 :: Ch.own ia inn ik ((its).flatMap itE) 54 35 :: Ch.own oa on ok ((obs).flatMap obE) 34 33 :: Ch.blk b12 (((wLev (m4 + 1) d).1.1).map V8) 29 :: (obs.map (·.data)).map ach) := (H.call Hc).rot
    clear Hc
    skip
    refine l_op (o_alloc H zc34 (fun b24 w H hb24 => ?_)); replace H := H.rot
    replace H : Hp _ w _ (Ch.blk b24 ((List.replicate 32 (0 : UInt8)).map V8 ++ (([.slice none 0 0] : List Value))) 34 :: Ch.own a19 t21.length c20 ((t21).map V8) 5 1 :: Ch.own ia inn ik ((its).flatMap itE) 54 35 :: Ch.own oa on ok ((obs).flatMap obE) 34 33 :: Ch.blk b12 (((wLev (m4 + 1) d).1.1).map V8) 29 :: (obs.map (·.data)).map ach) := H
    refine l_op (o_stW (C' := ((shaI t21).1).map V8 ++ (([.slice (hd a19) t21.length c20] : List Value))) H (i := 0) rfl rfl rfl cs34 (by first | (simp [Value.oneCell', List.all_append, List.all_map]; done) | (simp only [List.all_append, List.all_cons, List.all_nil, List.all_map]; simp [Value.oneCell', Function.comp_def])) (by simp only [List.length_append, List.length_map, List.length_cons, List.length_nil, (show (List.replicate 32 (0 : UInt8)).length = 32 from (List.length_replicate ..))]) (by simp only [List.length_append, List.length_map, List.length_cons, List.length_nil, (show ((shaI t21).1).length = 32 from (shaI t21).2)]) (fun w H => ?_)); replace H : Hp _ w _ (Ch.blk b24 (((shaI t21).1).map V8 ++ (([.slice (hd a19) t21.length c20] : List Value))) 34 :: Ch.own a19 t21.length c20 ((t21).map V8) 5 1 :: Ch.own ia inn ik ((its).flatMap itE) 54 35 :: Ch.own oa on ok ((obs).flatMap obE) 34 33 :: Ch.blk b12 (((wLev (m4 + 1) d).1.1).map V8) 29 :: (obs.map (·.data)).map ach) := H
    first | refine l_end ?_ | refine l_nil ?_
    repeat refine c_seq ?_
    refine c_region ?_; refine l_op (o_val r_mv ?_); refine l_op (o_val (r_ldA (C := ((shaI t21).1).map V8 ++ (([.slice (hd a19) t21.length c20] : List Value))) H (i := 0) rfl rfl rt34 (by simp only [List.length_append, List.length_map, List.length_cons, List.length_nil, (show ((shaI t21).1).length = 32 from (shaI t21).2)])) ?_); refine l_op (o_bslG1 (enc := obE) ((⟨shaI t21, ⟨hd a19, t21.length, c20, t21⟩⟩ : Ob)) H sl22 zc34 (by rfl) (by decide) (by decide) rfl (obE_len _) (fun b25 w H hb25 => ?_)); replace H := H.rot
    replace H : Hp _ w _ (Ch.own (some b25) 1 1 (([(⟨shaI t21, ⟨hd a19, t21.length, c20, t21⟩⟩ : Ob)]).flatMap obE) 34 33 :: Ch.blk b24 (((shaI t21).1).map V8 ++ (([.slice (hd a19) t21.length c20] : List Value))) 34 :: Ch.own a19 t21.length c20 ((t21).map V8) 5 1 :: Ch.own ia inn ik ((its).flatMap itE) 54 35 :: Ch.own oa on ok ((obs).flatMap obE) 34 33 :: Ch.blk b12 (((wLev (m4 + 1) d).1.1).map V8) 29 :: (obs.map (·.data)).map ach) := H
    refine l_op (o_appG (enc := obE) (s := ⟨hd (some b25), 1, 1, [(⟨shaI t21, ⟨hd a19, t21.length, c20, t21⟩⟩ : Ob)]⟩) (l' := obs ++ ([(⟨shaI t21, ⟨hd a19, t21.length, c20, t21⟩⟩ : Ob)])) (len' := on + 1) rfl rfl H (i := 4) rfl sl22 Try.underlying22 rfl rfl (H.glOwn (i := 0) rfl (by decide) (fun c _ => obE_len c)) (by decide) (fun c _ => obE_all c) (by omega) (by decide) (fun a26 c27 w H => ?_)); replace H : Hp _ w _ (Ch.own (some b25) 1 1 (([(⟨shaI t21, ⟨hd a19, t21.length, c20, t21⟩⟩ : Ob)]).flatMap obE) 34 33 :: Ch.blk b24 (((shaI t21).1).map V8 ++ (([.slice (hd a19) t21.length c20] : List Value))) 34 :: Ch.own a19 t21.length c20 ((t21).map V8) 5 1 :: Ch.own ia inn ik ((its).flatMap itE) 54 35 :: Ch.own a26 (on + 1) c27 ((obs ++ ([(⟨shaI t21, ⟨hd a19, t21.length, c20, t21⟩⟩ : Ob)])).flatMap obE) 34 33 :: Ch.blk b12 (((wLev (m4 + 1) d).1.1).map V8) 29 :: (obs.map (·.data)).map ach) := H
    refine l_op (o_val r_as ?_); first | refine l_end ?_ | refine l_nil ?_
    repeat refine c_seq ?_
    refine c_region ?_; refine l_op (o_val (r_fa rfl fo34_0) ?_); refine l_op (o_val (r_lk H (i := 1) rfl rfl rt29 (show Cut3 (((shaI t21).1).map V8 ++ (([.slice (hd a19) t21.length c20] : List Value))) (([] : List Value)) (((shaI t21).1).map V8) (([.slice (hd a19) t21.length c20] : List Value)) 0 32 from ⟨(show ((shaI t21).1).map V8 ++ (([.slice (hd a19) t21.length c20] : List Value)) = ([] : List Value) ++ ((((shaI t21).1).map V8) ++ (([.slice (hd a19) t21.length c20] : List Value))) from by simp only [List.nil_append]), (by rfl), (by simp only [List.length_map, (show ((shaI t21).1).length = 32 from (shaI t21).2)])⟩)) ?_); refine l_op (o_stA (l' := (shaI t21).1) H (i := 5) rfl rfl rfl cs29 (show ((wLev (m4 + 1) d).1.1).length = 32 from (wLev (m4 + 1) d).1.2) (show ((shaI t21).1).length = 32 from (shaI t21).2) (fun w H => ?_)); replace H : Hp _ w _ (Ch.own (some b25) 1 1 (([(⟨shaI t21, ⟨hd a19, t21.length, c20, t21⟩⟩ : Ob)]).flatMap obE) 34 33 :: Ch.blk b24 (((shaI t21).1).map V8 ++ (([.slice (hd a19) t21.length c20] : List Value))) 34 :: Ch.own a19 t21.length c20 ((t21).map V8) 5 1 :: Ch.own ia inn ik ((its).flatMap itE) 54 35 :: Ch.own a26 (on + 1) c27 ((obs ++ ([(⟨shaI t21, ⟨hd a19, t21.length, c20, t21⟩⟩ : Ob)])).flatMap obE) 34 33 :: Ch.blk b12 (((shaI t21).1).map V8) 29 :: (obs.map (·.data)).map ach) := H
    refine l_op (o_val r_as ?_); refine l_op (o_val r_as ?_); first | refine l_end ?_ | refine l_nil ?_
    have hmul : ((wide : Int) * (1 + (m4 : Int))) = ((wide * (m4 + 1) : Nat) : Int) := by push_cast; rw [Int.add_comm 1]
    have hmb : wide * (m4 + 1) ≤ 2097152 := by rw [hwd, ← Nat.pow_succ]; exact wide_bd (by omega) (by omega)
    have hsb : wSz (m4 + 1) d ≤ 4782969 := wSz_bd (by omega) (by omega)
    repeat refine c_seq ?_
    refine c_region ?_; refine l_op (o_val r_mv ?_); refine l_op (o_val r_mv ?_); refine l_op (o_val (r_bin (a := (wide : Int)) (b := 1 + (m4 : Int)) rfl rfl (fun _ => b_mul (by omega) (by omega))) ?_); refine l_op (o_val r_as ?_); first | refine l_end ?_ | refine l_nil ?_
    repeat refine c_seq ?_
    refine c_region ?_; refine l_op (o_val r_mv ?_); refine l_op (o_val r_mv ?_); refine l_op (o_val (r_bin (a := (met : Int)) (b := (wide : Int) * (1 + (m4 : Int))) rfl rfl (fun _ => b_add (by omega) (by omega))) ?_); refine l_op (o_val r_as ?_); first | refine l_end ?_ | refine l_nil ?_
    repeat refine c_seq ?_
    refine c_region ?_; refine l_op (o_val r_mv ?_); refine l_op (o_val (r_bin (a := (d : Int)) (b := 1) rfl rfl (fun _ => b_add (by omega) (by omega))) ?_); refine l_op (o_val r_as ?_); first | refine l_end ?_ | refine l_nil ?_
    obtain ⟨hlv, hlt⟩ := lev_is (T := m4 + 1) (d := d) (by omega) hitf hfo23
    have hx1 : (shaI t21).1 = (wLev (m4 + 1) (d + 1)).1.1 := by rw [hlv]
    rw [hx1] at H
    have hol1 : (obs ++ ([(⟨shaI t21, ⟨hd a19, t21.length, c20, t21⟩⟩ : Ob)])).length = on + 1 := by rw [List.length_append, hol]; rfl
    refine round_end (d + 1, obs ++ ([(⟨shaI t21, ⟨hd a19, t21.length, c20, t21⟩⟩ : Ob)]), a26, c27, on + 1, 2, 0, met + wide * (m4 + 1), wide * (m4 + 1)) ?_ ?_ ?_
    · exact ⟨rfl, rfl, rfl, rfl, show VI 2 = VI (2 : Int) from congrArg VI (by omega), show VI 0 = VI (0 : Int) from congrArg VI (by omega), show VI ((met : Int) + ((wide : Int) * (1 + (m4 : Int)))) = VI ((met + wide * (m4 + 1) : Nat) : Int) from congrArg VI (by omega), show VI ((wide : Int) * (1 + (m4 : Int))) = VI ((wide * (m4 + 1) : Nat) : Int) from congrArg VI (by omega), show VI ((d : Int) + 1) = VI ((d + 1 : Nat) : Int) from congrArg VI (by omega), trivial⟩
    · refine ⟨?_, ?_⟩
      · try dsimp only
        exact ⟨by omega, obs_step hob hlv (by omega), hol1, (if_neg (by omega)).symm, (if_neg (by omega)).symm, by rw [wSz_pow, hmet, hwd, Nat.pow_succ], by rw [hwd, Nat.pow_succ]⟩
      · exact (wide_step (H.sub (.cons _ (.cons _ (.cons_cons _ (.cons _ (.cons_cons _ (.cons_cons _ (List.Sublist.refl _)))))))))
    · show m1 + 1 - (d + 1 : Nat) < m1 + 1 - d; omega
  ·
   repeat refine c_seq ?_
   refine c_no (by exact congrArg Value.bool (decide_eq_false hc13)) ?_; refine c_exit ?_; repeat refine c_seq ?_
   refine c_region ?_; refine l_op (o_val r_mv ?_); refine l_op (o_val (r_ldAA (l := (wLev (m4 + 1) d).1.1) H (i := 1) rfl rfl rt29 (show ((wLev (m4 + 1) d).1.1).length = 32 from (wLev (m4 + 1) d).1.2)) ?_); refine l_op (o_callR Try.func18 rfl rfl rfl (wclose_ret _ ⟨hd oa, on, ok, obs⟩ (H.glOwn (i := 0) rfl (by decide) (fun c _ => obE_len c)) (obs_ok hob (fun o ho => H.has _ (by repeat (first | exact List.mem_map_of_mem (List.mem_map_of_mem ho) | apply List.mem_cons_of_mem)))) ((wLev (m4 + 1) d).1)) ?_); rintro _ w ⟨a28, c29, R30, rfl, hcl31, Hc⟩
   replace H : Hp _ w _ (Ch.own a28 R30.length c29 ((R30).flatMap idE) 29 32 :: Ch.own oa on ok ((obs).flatMap obE) 34 33 :: Ch.blk b12 (((wLev (m4 + 1) d).1.1).map V8) 29 :: (obs.map (·.data)).map ach) := (H.call Hc).rot
   clear Hc
   refine l_op (o_val r_mv ?_); refine l_op (o_val (r_ext rfl rfl) ?_); refine l_op (o_val (r_ext rfl rfl) ?_); refine l_op (o_val r_as ?_); refine l_op (o_val r_as ?_); first | refine l_end ?_ | refine l_nil ?_
   repeat refine c_seq ?_
   refine c_region ?_; refine l_op (o_val r_mv ?_); refine l_op (o_val (r_ldAA (l := (wLev (m4 + 1) d).1.1) H (i := 2) rfl rfl rt29 (show ((wLev (m4 + 1) d).1.1).length = 32 from (wLev (m4 + 1) d).1.2)) ?_); refine l_op (o_callR Try.func19 rfl rfl rfl (wfilesL_ret _ ⟨hd oa, on, ok, obs⟩ (H.glOwn (i := 1) rfl (by decide) (fun c _ => obE_len c)) (obs_ok hob (fun o ho => H.has _ (by repeat (first | exact List.mem_map_of_mem (List.mem_map_of_mem ho) | apply List.mem_cons_of_mem)))) ((wLev (m4 + 1) d).1)) ?_); rintro _ w ⟨a32, c33, fl34, rfl, hfl35, Hc⟩
   replace H : Hp _ w _ (Ch.own a32 fl34.length c33 ((fl34).flatMap flE) 48 3 :: Ch.own a28 R30.length c29 ((R30).flatMap idE) 29 32 :: Ch.own oa on ok ((obs).flatMap obE) 34 33 :: Ch.blk b12 (((wLev (m4 + 1) d).1.1).map V8) 29 :: (obs.map (·.data)).map ach) := (H.call Hc).rot
   clear Hc
   refine l_op (o_val r_mv ?_); refine l_op (o_val (r_ext rfl rfl) ?_); refine l_op (o_val (r_ext rfl rfl) ?_); refine l_op (o_val r_as ?_); refine l_op (o_val r_as ?_); first | refine l_end ?_ | refine l_nil ?_
   have hde : d = m1 + 1 := by omega
   obtain ⟨hg1, hg2⟩ := wide_run (T := m4 + 1) (d := d) (obs := obs) (by omega) (by omega) ⟨by omega, by omega⟩ hob
   repeat refine c_seq ?_
   refine c_region ?_; refine l_op (o_val r_mv ?_); refine l_op (o_val (r_bin (a := (met : Int)) (b := 1024) rfl rfl (fun _ => b_gtr)) ?_); first | refine l_end ?_ | refine l_nil ?_
   by_cases hc36 : 1024 < (met : Int)
   ·
    repeat refine c_seq ?_
    refine c_yes (by exact congrArg Value.bool (decide_eq_true hc36)) ?_; repeat refine c_seq ?_
    refine c_region ?_; refine l_op (o_val r_mv ?_); refine l_op (o_val (r_bin (a := (wlkAll (obL obs) [⟨2, ((wLev (m4 + 1) d).1), 0, 1, []⟩] ⟨0, [], [], 0⟩).err) (b := 2) rfl rfl (fun _ => b_eqlB true (decide_eq_true (hg2 (by omega))))) ?_); refine l_op (o_val r_mv ?_); refine l_yes rfl rfl rfl (o_val r_mv ?_); refine l_yes rfl rfl rfl (o_val (r_bin (a := (wlkAll (obL obs) [⟨2, ((wLev (m4 + 1) d).1), 0, 1, []⟩] ⟨0, [], [], 0⟩).err) (b := 2) rfl rfl (fun _ => b_eqlB true (decide_eq_true (hg2 (by omega))))) ?_); refine l_op (o_val (r_pick rfl) ?_); refine l_op (o_val r_as ?_); first | refine l_end ?_ | refine l_nil ?_
    refine c_ret ?_; try dsimp only [Exit.then, Exit.inBlock]
    refine e_ret1 (v := .bool true) Try.results7 rfl ?_
    refine ⟨_, rfl, ?_⟩
    exact ⟨rfl, H.sub (List.nil_sublist _)⟩
   ·
    repeat refine c_seq ?_
    refine c_no (by exact congrArg Value.bool (decide_eq_false hc36)) ?_; refine c_skip ?_; repeat refine c_seq ?_
    refine c_region ?_; refine l_op (o_val r_mv ?_); refine l_op (o_val (r_bin (a := (wlkAll (obL obs) [⟨2, ((wLev (m4 + 1) d).1), 0, 1, []⟩] ⟨0, [], [], 0⟩).err) (b := 0) rfl rfl (fun _ => b_eqlB true (decide_eq_true (hg1 (by omega)).1))) ?_); refine l_op (o_val r_mv ?_); refine l_yes rfl rfl rfl (o_val r_mv ?_); refine l_yes rfl rfl rfl (o_val (r_bin (a := (wlkAll (obL obs) [⟨2, ((wLev (m4 + 1) d).1), 0, 1, []⟩] ⟨0, [], [], 0⟩).err) (b := 0) rfl rfl (fun _ => b_eqlB true (decide_eq_true (hg1 (by omega)).1))) ?_); refine l_op (o_val (r_pick rfl) ?_); refine l_op (o_val r_mv ?_); refine l_yes rfl rfl rfl (o_val r_mv ?_); refine l_yes rfl rfl rfl (o_val (r_lens el23 rfl) ?_); refine l_yes rfl rfl rfl (o_val r_mv ?_); refine l_yes rfl rfl rfl (o_val (r_bin (a := 1 + (m1 : Int)) (b := 1) rfl rfl (fun _ => b_add (by omega) (by omega))) ?_); refine l_yes rfl rfl rfl (o_val (r_bin (a := (R30.length : Int)) (b := (1 + (m1 : Int)) + 1) rfl rfl (fun _ => b_eqlB true (decide_eq_true (by have h9 := wide_names (T := m4 + 1) (d := d) (by omega) (by omega) (by omega) hcl31 (hg1 (by omega)).1 (hg1 (by omega)).2.2; omega)))) ?_); refine l_op (o_val (r_pick rfl) ?_); refine l_op (o_val r_mv ?_); refine l_yes rfl rfl rfl (o_val r_mv ?_); refine l_yes rfl rfl rfl (o_val (r_lens el40 rfl) ?_); refine l_yes rfl rfl rfl (o_val r_mv ?_); refine l_yes rfl rfl rfl (o_val (r_bin (a := (fl34.length : Int)) (b := (wide : Int)) rfl rfl (fun _ => b_eqlB true (decide_eq_true (by have h9 := wide_files hfl35 (hg1 (by omega)).1 (hg1 (by omega)).2.1; rw [← hwd] at h9; omega)))) ?_); refine l_op (o_val (r_pick rfl) ?_); refine l_op (o_val r_as ?_); first | refine l_end ?_ | refine l_nil ?_
    refine c_ret ?_; try dsimp only [Exit.then, Exit.inBlock]
    refine e_ret1 (v := .bool true) Try.results7 rfl ?_
    refine ⟨_, rfl, ?_⟩
    exact ⟨rfl, H.sub (List.nil_sublist _)⟩
end Go.Proofs.Ytomjbabllcmodaa
