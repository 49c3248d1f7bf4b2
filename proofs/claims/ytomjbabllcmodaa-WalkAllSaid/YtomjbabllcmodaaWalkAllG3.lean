/- Lemmas for the statement WalkAll, part 3: rules of operations, walks through functions, plain laws. -/
import Derived.Test.YtomjbabllcmodaaWalkAllG2
import Derived.RangeFuncLeaves
namespace Go.Proofs.Ytomjbabllcmodaa
open Go
set_option maxRecDepth 100000
theorem keysItObj {ι α : Type} {w0 w1 : World} {S : List Nat} {bb b l c : Nat} {enc : α → Value} {M : List (Id32 × Value × Nat)} {F : Id32 → Option α} (hM : MOk M c) (hF : MIs enc M F) (Lv : ι → List Ch) (I : List Id32 → ι → Prop) (x0 : ι) (h0 : I [] x0) (H0 : Hp w0 w1 S (Ch.blk bb ([.map (some b)]) 58 :: Ch.obj b (mobj kA M c) :: Lv x0)) (hY : ∀ (it : Nat) (vis : List Id32) (x : ι) (k : Id32) (a : α) (W : World), I vis x → F k = some a → k ∉ vis → (∀ j ∈ vis, (F j).isSome = true) → vis.Nodup → Hp w0 W S (Ch.obj it (itO b M c (vis ++ [k])) :: Ch.blk bb ([.map (some b)]) 58 :: Ch.obj b (mobj kA M c) :: Lv x) → YieldAt Fence.wide 0 Try.prog l #[kA k] W fun e W' => e = .returned (.bool true) ∧ ∃ x', I (vis ++ [k]) x' ∧ Hp w0 W' S (Ch.obj it (itO b M c (vis ++ [k])) :: Ch.blk bb ([.map (some b)]) 58 :: Ch.obj b (mobj kA M c) :: Lv x')) :
    Ret Try.prog 57 [.func (.yield l) #[] #[], .pointer (some ⟨bb, 0, none⟩)] w1 fun v w' => ∃ vis x, I vis x ∧ vis.Nodup ∧ (∀ k, k ∈ vis ↔ (F k).isSome = true) ∧ Hp w0 w' S (Ch.blk bb ([.map (some b)]) 58 :: Ch.obj b (mobj kA M c) :: Lv x) := by
  refine ret_mk Try.func57 rfl Try.ntmps57 (by simp) ?_
  have H := H0
  repeat refine c_seq ?_
  refine c_region ?_; refine l_op (o_val (r_ld H (i := 0) rfl rfl ct58 rfl) ?_); refine l_op (o_range (kv := kA) H (i := 1) rfl Try.underlying58 rfl (fun b1 w H hb1 => ?_)); replace H := H.rot
  replace H : Hp _ w _ (Ch.obj b1 (itO b M c ([])) :: Ch.blk bb ([.map (some b)]) 58 :: Ch.obj b (mobj kA M c) :: Lv x0) := H
  first | refine l_end ?_ | refine l_nil ?_
  repeat refine c_seq ?_
  refine c_block ?_; repeat refine c_seq ?_
  refine c_loop2 (fun (vis : List Id32) (x : ι) => [(0, .func (.yield l) #[] #[]), (5, .pointer (some ⟨b1, 0, none⟩))])
    (fun (vis : List Id32) (x : ι) w => (vis.Nodup ∧ (∀ k ∈ vis, (F k).isSome = true) ∧ I vis x) ∧ Hp w0 w S (Ch.obj b1 (itO b M c vis) :: Ch.blk bb ([.map (some b)]) 58 :: Ch.obj b (mobj kA M c) :: Lv x))
    (fun (vis : List Id32) (x : ι) => M.length - vis.length) ([]) x0 ⟨rfl, rfl, trivial⟩ ⟨⟨List.nodup_nil, fun _ h => (by cases h), h0⟩, H⟩ ?_
  clear H
  rintro vis x τ w ⟨⟨hvn, hv, hI⟩, H⟩
  repeat refine c_seq ?_
  refine c_region ?_; refine l_op (o_next (kv := kA) (enc := enc) H (i := 2) (j := 0) rfl rfl hM hF hv rfl (fun hall2 w H => ?_) (fun kk3 va4 hkf5 hkn6 w H => ?_))
  ·
   refine l_op (o_val (r_ext rfl rfl) ?_); first | refine l_end ?_ | refine l_nil ?_
   repeat refine c_seq ?_
   refine c_no rfl ?_; refine c_exit ?_; try simp only [Exit.then, Exit.inBlock, ↓reduceIte]
   refine e_norm ?_; refine e_ret0 Try.results57 ?_
   refine ⟨_, rfl, ?_⟩
   exact ⟨vis, x, hI, hvn, fun k => ⟨hv k, hall2 k⟩, H.sub (.cons _ (.cons_cons _ (.cons_cons _ (List.Sublist.refl _))))⟩
  ·
   replace H : Hp _ w _ (Ch.obj b1 (itO b M c (vis ++ [kk3])) :: Ch.blk bb ([.map (some b)]) 58 :: Ch.obj b (mobj kA M c) :: Lv x) := H
   refine l_op (o_val (r_ext rfl rfl) ?_); first | refine l_end ?_ | refine l_nil ?_
   repeat refine c_seq ?_
   refine c_yes rfl ?_; refine c_skip ?_; repeat refine c_seq ?_
   refine c_block ?_; repeat refine c_seq ?_
   refine c_region ?_; refine l_op (o_val (r_entry (kv := kA) (enc := enc) H (i := 2) (j := 0) rfl rfl hM hF hkf5 rfl) ?_); refine l_op (o_val (r_ext rfl rfl) ?_); refine l_op (o_alloc H zc29 (fun b7 w H hb7 => ?_)); replace H := H.rot
   replace H : Hp _ w _ (Ch.blk b7 ((List.replicate 32 (0 : UInt8)).map V8) 29 :: Ch.obj b1 (itO b M c (vis ++ [kk3])) :: Ch.blk bb ([.map (some b)]) 58 :: Ch.obj b (mobj kA M c) :: Lv x) := H
   refine l_op (o_stA (l' := kk3.1) H (i := 0) rfl rfl rfl cs29 (show (List.replicate 32 (0 : UInt8)).length = 32 from (List.length_replicate ..)) (show (kk3.1).length = 32 from kk3.2) (fun w H => ?_)); replace H : Hp _ w _ (Ch.blk b7 ((kk3.1).map V8) 29 :: Ch.obj b1 (itO b M c (vis ++ [kk3])) :: Ch.blk bb ([.map (some b)]) 58 :: Ch.obj b (mobj kA M c) :: Lv x) := H
   first | refine l_end ?_ | refine l_nil ?_
   repeat refine c_seq ?_
   have hvs := vis_snoc hvn hv hkf5 hkn6
   have hvl := vis_le hF hvs.1 hvs.2
   rw [List.length_append, List.length_singleton] at hvl
   refine (wpIn_wide (n := 1)).1 ?_; refine wpIn_region_lit ?_; refine y_op (o_val r_mv ?_); refine y_op (o_val (r_ldAA (l := kk3.1) H (i := 0) rfl rfl rt29 (show (kk3.1).length = 32 from kk3.2)) ?_); have H1 := H.sub (.cons _ (.cons_cons _ (.cons_cons _ (.cons_cons _ (List.Sublist.refl _)))))
   have hy := hY _ vis x kk3 va4 _ hI hkf5 hkn6 hv hvn H1
   refine y_yield (v := kA kk3) (b := true) rfl (fun f e => by cases e) rfl hy ?_; rintro w ⟨x', hI', H2⟩
   clear H H1 hy; have H := H2; clear H2
   refine y_op (o_val (r_not rfl) ?_); refine y_end ?_; repeat refine c_seq ?_
   refine c_no rfl ?_; refine c_skip ?_; refine round_end (vis ++ [kk3], x') ?_ ?_ ?_
   · exact ⟨rfl, rfl, trivial⟩
   · refine ⟨?_, ?_⟩
     · try dsimp only
       exact ⟨hvs.1, hvs.2, hI'⟩
     · exact H
   · show M.length - (vis ++ [kk3]).length < M.length - vis.length; rw [List.length_append, List.length_singleton]; omega
theorem keysItInt {ι α : Type} {w0 w1 : World} {S : List Nat} {bb b l c : Nat} {enc : α → Value} {M : List (Id32 × Value × Nat)} {F : Id32 → Option α} (hM : MOk M c) (hF : MIs enc M F) (Lv : ι → List Ch) (I : List Id32 → ι → Prop) (x0 : ι) (h0 : I [] x0) (H0 : Hp w0 w1 S (Ch.blk bb ([.map (some b)]) 68 :: Ch.obj b (mobj kA M c) :: Lv x0)) (hY : ∀ (it : Nat) (vis : List Id32) (x : ι) (k : Id32) (a : α) (W : World), I vis x → F k = some a → k ∉ vis → (∀ j ∈ vis, (F j).isSome = true) → vis.Nodup → Hp w0 W S (Ch.obj it (itO b M c (vis ++ [k])) :: Ch.blk bb ([.map (some b)]) 68 :: Ch.obj b (mobj kA M c) :: Lv x) → YieldAt Fence.wide 0 Try.prog l #[kA k] W fun e W' => e = .returned (.bool true) ∧ ∃ x', I (vis ++ [k]) x' ∧ Hp w0 W' S (Ch.obj it (itO b M c (vis ++ [k])) :: Ch.blk bb ([.map (some b)]) 68 :: Ch.obj b (mobj kA M c) :: Lv x')) :
    Ret Try.prog 50 [.func (.yield l) #[] #[], .pointer (some ⟨bb, 0, none⟩)] w1 fun v w' => ∃ vis x, I vis x ∧ vis.Nodup ∧ (∀ k, k ∈ vis ↔ (F k).isSome = true) ∧ Hp w0 w' S (Ch.blk bb ([.map (some b)]) 68 :: Ch.obj b (mobj kA M c) :: Lv x) := by
  refine ret_mk Try.func50 rfl Try.ntmps50 (by simp) ?_
  have H := H0
  repeat refine c_seq ?_
  refine c_region ?_; refine l_op (o_val (r_ld H (i := 0) rfl rfl ct68 rfl) ?_); refine l_op (o_range (kv := kA) H (i := 1) rfl Try.underlying68 rfl (fun b1 w H hb1 => ?_)); replace H := H.rot
  replace H : Hp _ w _ (Ch.obj b1 (itO b M c ([])) :: Ch.blk bb ([.map (some b)]) 68 :: Ch.obj b (mobj kA M c) :: Lv x0) := H
  first | refine l_end ?_ | refine l_nil ?_
  repeat refine c_seq ?_
  refine c_block ?_; repeat refine c_seq ?_
  refine c_loop2 (fun (vis : List Id32) (x : ι) => [(0, .func (.yield l) #[] #[]), (5, .pointer (some ⟨b1, 0, none⟩))])
    (fun (vis : List Id32) (x : ι) w => (vis.Nodup ∧ (∀ k ∈ vis, (F k).isSome = true) ∧ I vis x) ∧ Hp w0 w S (Ch.obj b1 (itO b M c vis) :: Ch.blk bb ([.map (some b)]) 68 :: Ch.obj b (mobj kA M c) :: Lv x))
    (fun (vis : List Id32) (x : ι) => M.length - vis.length) ([]) x0 ⟨rfl, rfl, trivial⟩ ⟨⟨List.nodup_nil, fun _ h => (by cases h), h0⟩, H⟩ ?_
  clear H
  rintro vis x τ w ⟨⟨hvn, hv, hI⟩, H⟩
  repeat refine c_seq ?_
  refine c_region ?_; refine l_op (o_next (kv := kA) (enc := enc) H (i := 2) (j := 0) rfl rfl hM hF hv rfl (fun hall2 w H => ?_) (fun kk3 va4 hkf5 hkn6 w H => ?_))
  ·
   refine l_op (o_val (r_ext rfl rfl) ?_); first | refine l_end ?_ | refine l_nil ?_
   repeat refine c_seq ?_
   refine c_no rfl ?_; refine c_exit ?_; try simp only [Exit.then, Exit.inBlock, ↓reduceIte]
   refine e_norm ?_; refine e_ret0 Try.results50 ?_
   refine ⟨_, rfl, ?_⟩
   exact ⟨vis, x, hI, hvn, fun k => ⟨hv k, hall2 k⟩, H.sub (.cons _ (.cons_cons _ (.cons_cons _ (List.Sublist.refl _))))⟩
  ·
   replace H : Hp _ w _ (Ch.obj b1 (itO b M c (vis ++ [kk3])) :: Ch.blk bb ([.map (some b)]) 68 :: Ch.obj b (mobj kA M c) :: Lv x) := H
   refine l_op (o_val (r_ext rfl rfl) ?_); first | refine l_end ?_ | refine l_nil ?_
   repeat refine c_seq ?_
   refine c_yes rfl ?_; refine c_skip ?_; repeat refine c_seq ?_
   refine c_block ?_; repeat refine c_seq ?_
   refine c_region ?_; refine l_op (o_val (r_entry (kv := kA) (enc := enc) H (i := 2) (j := 0) rfl rfl hM hF hkf5 rfl) ?_); refine l_op (o_val (r_ext rfl rfl) ?_); refine l_op (o_alloc H zc29 (fun b7 w H hb7 => ?_)); replace H := H.rot
   replace H : Hp _ w _ (Ch.blk b7 ((List.replicate 32 (0 : UInt8)).map V8) 29 :: Ch.obj b1 (itO b M c (vis ++ [kk3])) :: Ch.blk bb ([.map (some b)]) 68 :: Ch.obj b (mobj kA M c) :: Lv x) := H
   refine l_op (o_stA (l' := kk3.1) H (i := 0) rfl rfl rfl cs29 (show (List.replicate 32 (0 : UInt8)).length = 32 from (List.length_replicate ..)) (show (kk3.1).length = 32 from kk3.2) (fun w H => ?_)); replace H : Hp _ w _ (Ch.blk b7 ((kk3.1).map V8) 29 :: Ch.obj b1 (itO b M c (vis ++ [kk3])) :: Ch.blk bb ([.map (some b)]) 68 :: Ch.obj b (mobj kA M c) :: Lv x) := H
   first | refine l_end ?_ | refine l_nil ?_
   repeat refine c_seq ?_
   have hvs := vis_snoc hvn hv hkf5 hkn6
   have hvl := vis_le hF hvs.1 hvs.2
   rw [List.length_append, List.length_singleton] at hvl
   refine (wpIn_wide (n := 1)).1 ?_; refine wpIn_region_lit ?_; refine y_op (o_val r_mv ?_); refine y_op (o_val (r_ldAA (l := kk3.1) H (i := 0) rfl rfl rt29 (show (kk3.1).length = 32 from kk3.2)) ?_); have H1 := H.sub (.cons _ (.cons_cons _ (.cons_cons _ (.cons_cons _ (List.Sublist.refl _)))))
   have hy := hY _ vis x kk3 va4 _ hI hkf5 hkn6 hv hvn H1
   refine y_yield (v := kA kk3) (b := true) rfl (fun f e => by cases e) rfl hy ?_; rintro w ⟨x', hI', H2⟩
   clear H H1 hy; have H := H2; clear H2
   refine y_op (o_val (r_not rfl) ?_); refine y_end ?_; repeat refine c_seq ?_
   refine c_no rfl ?_; refine c_skip ?_; refine round_end (vis ++ [kk3], x') ?_ ?_ ?_
   · exact ⟨rfl, rfl, trivial⟩
   · refine ⟨?_, ?_⟩
     · try dsimp only
       exact ⟨hvs.1, hvs.2, hI'⟩
     · exact H
   · show M.length - (vis ++ [kk3]).length < M.length - vis.length; rw [List.length_append, List.length_singleton]; omega
end Go.Proofs.Ytomjbabllcmodaa
namespace Go.Proofs.Ytomjbabllcmodaa
open Go
/-- a frame that has something to do at its end. -/
def mkD (n : Nat) (σ : Nat → Value) (ds : List Deferred) : Act := { mk n σ with defers := ds }
section
variable {P : Program} {Q : Exit → Act → World → Prop} {n l m i d : Nat} {K : Act → World → Prop} {σ : Nat → Value} {w w0 : World} {S : List Nat} {L : List Ch}
  {ty : TypeId} {pos : String} {aft : Array Edge} {g : Option (Nat × Bool)} {rest : List Oper} {ds : List Deferred} {ops : Array Oper}
theorem mkD_evalf : (mkD n σ ds).eval = ev n σ := by
  rw [← mk_evalf]; funext x; cases x <;> rfl
theorem mkD_put {v : Value} : (mkD n σ ds).put (some d) v = mkD n (up σ d v) ds := by
  show (mkD n σ ds).put (some d) v = { mk n (up σ d v) with defers := ds }
  rw [← mk_put]; rfl
theorem Hp.putObj {r : Nat} {o o' : Obj} (H : Hp w0 w S L) (hi : L[i]? = some (.obj r o)) : Hp w0 (w.putObj r o') S (L.set i (.obj r o')) := by
  have hr : w.heap[r]? = some o := H.has _ (List.mem_of_getElem? hi)
  have hlt := (Array.getElem?_eq_some_iff.1 hr).1
  refine H.turn hi (c' := .obj r o') (World.putObj_heap_same hlt) (fun b hb => .inl hb) rfl rfl rfl (by simp [World.putObj]) (fun b _ hne => World.putObj_heap_other fun e => hne (by rw [e]; rfl))
theorem d_val {op : Op} {v : Value} {w' : World} (hrun : (execOp (ev n σ) ⟨some d, op, ty, pos, aft, g⟩).run P w = .ok (.value v) w') (h : K (mkD n (up σ d v) ds) w') : Oper.wp P ⟨some d, op, ty, pos, aft, g⟩ (mkD n σ ds) w K Q := by
  unfold Oper.wp
  rw [mkD_evalf, hrun, Oper.upon_value, mkD_put]
  exact h
theorem marks_calls {f : FuncId} {fn : Func} {c : Code} {args : List Value} {R : Ending → World → Prop} (hf : P.funcs[f]? = some fn) (hb : fn.body = some c) (hn : fn.ntmps = n) (hle : args.length ≤ n)
    (h : c.wp P (bodyPostM Fence.wide 1 P fn R) (mk n (fun t => args.getD t undef)) w) : Calls P f args.toArray w R := by
  refine callsIn_wide.1 (callsIn_of_wp_marks (F := Fence.wide) (n := 1) hf hb trivial ?_)
  rw [hn, enter_mk args n hle]
  exact wpIn_wide.2 h
theorem ret_mkM {f : FuncId} {fn : Func} {c : Code} {args : List Value} {R : Value → World → Prop} (hf : P.funcs[f]? = some fn) (hb : fn.body = some c) (hn : fn.ntmps = n) (hle : args.length ≤ n)
    (h : c.wp P (bodyPostM Fence.wide 1 P fn fun e w' => ∃ v, e = .returned v ∧ R v w') (mk n (fun t => args.getD t undef)) w) : Ret P f args w R := marks_calls hf hb hn hle h
theorem i_block {id : Nat} {c : Code} {a : Act} (h : c.wpIn (Fence.wide.inRound l) m P (Exit.inBlock id Q) a w) : (Code.block id c).wpIn (Fence.wide.inRound l) m P Q a w := wpIn_block h
theorem i_end {y : Code} {a : Act} (h : y.wpIn (Fence.wide.inRound l) m P Q a w) : wpList P ops (Exit.then (y.wpIn (Fence.wide.inRound l) m P Q) Q) [] a w := h
def markD (D : Nat) : List Deferred := [{ target := .collected D, args := #[] }]
theorem m_ret1 {fn : Func} {R : Ending → World → Prop} {D : Nat} {t : Tmp} {v : Value} (h : fn.results = #[.tmp t]) (hv : ev n σ (.tmp t) = v) (H : Hp w0 w S L) (hi : L[i]? = some (.obj D (.deferred (some []))))
    (hR : ∀ w', Hp w0 w' S (L.eraseIdx i) → R (.returned v) w') : bodyPostM Fence.wide 1 P fn R .ret (mkD n σ (markD D)) w := by
  have hD : w.heap[D]? = some (.deferred (some [])) := H.has _ (List.mem_of_getElem? hi)
  have H2 := H.putObj (o' := .deferred none) hi
  refine ⟨by simp, .inl ⟨D, _, rfl, run_takeDeferred hD, ?_⟩⟩
  have hs : (L.set i (.obj D (.deferred none))).eraseIdx i = L.eraseIdx i := by
    rw [List.eraseIdx_set_eq]
  have H3 := H2.sub (List.eraseIdx_sublist _ i)
  rw [hs] at H3
  refine ⟨_, results_tmp h _ _ _, ?_⟩
  have e : (mkD n σ (markD D)).tmps.getD t undef = v := by rw [← hv]; exact mk_tmp n σ t
  rw [e]
  exact hR _ H3
theorem enters_callFunc {f : FuncId} {fn : Func} (hf : P.funcs[f]? = some fn) (hb : fn.body.isSome = true) (hname : (fn.name == "runtime.NumGoroutine") = false) (args : Array Value) (w : World) : (callFunc f args).run P w = .ok (.enter f args) w := by
  have hn : fn.body ≠ none := by cases hh : fn.body <;> simp_all
  have hnm : fn.name ≠ "runtime.NumGoroutine" := by intro e; simp [e] at hname
  simp [callFunc, hf, hnm, hn]
theorem c_rangeK {ι κ α : Type} {FX : List Ch} {Got : κ → α → Prop} {All : List κ → Prop} {I : List κ → ι → Prop} {x0 : ι} {itC : Nat → List κ → Ch} {kv : κ → Value} {gf : FuncId} {fnI : Func} {pb : Value} {op : Operand} {p : Tmp} {assign body : Code}
    (hf : P.funcs[gf]? = some fnI) (hb : fnI.body.isSome = true) (hname : (fnI.name == "runtime.NumGoroutine") = false)
    (hIt : ∀ (Lv : ι → List Ch) (l : Nat) (w1 : World), Hp w0 w1 S (FX ++ Lv x0) →
      (∀ (it : Nat) (vis : List κ) (x : ι) (k : κ) (a : α) (W : World), I vis x → Got k a → k ∉ vis → Hp w0 W S (itC it (vis ++ [k]) :: (FX ++ Lv x)) →
        YieldAt Fence.wide 0 P l #[kv k] W fun e W' => e = .returned (.bool true) ∧ ∃ x', I (vis ++ [k]) x' ∧ Hp w0 W' S (itC it (vis ++ [k]) :: (FX ++ Lv x'))) →
      Ret P gf [.func (.yield l) #[] #[], pb] w1 fun _ w' => ∃ vis x, I vis x ∧ All vis ∧ Hp w0 w' S (FX ++ Lv x))
    (hg : ev n σ op = .func (.func gf) #[] #[pb]) (Lv : ι → List Ch) (H : Hp w0 w S (FX ++ Lv x0))
    (hround : ∀ (l : Nat) (T : List Ch) (vis : List κ) (x : ι) (k : κ) (a : α) (W : World), I vis x → Got k a → k ∉ vis → Hp w0 W S (FX ++ (Lv x ++ T)) →
      assign.wpIn (Fence.wide.inRound l) 0 P (Exit.then (fun a₁ W₁ => ∃ Lb, Hp w0 W₁ S (Lb ++ T) ∧ ∀ T' W₂, Hp w0 W₂ S (Lb ++ T') →
        body.wpIn (Fence.wide.inRound l) 0 P (fun e _ W₃ => e = .normal ∧ ∃ x', I (vis ++ [k]) x' ∧ Hp w0 W₃ S (FX ++ (Lv x' ++ T'))) a₁ W₂) (fun _ _ _ => False)) (mk n (up σ p (kv k))) W)
    (hdone : ∀ (D : Nat) (vis : List κ) (x : ι) (w' : World), I vis x → All vis → Hp w0 w' S (Ch.obj D (.deferred (some [])) :: (FX ++ Lv x)) → Q .normal (mkD n σ (markD D)) w') :
    (Code.rangeFunc op #[p] assign body).wp P Q (mk n σ) w := by
  refine (wpIn_wide (n := 1)).1 (wpIn_rangeFunc ?_); intro fn _
  have hDn : w0.heap.size ≤ w.heap.size := H.size
  have H1 := (H.new (.deferred (some [])) (.obj w.heap.size (.deferred (some []))) rfl (heap_alloc_new' w _))
  generalize hrec : (fun (st : LoopState) (pe : Option Code) => ({ state := st, pending := pe, fn, tmps := (mk n σ).tmps, params := #[p], assign, body, defers := w.heap.size } : Loop)) = rec
  have H2 := H1.new (.loop (rec .ready none)) (.obj (w.heap.size + 1) (.loop (rec .ready none))) (by simp [Ch.key]) (by have := heap_alloc_new' (w.alloc (.deferred (some []))) (.loop (rec .ready none)); simpa [Ch.ok] using this)
  generalize hW1 : (w.alloc (.deferred (some []))).alloc (.loop (rec .ready none)) = W1 at H2
  generalize hD : w.heap.size = D at *
  have P1 : ∀ (x : ι) (o : Obj), (FX ++ (Lv x ++ [Ch.obj D (.deferred (some [])), Ch.obj (D + 1) o])).Perm (FX ++ Lv x ++ [Ch.obj D (.deferred (some []))] ++ [Ch.obj (D + 1) o]) := fun x o => by
    rw [List.append_assoc, List.append_assoc]; exact .refl _
  have H3 : Hp w0 W1 S (FX ++ (fun x => Lv x ++ [Ch.obj D (.deferred (some [])), Ch.obj (D + 1) (.loop (rec .ready none))]) x0) := H2.permL (P1 x0 _).symm
  refine ⟨D + 1, markD D, W1, { target := .fn (.func gf) #[pb], args := #[.func (.yield (D + 1)) #[] #[]] }, W1, gf, #[.func (.yield (D + 1)) #[] #[]] ++ #[pb], W1, ?_, ?_, fun _ _ => trivial, ?_, fun h => (by cases h), ?_⟩
  · subst hD; rw [← hW1, ← hrec]; exact run_enterLoop_outer _ _ _ _ _
  · rw [mk_evalf]
    have hc : ev n σ (.const (.func (.yield (D + 1)) #[] #[])) = .func (.yield (D + 1)) #[] #[] := rfl
    cases op <;> simp [resolve, hg, hc, Deferred.ofValue]
  · simp [invoke, enters_callFunc hf hb hname]
  · refine callsIn_wide.2 ?_
    refine Calls.mono (hIt (fun x => Lv x ++ [Ch.obj D (.deferred (some [])), Ch.obj (D + 1) (.loop (rec .ready none))]) (D + 1) W1 H3 ?_) ?_
    · intro it vis x k a W hI hgot hk HW
      -- one round
      have HWp : Hp w0 W S (FX ++ (Lv x ++ [Ch.obj D (.deferred (some [])), Ch.obj (D + 1) (.loop (rec .ready none)), itC it (vis ++ [k])])) := HW.permL (by
        have := (List.perm_append_comm (l₁ := [itC it (vis ++ [k])]) (l₂ := FX ++ (Lv x ++ [Ch.obj D (.deferred (some [])), Ch.obj (D + 1) (.loop (rec .ready none))])))
        rw [List.append_assoc, List.append_assoc] at this
        exact this)
      have hi : (FX ++ (Lv x ++ [Ch.obj D (.deferred (some [])), Ch.obj (D + 1) (.loop (rec .ready none)), itC it (vis ++ [k])]))[FX.length + ((Lv x).length + 1)]? = some (Ch.obj (D + 1) (.loop (rec .ready none))) := by
        rw [List.getElem?_append_right (by omega), Nat.add_sub_cancel_left, List.getElem?_append_right (by omega), Nat.add_sub_cancel_left]; rfl
      have hl : W.heap[D + 1]? = some (.loop (rec .ready none)) := HWp.has _ (List.mem_of_getElem? hi)
      have hy := run_yield (P := P) (args := #[kv k]) hl (by rw [← hrec]; rfl)
      refine ⟨_, _, _, _, hy, roundIn_of_wpIn trivial ?_⟩
      have hact : ({ tmps := ((rec .ready none).params.zip #[kv k]).foldl (fun tmps (x : Tmp × Value) => tmps.setIfInBounds x.1 x.2) (rec .ready none).tmps, defers := [] } : Act) = mk n (up σ p (kv k)) := by
        rw [← mk_put, ← hrec]
        simp [Act.put, mk_defers]
      rw [hact]
      have ha : (rec .ready none).assign = assign := by rw [← hrec]
      have hbd : (rec .ready none).body = body := by rw [← hrec]
      rw [ha, hbd]
      refine wpIn_mono (hround (D + 1) _ vis x k a W hI hgot hk HWp) ?_; intro e a₁ W₁ hq
      cases e with
      | normal =>
        obtain ⟨Lb, HLb, hbody⟩ := hq
        have hi1 : (Lb ++ [Ch.obj D (.deferred (some [])), Ch.obj (D + 1) (.loop (rec .ready none)), itC it (vis ++ [k])])[Lb.length + 1]? = some (Ch.obj (D + 1) (.loop (rec .ready none))) := by
          rw [List.getElem?_append_right (by omega), Nat.add_sub_cancel_left]; rfl
        have hl1 : W₁.heap[D + 1]? = some (.loop (rec .ready none)) := HLb.has _ (List.mem_of_getElem? hi1)
        have hbg := run_beginRound (P := P) hl1 (by rw [← hrec])
        have H4 := HLb.putObj (o' := .loop { rec .ready none with state := .busy }) hi1
        rw [show (Lb ++ [Ch.obj D (.deferred (some [])), Ch.obj (D + 1) (.loop (rec .ready none)), itC it (vis ++ [k])]).set (Lb.length + 1) (.obj (D + 1) (.loop { rec .ready none with state := .busy })) = Lb ++ [Ch.obj D (.deferred (some [])), Ch.obj (D + 1) (.loop { rec .ready none with state := .busy }), itC it (vis ++ [k])] from by
          rw [List.set_append_right _ _ (by omega), Nat.add_sub_cancel_left]; rfl] at H4
        refine ⟨_, hbg, wpIn_mono (hbody _ _ H4) ?_⟩
        rintro e a₂ W₃ ⟨rfl, x', hI', H5⟩
        have hi2 : (FX ++ (Lv x' ++ [Ch.obj D (.deferred (some [])), Ch.obj (D + 1) (.loop { rec .ready none with state := .busy }), itC it (vis ++ [k])]))[FX.length + ((Lv x').length + 1)]? = some (Ch.obj (D + 1) (.loop { rec .ready none with state := .busy })) := by
          rw [List.getElem?_append_right (by omega), Nat.add_sub_cancel_left, List.getElem?_append_right (by omega), Nat.add_sub_cancel_left]; rfl
        have hl2 : W₃.heap[D + 1]? = some (.loop { rec .ready none with state := .busy }) := H5.has _ (List.mem_of_getElem? hi2)
        have hen := run_endRound (P := P) none hl2
        have H6 := H5.putObj (o' := .loop (rec .ready none)) hi2
        rw [List.set_append_right _ _ (by omega), Nat.add_sub_cancel_left, List.set_append_right _ _ (by omega), Nat.add_sub_cancel_left] at H6
        have hrr : ({ ({ rec .ready none with state := .busy } : Loop) with state := if (none : Option Code).isNone then .ready else .done, pending := none } : Loop) = rec .ready none := by rw [← hrec]; rfl
        rw [hrr] at hen
        refine ⟨_, _, hen, rfl, x', hI', H6.permL ?_⟩
        have := (List.perm_append_comm (l₁ := FX ++ (Lv x' ++ [Ch.obj D (.deferred (some [])), Ch.obj (D + 1) (.loop (rec .ready none))])) (l₂ := [itC it (vis ++ [k])]))
        rw [List.append_assoc, List.append_assoc] at this
        exact this
      | exit _ => exact hq.elim
      | ret => exact hq.elim
      | goto _ => exact hq.elim
      | panic _ => exact hq.elim
      | outgrown => exact hq.elim
    · rintro e W2 ⟨v, rfl, vis, x, hI, hA, HW⟩
      have hi : (FX ++ (Lv x ++ [Ch.obj D (.deferred (some [])), Ch.obj (D + 1) (.loop (rec .ready none))]))[FX.length + ((Lv x).length + 1)]? = some (Ch.obj (D + 1) (.loop (rec .ready none))) := by
        rw [List.getElem?_append_right (by omega), Nat.add_sub_cancel_left, List.getElem?_append_right (by omega), Nat.add_sub_cancel_left]; rfl
      have hl : W2.heap[D + 1]? = some (.loop (rec .ready none)) := HW.has _ (List.mem_of_getElem? hi)
      have hen := run_endLoop (P := P) hl (by rw [← hrec]; simp)
      have H6 := HW.putObj (o' := .loop { rec .ready none with state := .exhausted }) hi
      rw [List.set_append_right _ _ (by omega), Nat.add_sub_cancel_left, List.set_append_right _ _ (by omega), Nat.add_sub_cancel_left] at H6
      have hpn : (rec .ready none).pending = none := by rw [← hrec]
      refine ⟨none, _, hen.trans (congrArg (fun z => Result.ok z (W2.putObj (D + 1) (.loop { rec .ready none with state := .exhausted }))) hpn), ?_⟩
      · show Q .normal { tmps := (mk n σ).tmps, defers := markD D ++ (mk n σ).defers } _
        rw [mk_defers, List.append_nil]
        refine hdone D vis x _ hI hA ?_; have hp := (List.perm_append_comm (l₁ := FX ++ Lv x) (l₂ := [Ch.obj D (.deferred (some []))]))
        refine (H6.sub ?_).permL hp
        rw [List.append_assoc]
        exact List.Sublist.append_left (List.Sublist.append_left (.cons_cons _ (.cons _ (.refl _))) _) _
end
end Go.Proofs.Ytomjbabllcmodaa
namespace Go.Proofs.Ytomjbabllcmodaa
open Go
section
variable {P : Program} {Q : Exit → Act → World → Prop} {n : Nat} {σ : Nat → Value} {w w0 : World} {K : Act → World → Prop}
  {ty : TypeId} {pos : String} {aft : Array Edge} {g : Option (Nat × Bool)} {d : Nat} {t : TypeId} {x y : Operand} {S : List Nat} {L : List Ch}
end
theorem row_set (off : Nat) (rest : List Value) : ∀ (vs zs dn : List Value) (k : Nat), zs.length = vs.length → dn.length = off + k →
    (vs.zipIdx k).foldl (fun (cs : Array Value) (p : Value × Nat) => cs.setIfInBounds (off + p.2) p.1) (dn ++ (zs ++ rest)).toArray = (dn ++ (vs ++ rest)).toArray
  | [], zs, dn, k, h, _ => by
    have : zs = [] := List.eq_nil_of_length_eq_zero (by simpa using h)
    subst this; rfl
  | v :: vs, [], dn, k, h, _ => by simp at h
  | v :: vs, z :: zs, dn, k, h, hd => by
    rw [List.zipIdx_cons, List.foldl_cons]
    have e : ((dn ++ (z :: zs ++ rest)).toArray).setIfInBounds (off + k) v = ((dn ++ [v]) ++ (zs ++ rest)).toArray := by
      rw [← hd]
      simp []
    rw [e, row_set off rest vs zs (dn ++ [v]) (k + 1) (by simpa using h) (by rw [List.length_append, hd]; simp; omega)]
    simp
theorem fillG_aux (sz : Nat) : ∀ (rows : List (List Value)) (A B : List Value) (i : Nat), (∀ r ∈ rows, r.length = sz) → A.length = i * sz → B.length = rows.length * sz →
    Instr.fill (fun i => some (i * sz, sz)) (A ++ B).toArray (en i (rows.map fun r => .agg r.toArray)) = some (A ++ rows.flatten).toArray
  | [], A, B, i, _, _, hB => by
    have : B = [] := List.eq_nil_of_length_eq_zero (by simpa using hB)
    subst this; simp [en, Instr.fill]
  | r :: rows, A, B, i, hr, hA, hB => by
    have hrl := hr r (List.mem_cons_self ..)
    rw [List.length_cons, Nat.add_mul, Nat.one_mul] at hB
    have hsplit : B = B.take sz ++ B.drop sz := (List.take_append_drop _ _).symm
    rw [List.map_cons, en, Instr.fill]
    simp only [Value.cells, List.size_toArray]
    rw [if_neg (by simp only [Bool.or_eq_true, decide_eq_true_eq, List.length_append]; omega)]
    have hz : (r.toArray.zipIdx.foldl (fun (cs : Array Value) (p : Value × Nat) => cs.setIfInBounds (i * sz + p.2) p.1) (A ++ B).toArray) = ((A ++ r) ++ B.drop sz).toArray := by
      simp only [Array.zipIdx_toArray, List.foldl_toArray]
      rw [hsplit]
      have := row_set (i * sz) (B.drop sz) r (B.take sz) A 0 (by rw [List.length_take, hrl]; omega) (by omega)
      rw [this, List.append_assoc, ← hsplit]
    rw [hz, fillG_aux sz rows (A ++ r) (B.drop sz) (i + 1) (fun x hx => hr x (List.mem_cons_of_mem _ hx)) (by rw [List.length_append, hA, hrl, Nat.add_mul, Nat.one_mul]) (by rw [List.length_drop]; omega)]
    simp
section
variable {P : Program} {Q : Exit → Act → World → Prop} {n : Nat} {σ : Nat → Value} {w w0 : World} {K : Act → World → Prop}
  {ty : TypeId} {pos : String} {aft : Array Edge} {g : Option (Nat × Bool)} {d : Nat} {t : TypeId} {S : List Nat} {L : List Ch}
/-- a list of structs, written down. -/
theorem o_bslGn {α : Type} {enc : α → List Value} {e : TypeId} {sz bytes m : Nat} {parts : Array (Nat × Operand)} {zs : List Value} (l : List α) (H : Hp w0 w S L) (hT : SlTy P t e sz bytes) (hz : zeroCells P e = some zs) (h0 : 0 < sz) (hm : l.length = m) (hsm : m * sz ≤ 16777216)
    (hp : pvs n σ parts.toList = en 0 (l.map fun c => .agg (enc c).toArray)) (hc : ∀ c ∈ l, (enc c).length = sz)
    (h : ∀ b w', Hp w0 w' S (L ++ [.own (some b) m m (l.flatMap enc) e sz]) → w0.heap.size ≤ b → K (mk n (up σ d (.slice (hd (some b)) m m))) w') :
    Oper.wp P ⟨some d, .buildSlice t m parts, ty, pos, aft, g⟩ (mk n σ) w K Q := by
  have hfl : (l.flatMap enc).length = m * sz := by rw [← hm]; exact flat_len hc
  refine o_bsl (cells := (l.flatMap enc).toArray) H hT hz h0 hp hsm ?_ fun b w' H' hb => h b w' ?_ hb
  · have hzl : ((Array.range (m * sz)).map (zs.toArray[· % zs.toArray.size]!)).toList.length = m * sz := by simp
    have := fillG_aux sz (l.map enc) [] ((Array.range (m * sz)).map (zs.toArray[· % zs.toArray.size]!)).toList 0 (fun r hr => by
      obtain ⟨c, hcm, rfl⟩ := List.mem_map.1 hr; exact hc c hcm) (by simp) (by rw [hzl, List.length_map, hm])
    rw [List.nil_append, Array.toArray_toList, List.map_map] at this
    rw [List.nil_append, ← List.flatMap_def] at this
    exact this
  · have := H'.toOwn (i := L.length) (len := m) (cap := m) (sz := sz) (b := b) (C := l.flatMap enc) (T := e) (by simp) (Nat.le_refl _) (by
      have : m ≤ m * sz := Nat.le_mul_of_pos_right m h0
      exact Nat.le_trans this (Nat.le_trans hsm (by decide))) hfl
    rw [List.set_append_right _ _ (Nat.le_refl _), Nat.sub_self, List.take_of_length_le (by omega)] at this
    simpa using this
end
end Go.Proofs.Ytomjbabllcmodaa
namespace Go.Proofs.Ytomjbabllcmodaa
open Go
set_option maxRecDepth 100000
def obE (x : Ob) : List Value := (x.of.1).map V8 ++ (([x.data.v] : List Value))
theorem obE_len (x : Ob) : (obE x).length = 33 := by
  show ((x.of.1).map V8 ++ (([x.data.v] : List Value))).length = 33
  exact (by simp only [List.length_append, List.length_map, List.length_cons, List.length_nil, (show (x.of.1).length = 32 from x.of.2)])
theorem take_snocG {α : Type} {l : List α} {i : Nat} {x : α} (h : l[i]? = some x) : l.take (i + 1) = l.take i ++ [x] := by
  rw [List.take_add_one, h]; rfl
end Go.Proofs.Ytomjbabllcmodaa
namespace Go.Proofs.Ytomjbabllcmodaa
open Go Go.ChangeShapes Go.WideShapes Go.ChangeAt Go.RowKit Go.Deep Go.ChangeMaps
set_option maxRecDepth 100000
section
variable {H : Type} {enc : TypeId × Value → H} {W : World} {base : Nat} {spare : Nat → Bool} {held : Bool}
theorem Gl.ok_none {α : Type} {enc : α → List Value} {sz : Nat} (w : World) : (⟨none, 0, 0, []⟩ : Gl α).ok enc sz w := ⟨.inl rfl, rfl, Nat.le_refl _, Nat.zero_le _, fun c hc => (by cases hc)⟩
theorem open_rowsP {P : Program} {α : Type} [Inhabited α] {p : α → Prop} {en : α → List Value} {sz : Nat} {t e : TypeId} {fuel : Nat} {cs : List Value} {x : DataW H × List MemPlace} (ht : P.underlying t = some (.slice e)) (hsz : P.cellsOf e = sz) (hz : 0 < sz)
    (hrow : ∀ (fuel : Nat) (cs : List Value) (x : DataW H × List MemPlace), DataW.trod enc P W base spare held fuel e cs = some x → ∃ c : α, cs = en c ∧ (en c).length = sz ∧ p c)
    (h : DataW.trod enc P W base spare held fuel t cs = some x) : ∃ g : Gl α, cs = [g.v] ∧ g.ok en sz W ∧ ∀ c ∈ g.l, p c := by
  rcases DataW.trod_slice ht h with ⟨rfl, _⟩ | ⟨a, len, cap, elems, rest, n, _, rfl, _, _, hl, hm, hlen, hel, _, _⟩
  · exact ⟨⟨none, 0, 0, []⟩, rfl, Gl.ok_none _, fun _ h => by cases h⟩
  · have hs : ∀ i, i < len → ∃ c : α, (∀ j v, (en c)[j]? = some v → W.cell? (a.add (i * sz + j)) = some v) ∧ (en c).length = sz ∧ p c := by
      intro i hi
      have h1 := hel i hi
      rw [List.getElem?_eq_getElem (by omega), hsz] at h1
      obtain ⟨cs, hcs, htr⟩ := Option.bind_eq_some_iff.1 h1
      obtain ⟨c, rfl, hc⟩ := hrow _ _ _ htr
      refine ⟨c, fun j v hv => ?_, hc⟩
      have hlt : j < sz := by rw [← hc.1]; exact (List.getElem?_eq_some_iff.1 hv).1
      obtain ⟨_, _, hq⟩ := World.cells?_some hcs
      have := hq j hlt
      rw [hv, Addr.add_add] at this
      exact this
    obtain ⟨F, hF⟩ := choose_lt (α := α) (p := fun i c => (∀ j v, (en c)[j]? = some v → W.cell? (a.add (i * sz + j)) = some v) ∧ (en c).length = sz ∧ p c) hs
    have hsz' : ∀ c ∈ (List.range len).map F, (en c).length = sz := by
      intro c hc
      simp only [List.mem_map, List.mem_range] at hc
      obtain ⟨i, hi, rfl⟩ := hc
      exact (hF i hi).2.1
    have hall : ∀ c ∈ (List.range len).map F, p c := by
      intro c hc
      simp only [List.mem_map, List.mem_range] at hc
      obtain ⟨i, hi, rfl⟩ := hc
      exact (hF i hi).2.2
    refine ⟨⟨some a, len, cap, (List.range len).map F⟩, rfl, ⟨rd_of_cells fun i v hv => ?_, by simp, hl, hm, hsz'⟩, hall⟩
    have hlt : i < len * sz := by
      have := (List.getElem?_eq_some_iff.1 hv).1
      rw [flat_len hsz'] at this; simpa using this
    have hq : i / sz < len := Nat.div_lt_of_lt_mul (by rw [Nat.mul_comm]; exact hlt)
    have hk : ((List.range len).map F)[i / sz]? = some (F (i / sz)) := by simp [hq]
    have hrow' := flat_at hsz' hk
    have hv' : (en (F (i / sz)))[i % sz]? = some v := by
      rw [← hrow', List.getElem?_take_of_lt (Nat.mod_lt _ hz), List.getElem?_drop, Nat.div_add_mod']
      exact hv
    have := (hF (i / sz) hq).1 _ _ hv'
    rwa [Nat.div_add_mod'] at this
instance : Inhabited Id32 := ⟨⟨List.replicate 32 0, List.length_replicate⟩⟩
instance : Inhabited Ob := ⟨⟨default, ⟨none, 0, 0, []⟩⟩⟩
theorem cellsObj : Try.prog.cellsOf 34 = 33 := by kernel_rfl
theorem trod_obj (fuel : Nat) (cs : List Value) (x : DataW H × List MemPlace) (h : DataW.trod enc Try.prog W base (fun _ => true) held fuel 34 cs = some x) :
    ∃ c : Ob, cs = obE c ∧ (obE c).length = 33 ∧ c.data.ok W := by
  obtain ⟨y0, y1, n, _, hl, h0, h1⟩ := trod_struct2 Try.underlying34 h
  obtain ⟨l, hq, h32⟩ := trod_id h0
  have f2 : Try.prog.cellsOf 32 = 1 := by kernel_rfl
  rw [cellsObj] at hl
  replace hq : cs.take (Try.prog.cellsOf 29) = _ := hq
  rw [cellsId] at hq
  replace h1 : DataW.trod enc Try.prog W base (fun _ => true) held n 32 ((cs.drop (Try.prog.cellsOf 29)).take (Try.prog.cellsOf 32)) = some y1 := h1
  rw [cellsId, f2] at h1
  obtain ⟨v, hv⟩ : ∃ v, (cs.drop 32).take 1 = [v] := by
    have hlen : ((cs.drop 32).take 1).length = 1 := by rw [List.length_take, List.length_drop]; omega
    exact List.length_eq_one_iff.1 hlen
  obtain ⟨g, hg, hgok⟩ := open_sl (v := v) rfl (by rw [← hv]; exact h1)
  refine ⟨⟨⟨l, h32⟩, g⟩, ?_, obE_len _, hgok⟩
  rw [← List.take_append_drop 32 cs, hq]
  show _ = l.map V8 ++ [g.v]
  rw [← hg, ← hv, List.take_of_length_le (by rw [List.length_drop]; omega)]
theorem open_objs {base0 : Nat} {v : Value} {d : DataW H} {p : List MemPlace} (hval : Value.okWide Try.prog W .any base0 22 v) (h : DataW.Trod enc Try.prog W base (fun _ => true) held 22 v d p) :
    ∃ g : Gl Ob, v = g.v ∧ g.ok obE 33 W ∧ ∀ c ∈ g.l, c.data.ok W := by
  obtain ⟨a, len, cap, rfl⟩ := okWide_slice Try.underlying22 hval
  obtain ⟨fuel, hf⟩ := h
  obtain ⟨g, hg, hok⟩ := open_rowsP Try.underlying22 cellsObj (by decide) trod_obj hf
  refine ⟨g, ?_, hok⟩
  simpa [Value.cells] using hg
end
end Go.Proofs.Ytomjbabllcmodaa
namespace Go.Proofs.Ytomjbabllcmodaa
open Go
set_option maxRecDepth 100000
section
variable {P : Program} {n : Nat} {σ : Nat → Value} {w : World} {ty : TypeId} {pos : String} {aft : Array Edge} {g : Option (Nat × Bool)} {d : Nat} {t : TypeId} {x : Operand}
theorem r_mkfn {f : FuncId} {xs : Array Operand} {vs : List Value} (hx : evs n σ xs.toList = vs) : (execOp (ev n σ) ⟨some d, .makeFunc (.func f) #[] xs, ty, pos, aft, g⟩).run P w = .ok (.value (.func (.func f) #[] vs.toArray)) w := by
  have h : xs.map (ev n σ) = vs.toArray := by apply Array.ext'; rw [← hx, evs_eq]; simp
  simp [execOp, h, Instr.makeFunc]
end
/-- a list of names that rises. -/
def RisA (l : List Id32) : Prop := l.Pairwise fun x y => x.1 < y.1
theorem sortA_ris {l : List Id32} (hn : l.Nodup) : RisA (sortA l) ∧ ∀ x, x ∈ sortA l ↔ x ∈ l := by
  have hp : (sortA l).Perm l := List.mergeSort_perm _ _
  refine ⟨?_, fun x => hp.mem_iff⟩
  have hle : ∀ x y : Id32, (!(decide (cmpA y x < 0))) = true ↔ ¬ y.1 < x.1 := fun x y => by
    rw [Bool.not_eq_true', decide_eq_false_iff_not]
    exact not_congr (cmpB_lt _ _)
  have hs : (sortA l).Pairwise fun x y => (!(decide (cmpA y x < 0))) = true := List.pairwise_mergeSort (fun x y z h1 h2 => by
      rw [hle] at *
      exact List.not_lt.2 (List.le_trans (List.not_lt.1 h1) (List.not_lt.1 h2))) (fun x y => by
      rw [Bool.or_eq_true, hle, hle]
      by_cases h : y.1 < x.1
      · right; intro h2; exact lt_irr _ (lt_tr h h2)
      · exact .inl h) l
  have hnd : (sortA l).Nodup := hp.nodup_iff.2 hn
  refine (List.pairwise_and_iff.2 ⟨hs, hnd⟩).imp fun {x y} h => ?_
  obtain ⟨h1, h2⟩ := h
  rw [hle] at h1
  exact Decidable.byContradiction fun h3 => h2 (Subtype.ext (lt_tot h3 h1))
theorem sortA_len (l : List Id32) : (sortA l).length = l.length := List.length_mergeSort _
end Go.Proofs.Ytomjbabllcmodaa
namespace Go.Proofs.Ytomjbabllcmodaa
open Go
set_option maxRecDepth 100000
theorem ob_up {l : List Ob} {w0 w : World} {L : List Ch} (ho : ∀ o ∈ l, o.data.ok w0 ∧ o.data.len ≤ 1048576) (H : Hp w0 w [] L) : ∀ o ∈ l, o.data.ok w ∧ o.data.len ≤ 1048576 := fun o h => ⟨(ho o h).1.up H (fun _ => apart_nil _), (ho o h).2⟩
end Go.Proofs.Ytomjbabllcmodaa
namespace Go.Proofs.Ytomjbabllcmodaa
open Go
set_option maxRecDepth 100000
/-- what Find finds: the first object of a name. -/
def FindR (l : List Ob) (k : Id32) (i : Int) : Prop := (i = -1 ∧ lookS l k = none) ∨ ∃ (n : Nat) (o : Ob), i = (n : Int) ∧ l[n]? = some o ∧ o.of = k ∧ lookS l k = some o.data
theorem lookS_cons (o : Ob) (l : List Ob) (k : Id32) : lookS (o :: l) k = if o.of = k then some o.data else lookS l k := by
  rw [lookS, lookS, List.find?_cons]
  by_cases h : o.of = k
  · simp [h]
  · simp [h]
theorem lookS_first : ∀ {l : List Ob} {n : Nat} {o : Ob}, l[n]? = some o → (∀ m, m < n → ∀ o', l[m]? = some o' → o'.of ≠ o.of) → lookS l o.of = some o.data
  | [], _, _, h, _ => by cases h
  | x :: l, 0, o, h, _ => by
    have e : x = o := by simpa using h
    rw [lookS_cons, e, if_pos rfl]
  | x :: l, n + 1, o, h, hf => by
    rw [lookS_cons, if_neg (hf 0 (by omega) x rfl)]
    exact lookS_first (by simpa using h) fun m hm o' ho' => hf (m + 1) (by omega) o' (by simpa using ho')
theorem lookS_none {l : List Ob} {k : Id32} (h : ∀ m, m < l.length → ∀ o', l[m]? = some o' → o'.of ≠ k) : lookS l k = none := by
  cases hl : lookS l k with
  | none => rfl
  | some s =>
    obtain ⟨o, ho, e, _⟩ := lookS_mem hl
    obtain ⟨m, hm, hme⟩ := List.mem_iff_getElem.1 ho
    exact absurd e (h m hm o (by rw [List.getElem?_eq_getElem hm, hme]))
theorem FindR.lt {l : List Ob} {k : Id32} {i : Int} (h : FindR l k i) : -1 ≤ i ∧ i < l.length := by
  rcases h with ⟨h, _⟩ | ⟨n, o, h, h2, _⟩
  · omega
  · have := (List.getElem?_eq_some_iff.1 h2).1; omega
variable {l : List Ob} {roots rs : List Id32} {h d : List Bool} {pr : Nat → Ob → List It}
/-- how many are not hit. -/
def cf (h : List Bool) : Nat := h.count false
end Go.Proofs.Ytomjbabllcmodaa
namespace Go.Proofs.Ytomjbabllcmodaa
open Go
def rotl (x : UInt32) (k : Nat) : UInt32 := (x <<< UInt32.ofNat k) ||| (x >>> UInt32.ofNat (32 - k))
/-- word j of a block. -/
def wordAt (b : List UInt8) (j : Nat) : UInt32 :=
  (((b.getD (4 * j) 0).toUInt32 <<< UInt32.ofNat 24) ||| ((b.getD (4 * j + 1) 0).toUInt32 <<< UInt32.ofNat 16) ||| ((b.getD (4 * j + 2) 0).toUInt32 <<< UInt32.ofNat 8)) ||| (b.getD (4 * j + 3) 0).toUInt32
def firsts (b : List UInt8) : Nat → List UInt32
  | 0 => []
  | j + 1 => firsts b j ++ [wordAt b j]
def sg0 (x : UInt32) : UInt32 := (rotl x 25 ^^^ rotl x 14) ^^^ (x >>> UInt32.ofNat 3)
def sg1 (y : UInt32) : UInt32 := (rotl y 15 ^^^ rotl y 13) ^^^ (y >>> UInt32.ofNat 10)
def nextWord (l : List UInt32) : UInt32 :=
  (l.getD (l.length - 16) 0 + sg0 (l.getD (l.length - 15) 0) + l.getD (l.length - 7) 0) + sg1 (l.getD (l.length - 2) 0)
def sched (b : List UInt8) : Nat → List UInt32
  | 0 => firsts b 16
  | k + 1 => sched b k ++ [nextWord (sched b k)]
structure S8 where
  a : UInt32
  b : UInt32
  c : UInt32
  d : UInt32
  e : UInt32
  f : UInt32
  g : UInt32
  h : UInt32
def S8.l (s : S8) : List UInt32 := [s.a, s.b, s.c, s.d, s.e, s.f, s.g, s.h]
def primeWords : List UInt32 := [
  0x428a2f98, 0x71374491, 0xb5c0fbcf, 0xe9b5dba5, 0x3956c25b, 0x59f111f1, 0x923f82a4, 0xab1c5ed5,
  0xd807aa98, 0x12835b01, 0x243185be, 0x550c7dc3, 0x72be5d74, 0x80deb1fe, 0x9bdc06a7, 0xc19bf174,
  0xe49b69c1, 0xefbe4786, 0x0fc19dc6, 0x240ca1cc, 0x2de92c6f, 0x4a7484aa, 0x5cb0a9dc, 0x76f988da,
  0x983e5152, 0xa831c66d, 0xb00327c8, 0xbf597fc7, 0xc6e00bf3, 0xd5a79147, 0x06ca6351, 0x14292967,
  0x27b70a85, 0x2e1b2138, 0x4d2c6dfc, 0x53380d13, 0x650a7354, 0x766a0abb, 0x81c2c92e, 0x92722c85,
  0xa2bfe8a1, 0xa81a664b, 0xc24b8b70, 0xc76c51a3, 0xd192e819, 0xd6990624, 0xf40e3585, 0x106aa070,
  0x19a4c116, 0x1e376c08, 0x2748774c, 0x34b0bcb5, 0x391c0cb3, 0x4ed8aa4a, 0x5b9cca4f, 0x682e6ff3,
  0x748f82ee, 0x78a5636f, 0x84c87814, 0x8cc70208, 0x90befffa, 0xa4506ceb, 0xbef9a3f7, 0xc67178f2]
def initS : S8 := ⟨0x6a09e667, 0xbb67ae85, 0x3c6ef372, 0xa54ff53a, 0x510e527f, 0x9b05688c, 0x1f83d9ab, 0x5be0cd19⟩
def rnd (s : S8) (k w : UInt32) : S8 :=
  let up := (rotl s.e 26 ^^^ rotl s.e 21) ^^^ rotl s.e 7
  let x := (((s.h + up) + ((s.e &&& s.f) ^^^ (~~~s.e &&& s.g))) + k) + w
  let down := (rotl s.a 30 ^^^ rotl s.a 19) ^^^ rotl s.a 10
  let y := down + (((s.a &&& s.b) ^^^ (s.a &&& s.c)) ^^^ (s.b &&& s.c))
  ⟨x + y, s.a, s.b, s.c, s.d + x, s.e, s.f, s.g⟩
def rnds (ws : List UInt32) (s : S8) : Nat → S8
  | 0 => s
  | i + 1 => rnd (rnds ws s i) (primeWords.getD i 0) (ws.getD i 0)
def addS (s t : S8) : S8 := ⟨s.a + t.a, s.b + t.b, s.c + t.c, s.d + t.d, s.e + t.e, s.f + t.f, s.g + t.g, s.h + t.h⟩
def comp (s : S8) (blk : List UInt8) : S8 := addS s (rnds (sched blk 48) s 64)
theorem firsts_length (b : List UInt8) : ∀ j, (firsts b j).length = j
  | 0 => rfl
  | j + 1 => by simp [firsts, firsts_length b j]
theorem sched_length (b : List UInt8) : ∀ k, (sched b k).length = 16 + k
  | 0 => firsts_length b 16
  | k + 1 => by simp [sched, sched_length b k]; omega
end Go.Proofs.Ytomjbabllcmodaa
namespace Go.Proofs.Ytomjbabllcmodaa
open Go
structure HS where
  st : S8
  wt : List UInt8
  m : UInt64
def HS.at_ (s : HS) : Nat := s.m.toNat % 64
def step1 (s : HS) (b : UInt8) : HS :=
  if s.at_ = 63 then ⟨comp s.st (s.wt.set s.at_ b), s.wt.set s.at_ b, s.m + 1⟩ else ⟨s.st, s.wt.set s.at_ b, s.m + 1⟩
def absorb (s : HS) : List UInt8 → HS
  | [] => s
  | b :: l => absorb (step1 s b) l
def HS.init : HS := ⟨initS, List.replicate 64 0, 0⟩
theorem absorb_append (s : HS) (a b : List UInt8) : absorb s (a ++ b) = absorb (absorb s a) b := by
  induction a generalizing s with
  | nil => rfl
  | cons x a ih => simp [absorb, ih]
theorem step1_wt (s : HS) (b : UInt8) : (step1 s b).wt.length = s.wt.length := by unfold step1; split <;> simp
theorem absorb_wt (s : HS) (l : List UInt8) : (absorb s l).wt.length = s.wt.length := by
  induction l generalizing s with
  | nil => rfl
  | cons x l ih => rw [absorb, ih, step1_wt]
/-- l written into wt from place k on. -/
def spl (wt : List UInt8) (k : Nat) (l : List UInt8) : List UInt8 := wt.take k ++ l ++ wt.drop (k + l.length)
theorem spl_set (wt : List UInt8) (k : Nat) (b : UInt8) (l : List UInt8) (h : k + (l.length + 1) ≤ wt.length) : spl (wt.set k b) (k + 1) l = spl wt k (b :: l) := by
  unfold spl
  have e1 : (wt.set k b).take (k + 1) = wt.take k ++ [b] := by
    rw [List.take_set, List.take_succ_eq_append_getElem (by omega)]
    have : (wt.take k).length = k := by rw [List.length_take]; omega
    rw [List.set_append_right _ _ (by omega), this]; simp
  have e2 : (wt.set k b).drop (k + 1 + l.length) = wt.drop (k + (b :: l).length) := by
    rw [List.drop_set_of_lt (by omega)]; congr 1; simp; omega
  rw [e1, e2]; simp
theorem at_add (m : UInt64) (k : Nat) (h : m.toNat % 64 + k < 64) : (m + UInt64.ofNat k).toNat % 64 = m.toNat % 64 + k := by
  rw [UInt64.toNat_add, UInt64.toNat_ofNat']; omega
theorem add_one (m : UInt64) (k : Nat) : m + 1 + UInt64.ofNat k = m + UInt64.ofNat (k + 1) := by
  apply UInt64.toNat_inj.1
  rw [UInt64.toNat_add, UInt64.toNat_add, UInt64.toNat_add, UInt64.toNat_ofNat', UInt64.toNat_ofNat']
  have : (1 : UInt64).toNat = 1 := rfl
  omega
theorem absorb_full (l : List UInt8) : ∀ s : HS, s.wt.length = 64 → s.at_ + l.length = 64 → l ≠ [] → absorb s l = ⟨comp s.st (spl s.wt s.at_ l), spl s.wt s.at_ l, s.m + UInt64.ofNat l.length⟩ := by
  induction l with
  | nil => intro s _ _ h; exact absurd rfl h
  | cons b l ih =>
    intro s hw h _
    by_cases hl : l = []
    · subst hl
      have h63 : s.at_ = 63 := by simp at h; omega
      have e : step1 s b = ⟨comp s.st (s.wt.set s.at_ b), s.wt.set s.at_ b, s.m + 1⟩ := by unfold step1; rw [if_pos h63]
      have e2 : spl s.wt s.at_ [b] = s.wt.set s.at_ b := by
        have := spl_set s.wt s.at_ b [] (by simp; omega)
        rw [← this, spl]; simp
      rw [absorb, absorb, e, e2]; rfl
    · have hpos : 0 < l.length := List.length_pos_iff.2 hl
      have h63 : s.at_ ≠ 63 := by simp at h; omega
      have e : step1 s b = ⟨s.st, s.wt.set s.at_ b, s.m + 1⟩ := by unfold step1; rw [if_neg h63]
      have ha : (s.m + 1).toNat % 64 = s.at_ + 1 := at_add s.m 1 (by simp [HS.at_] at h ⊢; omega)
      rw [absorb, e, ih _ (by simpa using hw) (by simp only [HS.at_, List.length_cons] at h ha ⊢; omega) hl]
      simp only [HS.at_] at ha ⊢
      rw [ha]
      have := spl_set s.wt (s.m.toNat % 64) b l (by simp [HS.at_] at h; omega)
      rw [this, add_one]; rfl
end Go.Proofs.Ytomjbabllcmodaa
namespace Go.Proofs.Ytomjbabllcmodaa
open Go
def W64 (x : UInt32) : Value := V64 x.toUInt64
def turnN (x : Nat) : Nat → Nat
  | 0 => x
  | i + 1 => turnN x i / 2 + turnN x i % 2 * 2147483648
theorem turnN_eq (x : Nat) : ∀ i, i ≤ 31 → turnN x i = x / 2 ^ i + (x % 2 ^ i) * 2 ^ (32 - i)
  | 0, _ => by simp [turnN, Nat.mod_one]
  | i + 1, h => by
    have ih := turnN_eq x i (by omega)
    have e1 : 2 ^ (32 - i) = 2 * 2 ^ (31 - i) := by
      rw [show 32 - i = (31 - i) + 1 by omega, Nat.pow_succ, Nat.mul_comm]
    have e2 : 2 ^ (32 - (i + 1)) = 2 ^ (31 - i) := by rw [show 32 - (i + 1) = 31 - i by omega]
    have e3 : x % 2 ^ (i + 1) = x % 2 ^ i + (x / 2 ^ i % 2) * 2 ^ i := by
      rw [Nat.pow_succ, Nat.mod_mul]; rw [Nat.mul_comm]
    have e4 : 2 ^ i * 2 ^ (31 - i) = 2147483648 := by
      rw [← Nat.pow_add, show i + (31 - i) = 31 by omega]
    have e5 : x / 2 ^ (i + 1) = x / 2 ^ i / 2 := by rw [Nat.pow_succ, Nat.div_div_eq_div_mul]
    rw [turnN, ih, e1, e2, e3, e5]
    generalize x / 2 ^ i = q at *
    generalize x % 2 ^ i = r at *
    generalize 2 ^ (31 - i) = p at *
    have e6 : r * (2 * p) = 2 * (r * p) := by rw [Nat.mul_left_comm]
    have e7 : (r + q % 2 * 2 ^ i) * p = r * p + q % 2 * 2147483648 := by
      rw [Nat.add_mul, Nat.mul_assoc, e4]
    rw [e6, e7]
    omega
theorem turnN_lt (x : Nat) (hx : x < 4294967296) : ∀ i, turnN x i < 4294967296
  | 0 => hx
  | i + 1 => by have := turnN_lt x hx i; rw [turnN]; omega
def turn64 (x : UInt64) : Nat → UInt64
  | 0 => x
  | i + 1 => turn64 x i / 2 + turn64 x i % 2 * 2147483648
theorem turn64_nat (x : UInt32) : ∀ i, (turn64 x.toUInt64 i).toNat = turnN x.toNat i
  | 0 => by simp [turn64, turnN]
  | i + 1 => by
    have ih := turn64_nat x i
    have hl := turnN_lt x.toNat x.toNat_lt i
    rw [turn64, turnN, UInt64.toNat_add, UInt64.toNat_mul, UInt64.toNat_div, UInt64.toNat_mod, ih]
    have e2 : (2 : UInt64).toNat = 2 := rfl
    have e3 : (2147483648 : UInt64).toNat = 2147483648 := rfl
    rw [e2, e3]
    omega
theorem rotl_nat (x : UInt32) (n : Nat) (h0 : 0 < n) (h : n < 32) : (rotl x (32 - n)).toNat = turnN x.toNat n := by
  rw [turnN_eq _ n (by omega), rotl, UInt32.toNat_or, UInt32.toNat_shiftLeft, UInt32.toNat_shiftRight]
  have e1 : (UInt32.ofNat (32 - n)).toNat % 32 = 32 - n := by rw [UInt32.toNat_ofNat']; omega
  have e2 : (UInt32.ofNat (32 - (32 - n))).toNat % 32 = n := by rw [UInt32.toNat_ofNat']; omega
  rw [e1, e2, Nat.shiftRight_eq_div_pow, Nat.shiftLeft_eq]
  have hx := x.toNat_lt
  have e3 : x.toNat * 2 ^ (32 - n) % 2 ^ 32 = (x.toNat % 2 ^ n) * 2 ^ (32 - n) := by
    have : 2 ^ 32 = 2 ^ n * 2 ^ (32 - n) := by rw [← Nat.pow_add]; congr 1; omega
    rw [this, Nat.mul_mod_mul_right]
  rw [e3, Nat.add_comm, ← Nat.shiftLeft_eq]
  refine (Nat.shiftLeft_add_eq_or_of_lt ?_ _).symm; have : 2 ^ 32 = 2 ^ (32 - n) * 2 ^ n := by rw [← Nat.pow_add]; congr 1; omega
  exact Nat.div_lt_of_lt_mul (by rw [Nat.mul_comm, ← this]; exact hx)
theorem turn64_eq (x : UInt32) (n : Nat) (h0 : 0 < n) (h : n < 32) : turn64 x.toUInt64 n = (rotl x (32 - n)).toUInt64 := by
  apply UInt64.toNat_inj.1
  rw [turn64_nat, UInt32.toNat_toUInt64, rotl_nat x n h0 h]
def down64 (x : UInt64) : Nat → UInt64
  | 0 => x
  | i + 1 => down64 x i / 2
theorem down64_nat (x : UInt64) : ∀ i, (down64 x i).toNat = x.toNat / 2 ^ i
  | 0 => by simp [down64]
  | i + 1 => by
    rw [down64, UInt64.toNat_div, down64_nat x i, Nat.pow_succ, Nat.div_div_eq_div_mul]; rfl
theorem down64_eq (x : UInt32) (n : Nat) (h : n < 32) : down64 x.toUInt64 n = (x >>> UInt32.ofNat n).toUInt64 := by
  apply UInt64.toNat_inj.1
  rw [down64_nat, UInt32.toNat_toUInt64, UInt32.toNat_toUInt64, UInt32.toNat_shiftRight, Nat.shiftRight_eq_div_pow]
  have e1 : (UInt32.ofNat n).toNat % 32 = n := by rw [UInt32.toNat_ofNat']; omega
  rw [e1]
theorem and_all (x : UInt64) : x &&& 4294967295 = x.toUInt32.toUInt64 := by
  apply UInt64.toNat_inj.1
  rw [UInt64.toNat_and, UInt32.toNat_toUInt64, UInt64.toNat_toUInt32]
  have : (4294967295 : UInt64).toNat = 2 ^ 32 - 1 := rfl
  rw [this, Nat.and_two_pow_sub_one_eq_mod]
section
variable {P : Program} {t : TypeId} {w : World}
theorem b_quo_u64 {x y : UInt64} (h : y.toNat ≠ 0) : (binOp .quo t (V64 x) (V64 y)).run P w = .ok (V64 (x / y)) w := by
  have hx := u64_lt x
  have h2 : (y.toNat : Int) ≠ 0 := by omega
  have e1 : (x.toNat : Int) / (y.toNat : Int) = ((x.toNat / y.toNat : Nat) : Int) := by simp
  have h3 := Nat.div_le_self x.toNat y.toNat
  have e : IntKind.u64.wrap ((x.toNat : Int) / (y.toNat : Int)) = ((x / y).toNat : Int) := by
    rw [wrap_u64, UInt64.toNat_div, e1]
    generalize x.toNat / y.toNat = q at h3
    omega
  simp [binOp, Op.intDiv, h, e, Int.tdiv_eq_ediv_of_nonneg (show (0 : Int) ≤ (x.toNat : Int) by omega)]
theorem b_rem_u64 {x y : UInt64} (h : y.toNat ≠ 0) : (binOp .rem t (V64 x) (V64 y)).run P w = .ok (V64 (x % y)) w := by
  have e := b_rem (P := P) (t := t) (w := w) (k := .u64) (a := (x.toNat : Int)) (b := (y.toNat : Int)) (by omega) (by omega)
  rw [show V64 (x % y) = .int .u64 ((x.toNat : Int) % (y.toNat : Int)) by rw [V64, UInt64.toNat_mod]; simp]
  exact e
end
end Go.Proofs.Ytomjbabllcmodaa
namespace Go.Proofs.Ytomjbabllcmodaa
open Go
set_option maxRecDepth 100000
theorem sub128 (c : UInt8) (h : 128 ≤ c.toNat) : c.toUInt64 - 128 = UInt64.ofNat (c.toNat % 128) := by
  apply UInt64.toNat_inj.1
  have hb := UInt8.toNat_lt c
  have e1 : (128 : UInt64).toNat = 128 := rfl
  have e2 : (c.toUInt64).toNat = c.toNat := UInt8.toNat_toUInt64 c
  rw [UInt64.toNat_sub, e1, e2, ofNat_nat _ (by omega)]
  omega
theorem cnt_step (c : UInt8) (n i : Nat) (h : 128 ≤ c.toNat) : UInt64.ofNat n + (c.toUInt64 - 128) * UInt64.ofNat (128 ^ i) = UInt64.ofNat (n + c.toNat % 128 * 128 ^ i) := by
  rw [sub128 c h, UInt64.ofNat_add, UInt64.ofNat_mul]
theorem cnt_last (c : UInt8) (n i : Nat) (h : c.toNat < 128) : UInt64.ofNat n + c.toUInt64 * UInt64.ofNat (128 ^ i) = UInt64.ofNat (n + c.toNat % 128 * 128 ^ i) := by
  have e : c.toUInt64 = UInt64.ofNat (c.toNat % 128) := by
    apply UInt64.toNat_inj.1
    rw [ofNat_nat _ (by omega), UInt8.toNat_toUInt64]; omega
  rw [e, UInt64.ofNat_add, UInt64.ofNat_mul]
theorem cnt_unit (i : Nat) : UInt64.ofNat (128 ^ i) * 128 = UInt64.ofNat (128 ^ (i + 1)) := by
  rw [Nat.pow_succ, UInt64.ofNat_mul]; rfl
theorem cnt_len : ∀ (k n : Nat), n < 128 ^ (k + 1) → (cnt n).length ≤ k + 1
  | 0, n, h => by rw [cnt_one n (by omega)]; exact Nat.le_refl _
  | k + 1, n, h => by
    by_cases hn : 127 < n
    · rw [cnt_big n hn, List.length_cons]
      have := cnt_len k (n / 128) (by rw [Nat.pow_succ] at h; omega)
      omega
    · rw [cnt_one n (by omega)]; simp
theorem cnt_len10 (n : Nat) (h : n < 18446744073709551616) : (cnt n).length ≤ 10 := cnt_len 9 n (by have : (128 : Nat) ^ (9 + 1) = 1180591620717411303424 := by decide
                                                                                                    omega)
theorem len_cnt (l : List UInt8) (n : Nat) (h : n < 2 ^ 64) : (l ++ cnt n).length ≤ l.length + 10 := by
  rw [List.length_append]; have := cnt_len10 n (by simpa using h); omega
theorem len_txt (l t : List UInt8) (h : t.length ≤ 65536) : ((l ++ cnt t.length) ++ t).length ≤ l.length + 10 + t.length := by
  rw [List.length_append, List.length_append]; have := cnt_len10 t.length (by omega); omega
theorem cnt1_byte (v : UInt64) : (v % 128 + 128).toUInt8 = UInt8.ofNat v.toNat ||| 128 := by
  apply UInt8.toNat_inj.1
  have e1 : (128 : UInt64).toNat = 128 := rfl
  rw [or_nat, UInt64.toNat_toUInt8, UInt64.toNat_add, UInt64.toNat_mod, e1]
  omega
theorem div128 (v : UInt64) : (v / 128).toNat = v.toNat / 128 := by rw [UInt64.toNat_div]; rfl
theorem cnt_big64 (x : UInt64) (h : 127 < x.toNat) : cnt x.toNat = (x % 128 + 128).toUInt8 :: cnt (x / 128).toNat := by rw [cnt_big _ h, cnt1_byte, div128]
theorem cnt_one64 (x : UInt64) (h : x.toNat ≤ 127) : cnt x.toNat = [x.toUInt8] := by
  rw [cnt_one _ h]; congr 1
theorem toNat64 (c : UInt8) : (c.toUInt64).toNat = c.toNat := UInt8.toNat_toUInt64 c
theorem takeCount1_ret (w0 : World) (s : Sl) (hs : s.ok w0) (hm : s.len ≤ 1048576) :
    Ret Try.prog 44 [s.v] w0 fun v w' => ∃ (x : UInt64) (k : Nat) (e : Int), v = .tuple #[V64 x, VI (k : Int), VI e] ∧ CntRes s.l x k e ∧ k ≤ s.l.length ∧ Hp w0 w' [] [] := by
  refine ret_mk Try.func44 rfl Try.ntmps44 (by simp) ?_
  have H := Hp.refl w0 []
  have hsl := hs.ln
  repeat refine c_seq ?_
  refine c_region ?_; refine l_op (o_val (r_asV (c64 0 (by decide))) ?_); refine l_op (o_val r_as ?_); refine l_op (o_val r_as ?_); first | refine l_end ?_ | refine l_nil ?_
  repeat refine c_seq ?_
  refine c_region ?_; refine l_op (o_val (r_asV (c64 0 (by decide))) ?_); refine l_op (o_val (r_asV (c64 1 (by decide))) ?_); first | refine l_end ?_ | refine l_nil ?_
  repeat refine c_seq ?_
  refine c_region ?_; refine l_op (o_val r_as ?_); first | refine l_end ?_ | refine l_nil ?_
  repeat refine c_seq ?_
  refine c_block ?_; repeat refine c_seq ?_
  refine c_loop2 (fun (i : Nat) (n : Nat) => [(0, s.v), (5, V64 (UInt64.ofNat n)), (6, V64 (UInt64.ofNat (128 ^ i))), (7, VI (i : Int))])
    (fun (i : Nat) (n : Nat) w => (i ≤ 9 ∧ i ≤ s.len ∧ CntInv s.l i n ∧ CntWay s.l i n) ∧ Hp w0 w [] ([]))
    (fun (i : Nat) (n : Nat) => s.len - i) 0 0 ⟨rfl, rfl, rfl, rfl, trivial⟩ ⟨⟨by omega, by omega, cntInv_zero _, cntWay_zero _⟩, H⟩ ?_
  clear H
  rintro i n τ w ⟨⟨hi9, hil, hinv, hway⟩, H⟩
  have h64 := toNat64 (s.l.getD i 0)
  repeat refine c_seq ?_
  refine c_region ?_; refine l_op (o_val r_mv ?_); refine l_op (o_val r_mv ?_); refine l_op (o_val (r_lens el32 rfl) ?_); refine l_op (o_val (r_bin (a := (i : Int)) (b := (s.len : Int)) rfl rfl (fun _ => b_lss)) ?_); first | refine l_end ?_ | refine l_nil ?_
  by_cases hc1 : (i : Int) < (s.len : Int)
  ·
   repeat refine c_seq ?_
   refine c_yes (by exact congrArg Value.bool (decide_eq_true hc1)) ?_; refine c_skip ?_; repeat refine c_seq ?_
   refine c_block ?_; repeat refine c_seq ?_
   refine c_region ?_; refine l_op (o_val r_mv ?_); refine l_op (o_val r_mv ?_); have ah4 := ((hs.up H (fun _ => apart_nil _))).addr (by (try simp only [Sl.cut]); omega)
   obtain ⟨ab2, ao3, ah4⟩ := ah4
   refine l_op (o_val (r_isN i rfl rfl el32 ah4 (by omega) (by (try simp only [Sl.cut]); omega)) ?_); refine l_op (o_val (r_ldB (s := s) (k := i) (hs.up H (fun _ => apart_nil _)) ah4 rfl ct5 (by (try simp only [Sl.cut]); omega)) ?_); refine l_op (o_val (r_conv Try.underlying5 Try.underlying91 rfl (w_u64_8 _)) ?_); refine l_op (o_val r_as ?_); first | refine l_end ?_ | refine l_nil ?_
   repeat refine c_seq ?_
   refine c_region ?_; refine l_op (o_val r_mv ?_); refine l_op (o_val (r_bin (a := (i : Int)) (b := 9) rfl rfl (fun _ => b_eql)) ?_); refine l_op (o_val r_mv ?_)
   by_cases hc5 : (i : Int) = 9
   ·
    refine l_yes rfl rfl (by exact congrArg Value.bool (decide_eq_true hc5)) (o_val r_mv ?_); refine l_yes rfl rfl (by exact congrArg Value.bool (decide_eq_true hc5)) (o_val (r_bin (a := ((((s.l).getD i 0).toUInt64).toNat : Int)) (b := 1) rfl rfl (fun _ => b_gtr)) ?_); refine l_op (o_val (r_pick (b := true) (congrArg Value.bool (decide_eq_true hc5))) ?_); first | refine l_end ?_ | refine l_nil ?_
    by_cases hc6 : 1 < ((((s.l).getD i 0).toUInt64).toNat : Int)
    ·
     repeat refine c_seq ?_
     refine c_yes (by exact congrArg Value.bool (decide_eq_true hc6)) ?_; repeat refine c_seq ?_
     refine c_region ?_; refine l_op (o_val (r_asV (c64 0 (by decide))) ?_); refine l_op (o_val r_as ?_); refine l_op (o_val r_as ?_); first | refine l_end ?_ | refine l_nil ?_
     refine c_ret ?_; try dsimp only [Exit.then, Exit.inBlock]
     refine e_retN (vs := [V64 (0 : UInt64), VI 0, VI 4]) _ Try.results44 rfl (resT (v := V64 (0 : UInt64)) rfl (resT (v := VI 0) rfl (resT (v := VI 4) rfl (resZ)))) ?_
     refine ⟨_, rfl, ?_⟩
     refine ⟨0, 0, 4, rfl, .inr ⟨by decide, ?_⟩, by omega, H⟩
     first
       | exact noCnt_zero hway (by omega) (getD_get (by omega)) (by omega)
       | (have hi : i = 9 := by omega
          subst hi
          exact noCnt_high hway (getD_get (by omega)) (by omega))
    ·
     repeat refine c_seq ?_
     refine c_no (by exact congrArg Value.bool (decide_eq_false hc6)) ?_; refine c_skip ?_; repeat refine c_seq ?_
     refine c_region ?_; refine l_op (o_val r_mv ?_); refine l_op (o_val (r_bin (a := ((((s.l).getD i 0).toUInt64).toNat : Int)) (b := 128) rfl rfl (fun _ => b_lss)) ?_); first | refine l_end ?_ | refine l_nil ?_
     by_cases hc7 : ((((s.l).getD i 0).toUInt64).toNat : Int) < 128
     ·
      repeat refine c_seq ?_
      refine c_yes (by exact congrArg Value.bool (decide_eq_true hc7)) ?_; repeat refine c_seq ?_
      refine c_region ?_; refine l_op (o_val r_mv ?_); refine l_op (o_val (r_bin (a := ((((s.l).getD i 0).toUInt64).toNat : Int)) (b := 0) rfl rfl (fun _ => b_eql)) ?_); refine l_op (o_val r_mv ?_)
      by_cases hc8 : ((((s.l).getD i 0).toUInt64).toNat : Int) = 0
      ·
       refine l_yes rfl rfl (by exact congrArg Value.bool (decide_eq_true hc8)) (o_val r_mv ?_); refine l_yes rfl rfl (by exact congrArg Value.bool (decide_eq_true hc8)) (o_val (r_bin (a := (i : Int)) (b := 0) rfl rfl (fun _ => b_gtr)) ?_); refine l_op (o_val (r_pick (b := true) (congrArg Value.bool (decide_eq_true hc8))) ?_); first | refine l_end ?_ | refine l_nil ?_
       by_cases hc9 : 0 < (i : Int)
       ·
        repeat refine c_seq ?_
        refine c_yes (by exact congrArg Value.bool (decide_eq_true hc9)) ?_; repeat refine c_seq ?_
        refine c_region ?_; refine l_op (o_val (r_asV (c64 0 (by decide))) ?_); refine l_op (o_val r_as ?_); refine l_op (o_val r_as ?_); first | refine l_end ?_ | refine l_nil ?_
        refine c_ret ?_; try dsimp only [Exit.then, Exit.inBlock]
        refine e_retN (vs := [V64 (0 : UInt64), VI 0, VI 4]) _ Try.results44 rfl (resT (v := V64 (0 : UInt64)) rfl (resT (v := VI 0) rfl (resT (v := VI 4) rfl (resZ)))) ?_
        refine ⟨_, rfl, ?_⟩
        refine ⟨0, 0, 4, rfl, .inr ⟨by decide, ?_⟩, by omega, H⟩
        first
          | exact noCnt_zero hway (by omega) (getD_get (by omega)) (by omega)
          | (have hi : i = 9 := by omega
             subst hi
             exact noCnt_high hway (getD_get (by omega)) (by omega))
       ·
        repeat refine c_seq ?_
        refine c_no (by exact congrArg Value.bool (decide_eq_false hc9)) ?_; refine c_skip ?_; repeat refine c_seq ?_
        refine c_region ?_; refine l_op (o_val r_mv ?_); refine l_op (o_val r_mv ?_); refine l_op (o_val r_mv ?_); refine l_op (o_val (r_bin rfl rfl (fun _ => b_mul_u64)) ?_); refine l_op (o_val (r_bin rfl rfl (fun _ => b_add_u64)) ?_); refine l_op (o_val r_mv ?_); refine l_op (o_val (r_bin (a := (i : Int)) (b := 1) rfl rfl (fun _ => b_add (by omega) (by omega))) ?_); refine l_op (o_val r_as ?_); refine l_op (o_val r_as ?_); refine l_op (o_val r_as ?_); first | refine l_end ?_ | refine l_nil ?_
        refine c_ret ?_; try dsimp only [Exit.then, Exit.inBlock]
        refine e_retN (vs := [V64 ((UInt64.ofNat n) + ((((s.l).getD i 0).toUInt64) * (UInt64.ofNat (128 ^ i)))), VI ((i : Int) + 1), VI 0]) _ Try.results44 rfl (resT (v := V64 ((UInt64.ofNat n) + ((((s.l).getD i 0).toUInt64) * (UInt64.ofNat (128 ^ i))))) rfl (resT (v := VI ((i : Int) + 1)) rfl (resT (v := VI 0) rfl (resZ)))) ?_
        refine ⟨_, rfl, ?_⟩
        refine ⟨_, i + 1, 0, rfl, ?_, by omega, H⟩
        rw [cnt_last _ n i (by omega)]
        exact cntRes_ok s.l i n _ hinv hi9 (by omega) (by omega) rfl (by omega) (by omega)
      ·
       refine l_no rfl rfl (by exact congrArg Value.bool (decide_eq_false hc8)) rfl ?_; refine l_no rfl rfl (by exact congrArg Value.bool (decide_eq_false hc8)) rfl ?_; refine l_op (o_val (r_pick (b := false) (congrArg Value.bool (decide_eq_false hc8))) ?_); first | refine l_end ?_ | refine l_nil ?_
       repeat refine c_seq ?_
       refine c_no rfl ?_; refine c_skip ?_; repeat refine c_seq ?_
       refine c_region ?_; refine l_op (o_val r_mv ?_); refine l_op (o_val r_mv ?_); refine l_op (o_val r_mv ?_); refine l_op (o_val (r_bin rfl rfl (fun _ => b_mul_u64)) ?_); refine l_op (o_val (r_bin rfl rfl (fun _ => b_add_u64)) ?_); refine l_op (o_val r_mv ?_); refine l_op (o_val (r_bin (a := (i : Int)) (b := 1) rfl rfl (fun _ => b_add (by omega) (by omega))) ?_); refine l_op (o_val r_as ?_); refine l_op (o_val r_as ?_); refine l_op (o_val r_as ?_); first | refine l_end ?_ | refine l_nil ?_
       refine c_ret ?_; try dsimp only [Exit.then, Exit.inBlock]
       refine e_retN (vs := [V64 ((UInt64.ofNat n) + ((((s.l).getD i 0).toUInt64) * (UInt64.ofNat (128 ^ i)))), VI ((i : Int) + 1), VI 0]) _ Try.results44 rfl (resT (v := V64 ((UInt64.ofNat n) + ((((s.l).getD i 0).toUInt64) * (UInt64.ofNat (128 ^ i))))) rfl (resT (v := VI ((i : Int) + 1)) rfl (resT (v := VI 0) rfl (resZ)))) ?_
       refine ⟨_, rfl, ?_⟩
       refine ⟨_, i + 1, 0, rfl, ?_, by omega, H⟩
       rw [cnt_last _ n i (by omega)]
       exact cntRes_ok s.l i n _ hinv hi9 (by omega) (by omega) rfl (by omega) (by omega)
     ·
      repeat refine c_seq ?_
      refine c_no (by exact congrArg Value.bool (decide_eq_false hc7)) ?_; refine c_skip ?_; repeat refine c_seq ?_
      refine c_region ?_; refine l_op (o_val r_mv ?_); refine l_op (o_val r_mv ?_); refine l_op (o_val (r_bin rfl (c64 128 (by decide)) (fun _ => b_sub_u64)) ?_); refine l_op (o_val r_mv ?_); refine l_op (o_val (r_bin rfl rfl (fun _ => b_mul_u64)) ?_); refine l_op (o_val (r_bin rfl rfl (fun _ => b_add_u64)) ?_); refine l_op (o_val r_as ?_); first | refine l_end ?_ | refine l_nil ?_
      repeat refine c_seq ?_
      refine c_region ?_; refine l_op (o_val r_mv ?_); refine l_op (o_val (r_bin rfl (c64 128 (by decide)) (fun _ => b_mul_u64)) ?_); refine l_op (o_val r_as ?_); first | refine l_end ?_ | refine l_nil ?_
      repeat refine c_seq ?_
      refine c_region ?_; refine l_op (o_val r_mv ?_); refine l_op (o_val (r_bin (a := (i : Int)) (b := 1) rfl rfl (fun _ => b_add (by omega) (by omega))) ?_); refine l_op (o_val r_as ?_); first | refine l_end ?_ | refine l_nil ?_
      refine round_end (i + 1, n + (s.l.getD i 0).toNat % 128 * 128 ^ i) ?_ ?_ ?_
      · exact ⟨rfl, show V64 ((UInt64.ofNat n) + (((((s.l).getD i 0).toUInt64) - (128 : UInt64)) * (UInt64.ofNat (128 ^ i)))) = V64 (UInt64.ofNat (n + (s.l.getD i 0).toNat % 128 * 128 ^ i : Nat)) from congrArg V64 (cnt_step _ n i (by omega)), show V64 ((UInt64.ofNat (128 ^ i)) * (128 : UInt64)) = V64 (UInt64.ofNat (128 ^ (i + 1 : Nat))) from congrArg V64 (cnt_unit i), show VI ((i : Int) + 1) = VI ((i + 1 : Nat) : Int) from congrArg VI (by omega), trivial⟩
      · refine ⟨?_, ?_⟩
        · try dsimp only
          exact ⟨by omega, by omega, cntInv_succ s.l i n _ hinv (by omega) rfl (by omega), cntWay_succ hway (getD_get (by omega)) (by omega)⟩
        · exact H
      · show s.len - (i + 1 : Nat) < s.len - i; omega
   ·
    refine l_no rfl rfl (by exact congrArg Value.bool (decide_eq_false hc5)) rfl ?_; refine l_no rfl rfl (by exact congrArg Value.bool (decide_eq_false hc5)) rfl ?_; refine l_op (o_val (r_pick (b := false) (congrArg Value.bool (decide_eq_false hc5))) ?_); first | refine l_end ?_ | refine l_nil ?_
    repeat refine c_seq ?_
    refine c_no rfl ?_; refine c_skip ?_; repeat refine c_seq ?_
    refine c_region ?_; refine l_op (o_val r_mv ?_); refine l_op (o_val (r_bin (a := ((((s.l).getD i 0).toUInt64).toNat : Int)) (b := 128) rfl rfl (fun _ => b_lss)) ?_); first | refine l_end ?_ | refine l_nil ?_
    by_cases hc10 : ((((s.l).getD i 0).toUInt64).toNat : Int) < 128
    ·
     repeat refine c_seq ?_
     refine c_yes (by exact congrArg Value.bool (decide_eq_true hc10)) ?_; repeat refine c_seq ?_
     refine c_region ?_; refine l_op (o_val r_mv ?_); refine l_op (o_val (r_bin (a := ((((s.l).getD i 0).toUInt64).toNat : Int)) (b := 0) rfl rfl (fun _ => b_eql)) ?_); refine l_op (o_val r_mv ?_)
     by_cases hc11 : ((((s.l).getD i 0).toUInt64).toNat : Int) = 0
     ·
      refine l_yes rfl rfl (by exact congrArg Value.bool (decide_eq_true hc11)) (o_val r_mv ?_); refine l_yes rfl rfl (by exact congrArg Value.bool (decide_eq_true hc11)) (o_val (r_bin (a := (i : Int)) (b := 0) rfl rfl (fun _ => b_gtr)) ?_); refine l_op (o_val (r_pick (b := true) (congrArg Value.bool (decide_eq_true hc11))) ?_); first | refine l_end ?_ | refine l_nil ?_
      by_cases hc12 : 0 < (i : Int)
      ·
       repeat refine c_seq ?_
       refine c_yes (by exact congrArg Value.bool (decide_eq_true hc12)) ?_; repeat refine c_seq ?_
       refine c_region ?_; refine l_op (o_val (r_asV (c64 0 (by decide))) ?_); refine l_op (o_val r_as ?_); refine l_op (o_val r_as ?_); first | refine l_end ?_ | refine l_nil ?_
       refine c_ret ?_; try dsimp only [Exit.then, Exit.inBlock]
       refine e_retN (vs := [V64 (0 : UInt64), VI 0, VI 4]) _ Try.results44 rfl (resT (v := V64 (0 : UInt64)) rfl (resT (v := VI 0) rfl (resT (v := VI 4) rfl (resZ)))) ?_
       refine ⟨_, rfl, ?_⟩
       refine ⟨0, 0, 4, rfl, .inr ⟨by decide, ?_⟩, by omega, H⟩
       first
         | exact noCnt_zero hway (by omega) (getD_get (by omega)) (by omega)
         | (have hi : i = 9 := by omega
            subst hi
            exact noCnt_high hway (getD_get (by omega)) (by omega))
      ·
       repeat refine c_seq ?_
       refine c_no (by exact congrArg Value.bool (decide_eq_false hc12)) ?_; refine c_skip ?_; repeat refine c_seq ?_
       refine c_region ?_; refine l_op (o_val r_mv ?_); refine l_op (o_val r_mv ?_); refine l_op (o_val r_mv ?_); refine l_op (o_val (r_bin rfl rfl (fun _ => b_mul_u64)) ?_); refine l_op (o_val (r_bin rfl rfl (fun _ => b_add_u64)) ?_); refine l_op (o_val r_mv ?_); refine l_op (o_val (r_bin (a := (i : Int)) (b := 1) rfl rfl (fun _ => b_add (by omega) (by omega))) ?_); refine l_op (o_val r_as ?_); refine l_op (o_val r_as ?_); refine l_op (o_val r_as ?_); first | refine l_end ?_ | refine l_nil ?_
       refine c_ret ?_; try dsimp only [Exit.then, Exit.inBlock]
       refine e_retN (vs := [V64 ((UInt64.ofNat n) + ((((s.l).getD i 0).toUInt64) * (UInt64.ofNat (128 ^ i)))), VI ((i : Int) + 1), VI 0]) _ Try.results44 rfl (resT (v := V64 ((UInt64.ofNat n) + ((((s.l).getD i 0).toUInt64) * (UInt64.ofNat (128 ^ i))))) rfl (resT (v := VI ((i : Int) + 1)) rfl (resT (v := VI 0) rfl (resZ)))) ?_
       refine ⟨_, rfl, ?_⟩
       refine ⟨_, i + 1, 0, rfl, ?_, by omega, H⟩
       rw [cnt_last _ n i (by omega)]
       exact cntRes_ok s.l i n _ hinv hi9 (by omega) (by omega) rfl (by omega) (by omega)
     ·
      refine l_no rfl rfl (by exact congrArg Value.bool (decide_eq_false hc11)) rfl ?_; refine l_no rfl rfl (by exact congrArg Value.bool (decide_eq_false hc11)) rfl ?_; refine l_op (o_val (r_pick (b := false) (congrArg Value.bool (decide_eq_false hc11))) ?_); first | refine l_end ?_ | refine l_nil ?_
      repeat refine c_seq ?_
      refine c_no rfl ?_; refine c_skip ?_; repeat refine c_seq ?_
      refine c_region ?_; refine l_op (o_val r_mv ?_); refine l_op (o_val r_mv ?_); refine l_op (o_val r_mv ?_); refine l_op (o_val (r_bin rfl rfl (fun _ => b_mul_u64)) ?_); refine l_op (o_val (r_bin rfl rfl (fun _ => b_add_u64)) ?_); refine l_op (o_val r_mv ?_); refine l_op (o_val (r_bin (a := (i : Int)) (b := 1) rfl rfl (fun _ => b_add (by omega) (by omega))) ?_); refine l_op (o_val r_as ?_); refine l_op (o_val r_as ?_); refine l_op (o_val r_as ?_); first | refine l_end ?_ | refine l_nil ?_
      refine c_ret ?_; try dsimp only [Exit.then, Exit.inBlock]
      refine e_retN (vs := [V64 ((UInt64.ofNat n) + ((((s.l).getD i 0).toUInt64) * (UInt64.ofNat (128 ^ i)))), VI ((i : Int) + 1), VI 0]) _ Try.results44 rfl (resT (v := V64 ((UInt64.ofNat n) + ((((s.l).getD i 0).toUInt64) * (UInt64.ofNat (128 ^ i))))) rfl (resT (v := VI ((i : Int) + 1)) rfl (resT (v := VI 0) rfl (resZ)))) ?_
      refine ⟨_, rfl, ?_⟩
      refine ⟨_, i + 1, 0, rfl, ?_, by omega, H⟩
      rw [cnt_last _ n i (by omega)]
      exact cntRes_ok s.l i n _ hinv hi9 (by omega) (by omega) rfl (by omega) (by omega)
    ·
     repeat refine c_seq ?_
     refine c_no (by exact congrArg Value.bool (decide_eq_false hc10)) ?_; refine c_skip ?_; repeat refine c_seq ?_
     refine c_region ?_; refine l_op (o_val r_mv ?_); refine l_op (o_val r_mv ?_); refine l_op (o_val (r_bin rfl (c64 128 (by decide)) (fun _ => b_sub_u64)) ?_); refine l_op (o_val r_mv ?_); refine l_op (o_val (r_bin rfl rfl (fun _ => b_mul_u64)) ?_); refine l_op (o_val (r_bin rfl rfl (fun _ => b_add_u64)) ?_); refine l_op (o_val r_as ?_); first | refine l_end ?_ | refine l_nil ?_
     repeat refine c_seq ?_
     refine c_region ?_; refine l_op (o_val r_mv ?_); refine l_op (o_val (r_bin rfl (c64 128 (by decide)) (fun _ => b_mul_u64)) ?_); refine l_op (o_val r_as ?_); first | refine l_end ?_ | refine l_nil ?_
     repeat refine c_seq ?_
     refine c_region ?_; refine l_op (o_val r_mv ?_); refine l_op (o_val (r_bin (a := (i : Int)) (b := 1) rfl rfl (fun _ => b_add (by omega) (by omega))) ?_); refine l_op (o_val r_as ?_); first | refine l_end ?_ | refine l_nil ?_
     refine round_end (i + 1, n + (s.l.getD i 0).toNat % 128 * 128 ^ i) ?_ ?_ ?_
     · exact ⟨rfl, show V64 ((UInt64.ofNat n) + (((((s.l).getD i 0).toUInt64) - (128 : UInt64)) * (UInt64.ofNat (128 ^ i)))) = V64 (UInt64.ofNat (n + (s.l.getD i 0).toNat % 128 * 128 ^ i : Nat)) from congrArg V64 (cnt_step _ n i (by omega)), show V64 ((UInt64.ofNat (128 ^ i)) * (128 : UInt64)) = V64 (UInt64.ofNat (128 ^ (i + 1 : Nat))) from congrArg V64 (cnt_unit i), show VI ((i : Int) + 1) = VI ((i + 1 : Nat) : Int) from congrArg VI (by omega), trivial⟩
     · refine ⟨?_, ?_⟩
       · try dsimp only
         exact ⟨by omega, by omega, cntInv_succ s.l i n _ hinv (by omega) rfl (by omega), cntWay_succ hway (getD_get (by omega)) (by omega)⟩
       · exact H
     · show s.len - (i + 1 : Nat) < s.len - i; omega
  ·
   repeat refine c_seq ?_
   refine c_no (by exact congrArg Value.bool (decide_eq_false hc1)) ?_; refine c_exit ?_; repeat refine c_seq ?_
   refine c_region ?_; refine l_op (o_val (r_asV (c64 0 (by decide))) ?_); refine l_op (o_val r_as ?_); refine l_op (o_val r_as ?_); first | refine l_end ?_ | refine l_nil ?_
   refine c_ret ?_; try dsimp only [Exit.then, Exit.inBlock]
   refine e_retN (vs := [V64 (0 : UInt64), VI 0, VI 3]) _ Try.results44 rfl (resT (v := V64 (0 : UInt64)) rfl (resT (v := VI 0) rfl (resT (v := VI 3) rfl (resZ)))) ?_
   refine ⟨_, rfl, ?_⟩
   exact ⟨0, 0, 3, rfl, .inr ⟨by decide, noCnt_short hway (by omega)⟩, by omega, H⟩
theorem takeText1_ret (w0 : World) (s : Sl) (hs : s.ok w0) (hm : s.len ≤ 1048576) :
    Ret Try.prog 43 [s.v] w0 fun v w' => ∃ (a : Option Nat) (c : Nat) (t : List UInt8) (k : Nat) (e : Int), v = .tuple #[.slice (hd a) t.length c, VI (k : Int), VI e] ∧ TxtRes s.l t k e ∧ k ≤ s.l.length ∧ Hp w0 w' [] [.own a t.length c (t.map V8) 5 1] := by
  refine ret_mk Try.func43 rfl Try.ntmps43 (by simp) ?_
  have H := Hp.refl w0 []
  have hsl := hs.ln
  have hle := hs.le
  repeat refine c_seq ?_
  refine c_region ?_; refine l_op (o_val r_as ?_); refine l_op (o_val r_as ?_); refine l_op (o_val r_as ?_); first | refine l_end ?_ | refine l_nil ?_
  repeat refine c_seq ?_
  refine c_region ?_; refine l_op (o_val r_mv ?_); refine l_op (o_callR Try.func44 rfl rfl rfl (takeCount1_ret _ s (hs.up H (fun _ => apart_nil _)) (by (try simp only [Sl.cut]); omega)) ?_); rintro _ w ⟨x1, k2, e3, rfl, hco4, hkk5, Hc⟩
  replace H : Hp _ w _ ([]) := H.call Hc
  clear Hc
  have hkk5n : k2 ≤ (s.l).length := hkk5
  try simp only [List.length_take, List.length_drop] at hkk5n
  refine l_op (o_val r_mv ?_); refine l_op (o_val (r_ext rfl rfl) ?_); refine l_op (o_val (r_ext rfl rfl) ?_); refine l_op (o_val (r_ext rfl rfl) ?_); refine l_op (o_val r_as ?_); refine l_op (o_val r_as ?_); refine l_op (o_val r_as ?_); first | refine l_end ?_ | refine l_nil ?_
  have hkl : e3 = 0 → k2 ≤ s.l.length := fun h => hco4.elim (fun h1 => h1.2.1) (fun h1 => absurd h h1.1)
  repeat refine c_seq ?_
  refine c_region ?_; refine l_op (o_val r_mv ?_); refine l_op (o_val (r_bin (a := e3) (b := 0) rfl rfl (fun _ => b_neq)) ?_); first | refine l_end ?_ | refine l_nil ?_
  by_cases hc6 : e3 ≠ 0
  ·
   repeat refine c_seq ?_
   refine c_yes (by exact congrArg Value.bool (decide_eq_true hc6)) ?_; repeat refine c_seq ?_
   refine c_region ?_; refine l_op (o_val r_mv ?_); refine l_op (o_val r_as ?_); refine l_op (o_val r_as ?_); refine l_op (o_val r_as ?_); first | refine l_end ?_ | refine l_nil ?_
   refine c_ret ?_; try dsimp only [Exit.then, Exit.inBlock]
   refine e_retN (vs := [.slice none 0 0, VI 0, VI e3]) _ Try.results43 rfl (resT (v := .slice none 0 0) rfl (resT (v := VI 0) rfl (resT (v := VI e3) rfl (resZ)))) ?_
   refine ⟨_, rfl, ?_⟩
   exact ⟨none, 0, [], 0, _, rfl, txtRes_bad hco4 (by first | decide | (intro h; omega)) (by omega), by omega, (H.sub (List.nil_sublist _)).nilEnd 5 1⟩
  ·
   repeat refine c_seq ?_
   refine c_no (by exact congrArg Value.bool (decide_eq_false hc6)) ?_; refine c_skip ?_; repeat refine c_seq ?_
   refine c_region ?_; refine l_op (o_val r_mv ?_); refine l_op (o_val (r_bin (a := (x1.toNat : Int)) (b := 65536) rfl rfl (fun _ => b_gtr)) ?_); first | refine l_end ?_ | refine l_nil ?_
   by_cases hc7 : 65536 < (x1.toNat : Int)
   ·
    repeat refine c_seq ?_
    refine c_yes (by exact congrArg Value.bool (decide_eq_true hc7)) ?_; repeat refine c_seq ?_
    refine c_region ?_; refine l_op (o_val r_as ?_); refine l_op (o_val r_as ?_); refine l_op (o_val r_as ?_); first | refine l_end ?_ | refine l_nil ?_
    refine c_ret ?_; try dsimp only [Exit.then, Exit.inBlock]
    refine e_retN (vs := [.slice none 0 0, VI 0, VI 2]) _ Try.results43 rfl (resT (v := .slice none 0 0) rfl (resT (v := VI 0) rfl (resT (v := VI 2) rfl (resZ)))) ?_
    refine ⟨_, rfl, ?_⟩
    exact ⟨none, 0, [], 0, _, rfl, txtRes_bad hco4 (by first | decide | (intro h; omega)) (by omega), by omega, (H.sub (List.nil_sublist _)).nilEnd 5 1⟩
   ·
    repeat refine c_seq ?_
    refine c_no (by exact congrArg Value.bool (decide_eq_false hc7)) ?_; refine c_skip ?_; repeat refine c_seq ?_
    refine c_region ?_; refine l_op (o_val r_mv ?_); refine l_op (o_val (r_conv Try.underlying91 Try.underlying3 rfl (w_i64_64 (by omega))) ?_); refine l_op (o_val r_mv ?_); refine l_op (o_val (r_lens el32 rfl) ?_); refine l_op (o_val r_mv ?_); refine l_op (o_val (r_bin (a := (s.len : Int)) (b := (k2 : Int)) rfl rfl (fun _ => b_sub (by omega) (by omega))) ?_); refine l_op (o_val (r_bin (a := (x1.toNat : Int)) (b := (s.len : Int) - (k2 : Int)) rfl rfl (fun _ => b_gtr)) ?_); first | refine l_end ?_ | refine l_nil ?_
    by_cases hc8 : (s.len : Int) - (k2 : Int) < (x1.toNat : Int)
    ·
     repeat refine c_seq ?_
     refine c_yes (by exact congrArg Value.bool (decide_eq_true hc8)) ?_; repeat refine c_seq ?_
     refine c_region ?_; refine l_op (o_val r_as ?_); refine l_op (o_val r_as ?_); refine l_op (o_val r_as ?_); first | refine l_end ?_ | refine l_nil ?_
     refine c_ret ?_; try dsimp only [Exit.then, Exit.inBlock]
     refine e_retN (vs := [.slice none 0 0, VI 0, VI 3]) _ Try.results43 rfl (resT (v := .slice none 0 0) rfl (resT (v := VI 0) rfl (resT (v := VI 3) rfl (resZ)))) ?_
     refine ⟨_, rfl, ?_⟩
     exact ⟨none, 0, [], 0, _, rfl, txtRes_bad hco4 (by first | decide | (intro h; omega)) (by omega), by omega, (H.sub (List.nil_sublist _)).nilEnd 5 1⟩
    ·
     repeat refine c_seq ?_
     refine c_no (by exact congrArg Value.bool (decide_eq_false hc8)) ?_; refine c_skip ?_; repeat refine c_seq ?_
     refine c_region ?_; refine l_op (o_bslB (([] : List UInt8)) H sl32 zc5 rfl rfl (by decide) (fun b9 w H hb9 => ?_)); replace H : Hp _ w _ ([.own (some b9) 0 0 ((([] : List UInt8)).map V8) 5 1]) := H
     refine l_op (o_val r_mv ?_); refine l_op (o_val r_mv ?_); refine l_op (o_val r_mv ?_); refine l_op (o_val r_mv ?_); refine l_op (o_val (r_conv Try.underlying91 Try.underlying3 rfl (w_i64_64 (by omega))) ?_); refine l_op (o_val (r_bin (a := (k2 : Int)) (b := (x1.toNat : Int)) rfl rfl (fun _ => b_add (by omega) (by omega))) ?_); refine l_op (o_val (r_slS (s := s) k2 (k2 + x1.toNat) s.cap (lv := some (VI (k2 : Int))) (hv := some (VI ((k2 : Int) + (x1.toNat : Int)))) (mv := none) rfl el32 rfl rfl rfl (fun w => by exact sblh k2 (k2 + x1.toNat) (by omega) (by omega) (by (try simp only [Sl.cut]); omega) (by (try simp only [Sl.cut]); omega) w)) ?_); refine l_op (o_appB (s := (Sl.cut s k2 (k2 + x1.toNat) s.cap)) (l' := ((s.l).drop k2).take (k2 + x1.toNat - k2)) (len' := k2 + x1.toNat - k2) rfl (Nat.zero_add _) H (i := 0) rfl sl32 Try.underlying32 rfl rfl ((hs.up H (fun _ => apart_nil _)).cut (l := k2) (h := k2 + x1.toNat) (m := s.cap) (by omega) (by (try simp only [Sl.cut]); omega) (by omega) (by (try simp only [Sl.cut]); omega)) (by omega) (fun a10 c11 w H => ?_)); replace H : Hp _ w _ ([.own a10 (k2 + x1.toNat - k2) c11 ((((s.l).drop k2).take (k2 + x1.toNat - k2)).map V8) 5 1]) := H
     refine l_op (o_val r_mv ?_); refine l_op (o_val r_mv ?_); refine l_op (o_val (r_conv Try.underlying91 Try.underlying3 rfl (w_i64_64 (by omega))) ?_); refine l_op (o_val (r_bin (a := (k2 : Int)) (b := (x1.toNat : Int)) rfl rfl (fun _ => b_add (by omega) (by omega))) ?_); refine l_op (o_val r_as ?_); refine l_op (o_val r_as ?_); refine l_op (o_val r_as ?_); first | refine l_end ?_ | refine l_nil ?_
     refine c_ret ?_; try dsimp only [Exit.then, Exit.inBlock]
     refine e_retN (vs := [.slice (hd a10) (k2 + x1.toNat - k2) c11, VI ((k2 : Int) + (x1.toNat : Int)), VI 0]) _ Try.results43 rfl (resT (v := .slice (hd a10) (k2 + x1.toNat - k2) c11) rfl (resT (v := VI ((k2 : Int) + (x1.toNat : Int))) rfl (resT (v := VI 0) rfl (resZ)))) ?_
     refine ⟨_, rfl, ?_⟩
     have he0 : e3 = 0 := by omega
     subst he0
     have hto := txtRes_ok hco4 (by omega) (by omega)
     have hl : ((s.l.drop k2).take x1.toNat).length = x1.toNat := by simp; omega
     have e1 : ((s.l).drop k2).take (k2 + x1.toNat - k2) = (s.l.drop k2).take x1.toNat := by (try rw [List.nil_append]); congr 1; omega
     have e2 : k2 + x1.toNat - k2 = ((s.l.drop k2).take x1.toNat).length := by omega
     rw [e1, e2] at H
     rw [e2]
     exact ⟨_, _, _, _, _, rfl, hto, by omega, H.sub (.cons_cons _ (List.nil_sublist _))⟩
theorem count1_ret (w0 : World) (s : Sl) (hs : s.ok w0) (u : UInt64) (hm : s.len ≤ 1048576) :
    Ret Try.prog 55 [s.v, V64 u] w0 fun v w' => ∃ a c, v = .slice (hd a) (s.l ++ cnt u.toNat).length c ∧ Hp w0 w' [] [.own a (s.l ++ cnt u.toNat).length c ((s.l ++ cnt u.toNat).map V8) 5 1] := by
  refine ret_mk Try.func55 rfl Try.ntmps55 (by simp) ?_
  have H := Hp.refl w0 []
  have hsl := hs.ln
  have hle := hs.le
  repeat refine c_seq ?_
  refine c_region ?_; refine l_op (o_val r_as ?_); first | refine l_end ?_ | refine l_nil ?_
  repeat refine c_seq ?_
  refine c_region ?_; refine l_op (o_bslB (([] : List UInt8)) H sl32 zc5 rfl rfl (by decide) (fun b1 w H hb1 => ?_)); replace H : Hp _ w _ ([.own (some b1) 0 0 ((([] : List UInt8)).map V8) 5 1]) := H
  refine l_op (o_val r_mv ?_); refine l_op (o_appB (s := s) (l' := s.l) (len' := s.l.length) (List.nil_append _) (by omega) H (i := 0) rfl sl32 Try.underlying32 rfl rfl (hs.up H (fun _ => apart_nil _)) (by omega) (fun a2 c3 w H => ?_)); replace H : Hp _ w _ ([.own a2 s.l.length c3 ((s.l).map V8) 5 1]) := H
  refine l_op (o_val r_as ?_); first | refine l_end ?_ | refine l_nil ?_
  repeat refine c_seq ?_
  refine c_block ?_; repeat refine c_seq ?_
  refine c_loop4 (fun (x : UInt64) (l : List UInt8) (a : Option Nat) (c : Nat) => [(1, V64 x), (5, .slice (hd a) l.length c)])
    (fun (x : UInt64) (l : List UInt8) (a : Option Nat) (c : Nat) w => (l ++ cnt x.toNat = s.l ++ cnt u.toNat) ∧ Hp w0 w [] ([.own a l.length c ((l).map V8) 5 1]))
    (fun (x : UInt64) (l : List UInt8) (a : Option Nat) (c : Nat) => x.toNat) u s.l a2 c3 ⟨rfl, rfl, trivial⟩ ⟨rfl, H⟩ ?_
  clear H
  rintro x l a c τ w ⟨hl, H⟩
  have hlen := congrArg List.length hl
  rw [List.length_append, List.length_append] at hlen
  have hc10 := cnt_len10 u.toNat (by have := u.toNat_lt; omega)
  repeat refine c_seq ?_
  refine c_region ?_; refine l_op (o_val r_mv ?_); refine l_op (o_val (r_bin (a := (x.toNat : Int)) (b := 128) rfl rfl (fun _ => b_geq)) ?_); first | refine l_end ?_ | refine l_nil ?_
  by_cases hc4 : 128 ≤ (x.toNat : Int)
  ·
   repeat refine c_seq ?_
   refine c_yes (by exact congrArg Value.bool (decide_eq_true hc4)) ?_; refine c_skip ?_; repeat refine c_seq ?_
   refine c_block ?_; repeat refine c_seq ?_
   refine c_region ?_; refine l_op (o_val r_mv ?_); refine l_op (o_val r_mv ?_); refine l_op (o_val (r_bin rfl (c64 128 (by decide)) (fun _ => b_rem_u64 (by decide))) ?_); refine l_op (o_val (r_bin rfl (c64 128 (by decide)) (fun _ => b_add_u64)) ?_); refine l_op (o_val (r_conv Try.underlying91 Try.underlying5 rfl (w_u8_64 _)) ?_); refine l_op (o_bslB ([((x % (128 : UInt64)) + (128 : UInt64)).toUInt8]) H sl32 zc5 rfl rfl (by decide) (fun b5 w H hb5 => ?_)); replace H : Hp _ w _ ([_, .own (some b5) 1 1 (([((x % (128 : UInt64)) + (128 : UInt64)).toUInt8]).map V8) 5 1]) := H
   refine l_op (o_appB (s := ⟨hd (some b5), 1, 1, [((x % (128 : UInt64)) + (128 : UInt64)).toUInt8]⟩) (l' := l ++ ([((x % (128 : UInt64)) + (128 : UInt64)).toUInt8])) (len' := (l ++ ([((x % (128 : UInt64)) + (128 : UInt64)).toUInt8])).length) rfl (by rw [List.length_append]; rfl) H (i := 0) rfl sl32 Try.underlying32 rfl rfl (H.slOwn (i := 1) rfl) (by rw [List.length_append, List.length_singleton]; omega) (fun a6 c7 w H => ?_)); replace H : Hp _ w _ ([.own a6 ((l ++ ([((x % (128 : UInt64)) + (128 : UInt64)).toUInt8])).length) c7 ((l ++ ([((x % (128 : UInt64)) + (128 : UInt64)).toUInt8])).map V8) 5 1, _]) := H
   refine l_op (o_val r_as ?_); first | refine l_end ?_ | refine l_nil ?_
   repeat refine c_seq ?_
   refine c_region ?_; refine l_op (o_val r_mv ?_); refine l_op (o_val (r_bin rfl (c64 128 (by decide)) (fun _ => b_quo_u64 (by decide))) ?_); refine l_op (o_val r_as ?_); first | refine l_end ?_ | refine l_nil ?_
   refine round_end (x / (128 : UInt64), l ++ ([((x % (128 : UInt64)) + (128 : UInt64)).toUInt8]), a6, c7) ?_ ?_ ?_
   · exact ⟨show V64 (x / (128 : UInt64)) = V64 (x / (128 : UInt64) : UInt64) from congrArg V64 rfl, rfl, trivial⟩
   · refine ⟨?_, ?_⟩
     · try dsimp only
       exact (by rw [cnt_big64 x (by omega)] at hl; simpa using hl)
     · exact H.sub (.cons_cons _ (List.nil_sublist _))
   · show (x / 128).toNat < x.toNat; rw [div128]; omega
  ·
   repeat refine c_seq ?_
   refine c_no (by exact congrArg Value.bool (decide_eq_false hc4)) ?_; refine c_exit ?_; repeat refine c_seq ?_
   refine c_region ?_; refine l_op (o_val r_mv ?_); refine l_op (o_val r_mv ?_); refine l_op (o_val (r_conv Try.underlying91 Try.underlying5 rfl (w_u8_64 _)) ?_); refine l_op (o_bslB ([x.toUInt8]) H sl32 zc5 rfl rfl (by decide) (fun b8 w H hb8 => ?_)); replace H : Hp _ w _ ([_, .own (some b8) 1 1 (([x.toUInt8]).map V8) 5 1]) := H
   refine l_op (o_appB (s := ⟨hd (some b8), 1, 1, [x.toUInt8]⟩) (l' := l ++ ([x.toUInt8])) (len' := (l ++ ([x.toUInt8])).length) rfl (by rw [List.length_append]; rfl) H (i := 0) rfl sl32 Try.underlying32 rfl rfl (H.slOwn (i := 1) rfl) (by rw [List.length_append, List.length_singleton]; omega) (fun a9 c10 w H => ?_)); replace H : Hp _ w _ ([.own a9 ((l ++ ([x.toUInt8])).length) c10 ((l ++ ([x.toUInt8])).map V8) 5 1, _]) := H
   refine l_op (o_val r_as ?_); first | refine l_end ?_ | refine l_nil ?_
   refine c_ret ?_; try dsimp only [Exit.then, Exit.inBlock]
   refine e_ret1 (v := .slice (hd a9) ((l ++ ([x.toUInt8])).length) c10) Try.results55 rfl ?_
   refine ⟨_, rfl, ?_⟩
   have e : l ++ [x.toUInt8] = s.l ++ cnt u.toNat := by rw [← hl, cnt_one64 x (by omega)]
   rw [e] at H
   rw [e]
   exact ⟨_, _, rfl, H.sub (.cons_cons _ (List.nil_sublist _))⟩
theorem text1_ret (w0 : World) (s u : Sl) (hs : s.ok w0) (hu : u.ok w0) (hm : s.len ≤ 1048566) (hn : u.len ≤ 65536) :
    Ret Try.prog 56 [s.v, u.v] w0 fun v w' => ∃ a c, v = .tuple #[.slice (hd a) ((s.l ++ cnt u.l.length) ++ u.l).length c, VI 0] ∧ Hp w0 w' [] [.own a ((s.l ++ cnt u.l.length) ++ u.l).length c (((s.l ++ cnt u.l.length) ++ u.l).map V8) 5 1] := by
  refine ret_mk Try.func56 rfl Try.ntmps56 (by simp) ?_
  have H := Hp.refl w0 []
  have hsl := hs.ln
  have hul := hu.ln
  repeat refine c_seq ?_
  refine c_region ?_; refine l_op (o_val r_as ?_); refine l_op (o_val r_as ?_); first | refine l_end ?_ | refine l_nil ?_
  repeat refine c_seq ?_
  refine c_region ?_; refine l_op (o_val r_mv ?_); refine l_op (o_val (r_lens el32 rfl) ?_); refine l_op (o_val (r_bin (a := (u.len : Int)) (b := 65536) rfl rfl (fun _ => b_gtrB false (decide_eq_false (by omega)))) ?_); first | refine l_end ?_ | refine l_nil ?_
  repeat refine c_seq ?_
  refine c_no rfl ?_; refine c_skip ?_; repeat refine c_seq ?_
  refine c_region ?_; refine l_op (o_val r_mv ?_); refine l_op (o_val r_mv ?_); refine l_op (o_val (r_lens el32 rfl) ?_); refine l_op (o_val (r_conv (v := ((UInt64.ofNat u.len).toNat : Int)) Try.underlying3 Try.underlying91 rfl (w_u64_N u.len (by omega))) ?_); refine l_op (o_callR Try.func55 rfl rfl rfl (count1_ret _ s (hs.up H (fun _ => apart_nil _)) (UInt64.ofNat u.len) (by (try simp only [List.length_cons, List.length_nil]); omega)) ?_); rintro _ w ⟨a1, c2, rfl, Hc⟩
  replace H : Hp _ w _ ([.own a1 ((s.l ++ cnt (UInt64.ofNat u.len).toNat).length) c2 (((s.l ++ cnt (UInt64.ofNat u.len).toNat)).map V8) 5 1]) := H.call Hc
  clear Hc
  have a1n := len_cnt s.l (UInt64.ofNat u.len).toNat (UInt64.toNat_lt _)
  refine l_op (o_val r_mv ?_); refine l_op (o_appB (s := u) (l' := (s.l ++ cnt (UInt64.ofNat u.len).toNat) ++ u.l) (len' := (s.l ++ cnt (UInt64.ofNat u.len).toNat).length + u.len) rfl rfl H (i := 0) rfl sl32 Try.underlying32 rfl rfl (hu.up H (fun _ => apart_nil _)) (by omega) (fun a3 c4 w H => ?_)); replace H : Hp _ w _ ([.own a3 ((s.l ++ cnt (UInt64.ofNat u.len).toNat).length + u.len) c4 (((s.l ++ cnt (UInt64.ofNat u.len).toNat) ++ u.l).map V8) 5 1]) := H
  refine l_op (o_val r_as ?_); refine l_op (o_val r_as ?_); first | refine l_end ?_ | refine l_nil ?_
  refine c_ret ?_; try dsimp only [Exit.then, Exit.inBlock]
  refine e_retN (vs := [.slice (hd a3) ((s.l ++ cnt (UInt64.ofNat u.len).toNat).length + u.len) c4, VI 0]) _ Try.results56 rfl (resT (v := .slice (hd a3) ((s.l ++ cnt (UInt64.ofNat u.len).toNat).length + u.len) c4) rfl (resT (v := VI 0) rfl (resZ))) ?_
  refine ⟨_, rfl, ?_⟩
  have e : (s.l ++ cnt (UInt64.ofNat u.len).toNat) ++ u.l = (s.l ++ cnt u.l.length) ++ u.l := by rw [ofNat_nat _ (by omega), hul]
  have e2 : (s.l ++ cnt (UInt64.ofNat u.len).toNat).length + u.len = ((s.l ++ cnt u.l.length) ++ u.l).length := by rw [← e]; simp only [List.length_append]; omega
  rw [e, e2] at H
  rw [e2]
  exact ⟨_, _, rfl, H.sub (.cons_cons _ (List.nil_sublist _))⟩
theorem all_getD {s : List UInt8} (h : ∀ j, j < s.length → s.getD j 0 ≠ 47 ∧ s.getD j 0 ≠ 0) : ∀ c ∈ s, c ≠ 47 ∧ c ≠ 0 := fun c hc => by
  obtain ⟨j, hj, e⟩ := List.mem_iff_getElem.1 hc
  have := h j hj
  rw [List.getD_eq_getElem?_getD, List.getElem?_eq_getElem hj, Option.getD_some, e] at this
  exact this
theorem getD_mem {s : List UInt8} {i : Nat} (h : i < s.length) : s.getD i 0 ∈ s := by
  rw [List.getD_eq_getElem?_getD, List.getElem?_eq_getElem h]; exact List.getElem_mem h
theorem mayName15_ret (w0 : World) (s : List UInt8) (hl : s.length ≤ 1099511627776) :
    Ret Try.prog 68 [.string ⟨(s).toArray⟩] w0 fun v w' => v = .bool (decide (NameOk s)) ∧ w' = w0 := by
  refine ret_mk Try.func68 rfl Try.ntmps68 (by simp) ?_
  have H := Hp.refl w0 []
  repeat refine c_seq ?_
  refine c_region ?_; refine l_op (o_val r_as ?_); first | refine l_end ?_ | refine l_nil ?_
  repeat refine c_seq ?_
  refine c_region ?_; refine l_op (o_val r_as ?_); first | refine l_end ?_ | refine l_nil ?_
  repeat refine c_seq ?_
  refine c_block ?_; repeat refine c_seq ?_
  refine c_loop (fun (i : Nat) => [(0, .string ⟨(s).toArray⟩), (3, VI (i : Int))])
    (fun (i : Nat) w => (w = w0 ∧ i ≤ s.length ∧ ∀ j, j < i → s.getD j 0 ≠ 47 ∧ s.getD j 0 ≠ 0) ∧ Hp w0 w [] ([]))
    (fun (i : Nat) => s.length - i) 0 ⟨rfl, rfl, trivial⟩ ⟨⟨rfl, Nat.zero_le _, fun j hj => absurd hj (by omega)⟩, H⟩ ?_
  clear H
  rintro i τ w ⟨⟨hw0, hil, hinv⟩, H⟩
  repeat refine c_seq ?_
  refine c_region ?_; refine l_op (o_val r_mv ?_); refine l_op (o_val r_mv ?_); refine l_op (o_val (r_lenstr (s := ⟨(s).toArray⟩) Try.underlying9 rfl) ?_); refine l_op (o_val (r_bin (a := (i : Int)) (b := ((s).length : Int)) rfl rfl (fun _ => b_lss)) ?_); first | refine l_end ?_ | refine l_nil ?_
  by_cases hc1 : (i : Int) < ((s).length : Int)
  ·
   repeat refine c_seq ?_
   refine c_yes (by exact congrArg Value.bool (decide_eq_true hc1)) ?_; refine c_skip ?_; repeat refine c_seq ?_
   refine c_block ?_; repeat refine c_seq ?_
   refine c_region ?_; refine l_op (o_val r_mv ?_); refine l_op (o_val r_mv ?_); refine l_op (o_val (r_idxS (l := s) i Try.underlying9 rfl rfl (by omega) (by omega)) ?_); refine l_op (o_val (r_bin (a := (((s).getD i 0).toNat : Int)) (b := 47) rfl rfl (fun _ => b_eql)) ?_); refine l_op (o_val r_mv ?_)
   by_cases hc2 : (((s).getD i 0).toNat : Int) = 47
   ·
    refine l_no rfl rfl (by exact congrArg Value.bool (decide_eq_true hc2)) rfl ?_; refine l_no rfl rfl (by exact congrArg Value.bool (decide_eq_true hc2)) rfl ?_; refine l_no rfl rfl (by exact congrArg Value.bool (decide_eq_true hc2)) rfl ?_; refine l_no rfl rfl (by exact congrArg Value.bool (decide_eq_true hc2)) rfl ?_; refine l_op (o_val (r_pick (b := true) (congrArg Value.bool (decide_eq_true hc2))) ?_); first | refine l_end ?_ | refine l_nil ?_
    repeat refine c_seq ?_
    refine c_yes rfl ?_; repeat refine c_seq ?_
    refine c_region ?_; refine l_op (o_val r_as ?_); first | refine l_end ?_ | refine l_nil ?_
    refine c_ret ?_; try dsimp only [Exit.then, Exit.inBlock]
    refine e_ret1 (v := .bool false) Try.results68 rfl ?_
    refine ⟨_, rfl, ?_⟩
    exact ⟨congrArg Value.bool (decide_eq_false (fun h : NameOk s => by obtain ⟨h1, h2, h3, h4, h5⟩ := h; first | omega | contradiction | (have := h1 _ (getD_mem (i := i) (by omega)); have e1 := this.1; have e2 := this.2; first | exact e1 (UInt8.toNat_inj.1 (by show _ = 47; omega)) | exact e2 (UInt8.toNat_inj.1 (by show _ = 0; omega))))).symm, hw0⟩
   ·
    refine l_yes rfl rfl (by exact congrArg Value.bool (decide_eq_false hc2)) (o_val r_mv ?_); refine l_yes rfl rfl (by exact congrArg Value.bool (decide_eq_false hc2)) (o_val r_mv ?_); refine l_yes rfl rfl (by exact congrArg Value.bool (decide_eq_false hc2)) (o_val (r_idxS (l := s) i Try.underlying9 rfl rfl (by omega) (by omega)) ?_); refine l_yes rfl rfl (by exact congrArg Value.bool (decide_eq_false hc2)) (o_val (r_bin (a := (((s).getD i 0).toNat : Int)) (b := 0) rfl rfl (fun _ => b_eql)) ?_); refine l_op (o_val (r_pick (b := false) (congrArg Value.bool (decide_eq_false hc2))) ?_); first | refine l_end ?_ | refine l_nil ?_
    by_cases hc3 : (((s).getD i 0).toNat : Int) = 0
    ·
     repeat refine c_seq ?_
     refine c_yes (by exact congrArg Value.bool (decide_eq_true hc3)) ?_; repeat refine c_seq ?_
     refine c_region ?_; refine l_op (o_val r_as ?_); first | refine l_end ?_ | refine l_nil ?_
     refine c_ret ?_; try dsimp only [Exit.then, Exit.inBlock]
     refine e_ret1 (v := .bool false) Try.results68 rfl ?_
     refine ⟨_, rfl, ?_⟩
     exact ⟨congrArg Value.bool (decide_eq_false (fun h : NameOk s => by obtain ⟨h1, h2, h3, h4, h5⟩ := h; first | omega | contradiction | (have := h1 _ (getD_mem (i := i) (by omega)); have e1 := this.1; have e2 := this.2; first | exact e1 (UInt8.toNat_inj.1 (by show _ = 47; omega)) | exact e2 (UInt8.toNat_inj.1 (by show _ = 0; omega))))).symm, hw0⟩
    ·
     repeat refine c_seq ?_
     refine c_no (by exact congrArg Value.bool (decide_eq_false hc3)) ?_; refine c_skip ?_; repeat refine c_seq ?_
     refine c_region ?_; refine l_op (o_val r_mv ?_); refine l_op (o_val (r_bin (a := (i : Int)) (b := 1) rfl rfl (fun _ => b_add (by omega) (by omega))) ?_); refine l_op (o_val r_as ?_); first | refine l_end ?_ | refine l_nil ?_
     have hat : s.getD i 0 ≠ 47 ∧ s.getD i 0 ≠ 0 := ⟨fun h => (by have := congrArg UInt8.toNat h; rw [show (47 : UInt8).toNat = 47 from rfl] at this; omega), fun h => (by have := congrArg UInt8.toNat h; rw [show (0 : UInt8).toNat = 0 from rfl] at this; omega)⟩
     refine round_end (i + 1) ?_ ?_ ?_
     · exact ⟨rfl, show VI ((i : Int) + 1) = VI ((i + 1 : Nat) : Int) from congrArg VI (by omega), trivial⟩
     · refine ⟨?_, ?_⟩
       · try dsimp only
         exact ⟨hw0, by omega, fun j hj => (Nat.lt_or_ge j i).elim (hinv j) (fun h => (show i = j by omega) ▸ hat)⟩
       · exact H
     · show s.length - (i + 1 : Nat) < s.length - i; omega
  ·
   repeat refine c_seq ?_
   refine c_no (by exact congrArg Value.bool (decide_eq_false hc1)) ?_; refine c_exit ?_; repeat refine c_seq ?_
   refine c_region ?_; refine l_op (o_val r_mv ?_); refine l_op (o_val (r_lenstr (s := ⟨(s).toArray⟩) Try.underlying9 rfl) ?_); refine l_op (o_val (r_bin (a := ((s).length : Int)) (b := 1) rfl rfl (fun _ => b_geq)) ?_); refine l_op (o_val r_mv ?_)
   by_cases hc4 : 1 ≤ ((s).length : Int)
   ·
    refine l_yes rfl rfl (by exact congrArg Value.bool (decide_eq_true hc4)) (o_val r_mv ?_); refine l_yes rfl rfl (by exact congrArg Value.bool (decide_eq_true hc4)) (o_val (r_lenstr (s := ⟨(s).toArray⟩) Try.underlying9 rfl) ?_); refine l_yes rfl rfl (by exact congrArg Value.bool (decide_eq_true hc4)) (o_val (r_bin (a := ((s).length : Int)) (b := 64) rfl rfl (fun _ => b_leq)) ?_); refine l_op (o_val (r_pick (b := true) (congrArg Value.bool (decide_eq_true hc4))) ?_); refine l_op (o_val r_mv ?_)
    by_cases hc5 : ((s).length : Int) ≤ 64
    ·
     refine l_yes rfl rfl (by exact congrArg Value.bool (decide_eq_true hc5)) (o_val r_mv ?_); refine l_yes rfl rfl (by exact congrArg Value.bool (decide_eq_true hc5)) (o_val (r_strne (a := s) (b := ([46] : List UInt8)) rfl rfl) ?_); refine l_op (o_val (r_pick (b := true) (congrArg Value.bool (decide_eq_true hc5))) ?_); refine l_op (o_val r_mv ?_)
     by_cases hc6 : s = ([46] : List UInt8)
     ·
      refine l_no rfl rfl (by exact congrArg Value.bool (congrArg not (decide_eq_true hc6))) rfl ?_; refine l_no rfl rfl (by exact congrArg Value.bool (congrArg not (decide_eq_true hc6))) rfl ?_; refine l_op (o_val (r_pick (b := false) (congrArg Value.bool (congrArg not (decide_eq_true hc6)))) ?_); refine l_op (o_val r_as ?_); first | refine l_end ?_ | refine l_nil ?_
      refine c_ret ?_; try dsimp only [Exit.then, Exit.inBlock]
      refine e_ret1 (v := .bool false) Try.results68 rfl ?_
      refine ⟨_, rfl, ?_⟩
      exact ⟨congrArg Value.bool (decide_eq_false (fun h : NameOk s => by obtain ⟨h1, h2, h3, h4, h5⟩ := h; first | omega | contradiction | (have := h1 _ (getD_mem (i := i) (by omega)); have e1 := this.1; have e2 := this.2; first | exact e1 (UInt8.toNat_inj.1 (by show _ = 47; omega)) | exact e2 (UInt8.toNat_inj.1 (by show _ = 0; omega))))).symm, hw0⟩
     ·
      refine l_yes rfl rfl (by exact congrArg Value.bool (congrArg not (decide_eq_false hc6))) (o_val r_mv ?_); refine l_yes rfl rfl (by exact congrArg Value.bool (congrArg not (decide_eq_false hc6))) (o_val (r_strne (a := s) (b := ([46,46] : List UInt8)) rfl rfl) ?_); refine l_op (o_val (r_pick (b := true) (congrArg Value.bool (congrArg not (decide_eq_false hc6)))) ?_); refine l_op (o_val r_as ?_); first | refine l_end ?_ | refine l_nil ?_
      refine c_ret ?_; try dsimp only [Exit.then, Exit.inBlock]
      refine e_ret1 (v := .bool (!(decide (s = ([46,46] : List UInt8))))) Try.results68 rfl ?_
      refine ⟨_, rfl, ?_⟩
      have e : (!(decide (s = ([46,46] : List UInt8)))) = decide (NameOk s) := by
        rw [Bool.eq_iff_iff]; simp only [Bool.not_eq_true', decide_eq_false_iff_not, decide_eq_true_eq]
        exact ⟨fun h0 => ⟨all_getD (fun j hj => hinv j (by omega)), by omega, by omega, by assumption, h0⟩, fun h => h.2.2.2.2⟩
      exact ⟨congrArg Value.bool e, hw0⟩
    ·
     refine l_no rfl rfl (by exact congrArg Value.bool (decide_eq_false hc5)) rfl ?_; refine l_no rfl rfl (by exact congrArg Value.bool (decide_eq_false hc5)) rfl ?_; refine l_op (o_val (r_pick (b := false) (congrArg Value.bool (decide_eq_false hc5))) ?_); refine l_op (o_val r_mv ?_); refine l_no rfl rfl rfl rfl ?_; refine l_no rfl rfl rfl rfl ?_; refine l_op (o_val (r_pick rfl) ?_); refine l_op (o_val r_as ?_); first | refine l_end ?_ | refine l_nil ?_
     refine c_ret ?_; try dsimp only [Exit.then, Exit.inBlock]
     refine e_ret1 (v := .bool false) Try.results68 rfl ?_
     refine ⟨_, rfl, ?_⟩
     exact ⟨congrArg Value.bool (decide_eq_false (fun h : NameOk s => by obtain ⟨h1, h2, h3, h4, h5⟩ := h; first | omega | contradiction | (have := h1 _ (getD_mem (i := i) (by omega)); have e1 := this.1; have e2 := this.2; first | exact e1 (UInt8.toNat_inj.1 (by show _ = 47; omega)) | exact e2 (UInt8.toNat_inj.1 (by show _ = 0; omega))))).symm, hw0⟩
   ·
    refine l_no rfl rfl (by exact congrArg Value.bool (decide_eq_false hc4)) rfl ?_; refine l_no rfl rfl (by exact congrArg Value.bool (decide_eq_false hc4)) rfl ?_; refine l_no rfl rfl (by exact congrArg Value.bool (decide_eq_false hc4)) rfl ?_; refine l_op (o_val (r_pick (b := false) (congrArg Value.bool (decide_eq_false hc4))) ?_); refine l_op (o_val r_mv ?_); refine l_no rfl rfl rfl rfl ?_; refine l_no rfl rfl rfl rfl ?_; refine l_op (o_val (r_pick rfl) ?_); refine l_op (o_val r_mv ?_); refine l_no rfl rfl rfl rfl ?_; refine l_no rfl rfl rfl rfl ?_; refine l_op (o_val (r_pick rfl) ?_); refine l_op (o_val r_as ?_); first | refine l_end ?_ | refine l_nil ?_
    refine c_ret ?_; try dsimp only [Exit.then, Exit.inBlock]
    refine e_ret1 (v := .bool false) Try.results68 rfl ?_
    refine ⟨_, rfl, ?_⟩
    exact ⟨congrArg Value.bool (decide_eq_false (fun h : NameOk s => by obtain ⟨h1, h2, h3, h4, h5⟩ := h; first | omega | contradiction | (have := h1 _ (getD_mem (i := i) (by omega)); have e1 := this.1; have e2 := this.2; first | exact e1 (UInt8.toNat_inj.1 (by show _ = 47; omega)) | exact e2 (UInt8.toNat_inj.1 (by show _ = 0; omega))))).symm, hw0⟩
theorem fmay15_ret (w0 : World) (g : Gl It) (hg : g.ok itE 35 w0) (hnm : ∀ x ∈ g.l, x.name.length ≤ 65536) :
    Ret Try.prog 54 [g.v] w0 fun v w' => ∃ b, v = .bool b ∧ (b = true ↔ MayB g.l) ∧ Hp w0 w' [] [] := by
  refine ret_mk Try.func54 rfl Try.ntmps54 (by simp) ?_
  have H := Hp.refl w0 []
  have hgl := hg.ln
  repeat refine c_seq ?_
  refine c_region ?_; refine l_op (o_val r_as ?_); first | refine l_end ?_ | refine l_nil ?_
  repeat refine c_seq ?_
  refine c_region ?_; refine l_op (o_val r_mv ?_); refine l_op (o_val (r_lens el52 rfl) ?_); refine l_op (o_val (r_bin (a := (g.len : Int)) (b := 64) rfl rfl (fun _ => b_gtr)) ?_); first | refine l_end ?_ | refine l_nil ?_
  by_cases hc1 : 64 < (g.len : Int)
  ·
   repeat refine c_seq ?_
   refine c_yes (by exact congrArg Value.bool (decide_eq_true hc1)) ?_; repeat refine c_seq ?_
   refine c_region ?_; refine l_op (o_val r_as ?_); first | refine l_end ?_ | refine l_nil ?_
   refine c_ret ?_; try dsimp only [Exit.then, Exit.inBlock]
   refine e_ret1 (v := .bool false) Try.results54 rfl ?_
   refine ⟨_, rfl, ?_⟩
   exact ⟨false, rfl, ⟨fun h => (by cases h), fun h => absurd h.1 (by omega)⟩, H⟩
  ·
   repeat refine c_seq ?_
   refine c_no (by exact congrArg Value.bool (decide_eq_false hc1)) ?_; refine c_skip ?_; repeat refine c_seq ?_
   refine c_region ?_; refine l_op (o_val r_as ?_); first | refine l_end ?_ | refine l_nil ?_
   repeat refine c_seq ?_
   refine c_block ?_; repeat refine c_seq ?_
   refine c_loop (fun (i : Nat) => [(0, g.v), (3, VI (i : Int))])
     (fun (i : Nat) w => (i ≤ g.len ∧ ∀ j, j < i → mayAt g.l j) ∧ Hp w0 w [] ([]))
     (fun (i : Nat) => g.len - i) 0 ⟨rfl, rfl, trivial⟩ ⟨⟨by omega, fun j hj => absurd hj (by omega)⟩, H⟩ ?_
   clear H
   rintro i τ w ⟨⟨hil, hinv⟩, H⟩
   repeat refine c_seq ?_
   refine c_region ?_; refine l_op (o_val r_mv ?_); refine l_op (o_val r_mv ?_); refine l_op (o_val (r_lens el52 rfl) ?_); refine l_op (o_val (r_bin (a := (i : Int)) (b := (g.len : Int)) rfl rfl (fun _ => b_lss)) ?_); first | refine l_end ?_ | refine l_nil ?_
   by_cases hc2 : (i : Int) < (g.len : Int)
   ·
    repeat refine c_seq ?_
    refine c_yes (by exact congrArg Value.bool (decide_eq_true hc2)) ?_; refine c_skip ?_; repeat refine c_seq ?_
    refine c_block ?_; repeat refine c_seq ?_
    refine c_region ?_; refine l_op (o_val r_mv ?_); refine l_op (o_val r_mv ?_); have ah5 := ((hg.up H)).addr (by decide) (by first | omega | (dsimp only; omega))
    obtain ⟨ab3, ao4, ah5⟩ := ah5
    refine l_op (o_val (r_isN i rfl rfl el52 ah5 (by omega) (by (try simp only [Sl.cut]); omega)) ?_); have he7 : ∃ c, g.l[i]? = some c := ⟨_, List.getElem?_eq_getElem (by have := ((hg.up H)).ln; (try dsimp only at this ⊢); omega)⟩
    obtain ⟨e6, he7⟩ := he7
    have hez8 := ((hg.up H)).sz e6 (List.mem_of_getElem? he7)
    have he7n := hnm e6 (List.mem_of_getElem? he7)
    refine l_op (o_val (r_ldRow (s := g) (k := i) (hg.up H) ah5 rfl rt54 (by decide) he7) ?_); refine l_op (o_alloc H zc54 (fun b9 w H hb9 => ?_)); replace H : Hp _ w _ ([.blk b9 (([.string ⟨(([] : List UInt8)).toArray⟩, VI 0] : List Value) ++ ((List.replicate 32 (0 : UInt8)).map V8 ++ (([VI 0] : List Value)))) 54]) := H
    refine l_op (o_stW (C' := ([.string ⟨(e6.name).toArray⟩, VI e6.kind] : List Value) ++ ((e6.of.1).map V8 ++ (([VI e6.size] : List Value)))) H (i := 0) rfl rfl rfl cs54 (by first | (simp [Value.oneCell', List.all_append, List.all_map]; done) | (simp only [List.all_append, List.all_cons, List.all_nil, List.all_map]; simp [Value.oneCell', Function.comp_def])) (by simp only [List.length_append, List.length_map, List.length_cons, List.length_nil, (show (List.replicate 32 (0 : UInt8)).length = 32 from (List.length_replicate ..))]) (by simp only [List.length_append, List.length_map, List.length_cons, List.length_nil, (show (e6.of.1).length = 32 from e6.of.2)]) (fun w H => ?_)); replace H : Hp _ w _ ([.blk b9 (([.string ⟨(e6.name).toArray⟩, VI e6.kind] : List Value) ++ ((e6.of.1).map V8 ++ (([VI e6.size] : List Value)))) 54]) := H
    first | refine l_end ?_ | refine l_nil ?_
    repeat refine c_seq ?_
    refine c_still mixed (by kernel_rfl) ?_; replace H := H.drew
    refine s_op (r_fa rfl fo54_0) ?_; refine s_op (r_l1 (v := .string ⟨(e6.name).toArray⟩) H (i := 0) rfl rfl ct9 (show Cut3 (([.string ⟨(e6.name).toArray⟩, VI e6.kind] : List Value) ++ ((e6.of.1).map V8 ++ (([VI e6.size] : List Value)))) (([] : List Value)) (([.string ⟨(e6.name).toArray⟩] : List Value)) (([VI e6.kind] : List Value) ++ ((e6.of.1).map V8 ++ (([VI e6.size] : List Value)))) 0 1 from ⟨(show ([.string ⟨(e6.name).toArray⟩, VI e6.kind] : List Value) ++ ((e6.of.1).map V8 ++ (([VI e6.size] : List Value))) = ([] : List Value) ++ ((([.string ⟨(e6.name).toArray⟩] : List Value)) ++ (([VI e6.kind] : List Value) ++ ((e6.of.1).map V8 ++ (([VI e6.size] : List Value))))) from by simp only [List.cons_append, List.nil_append]), (by rfl), (by rfl)⟩)) ?_; refine s_call Try.func68 rfl rfl rfl (mayName15_ret _ (e6.name) (by omega)) ?_
    refine s_op (r_not rfl) ?_; refine s_op (r_mv) ?_
    by_cases hc10 : NameOk (e6.name)
    ·
     refine s_yes rfl rfl (by exact congrArg Value.bool (congrArg not (decide_eq_true hc10))) (r_fa rfl fo54_1) ?_; refine s_yes rfl rfl (by exact congrArg Value.bool (congrArg not (decide_eq_true hc10))) (r_l1 (v := VI e6.kind) H (i := 0) rfl rfl ct3 (show Cut3 (([.string ⟨(e6.name).toArray⟩, VI e6.kind] : List Value) ++ ((e6.of.1).map V8 ++ (([VI e6.size] : List Value)))) (([.string ⟨(e6.name).toArray⟩] : List Value)) (([VI e6.kind] : List Value)) ((e6.of.1).map V8 ++ (([VI e6.size] : List Value))) 1 1 from ⟨(show ([.string ⟨(e6.name).toArray⟩, VI e6.kind] : List Value) ++ ((e6.of.1).map V8 ++ (([VI e6.size] : List Value))) = ([.string ⟨(e6.name).toArray⟩] : List Value) ++ ((([VI e6.kind] : List Value)) ++ ((e6.of.1).map V8 ++ (([VI e6.size] : List Value)))) from by simp only [List.cons_append, List.nil_append]), (by rfl), (by rfl)⟩)) ?_; refine s_yes rfl rfl (by exact congrArg Value.bool (congrArg not (decide_eq_true hc10))) (r_bin (a := e6.kind) (b := 1) rfl rfl (fun _ => b_lss)) ?_; refine s_op (r_pick (b := false) (congrArg Value.bool (congrArg not (decide_eq_true hc10)))) ?_; refine s_op (r_mv) ?_
     by_cases hc11 : e6.kind < 1
     ·
      refine s_no rfl rfl (by exact congrArg Value.bool (decide_eq_true hc11)) rfl ?_; refine s_no rfl rfl (by exact congrArg Value.bool (decide_eq_true hc11)) rfl ?_; refine s_no rfl rfl (by exact congrArg Value.bool (decide_eq_true hc11)) rfl ?_; refine s_op (r_pick (b := true) (congrArg Value.bool (decide_eq_true hc11))) ?_; refine s_op (r_mv) ?_; refine s_no rfl rfl rfl rfl ?_; refine s_no rfl rfl rfl rfl ?_; refine s_no rfl rfl rfl rfl ?_; refine s_op (r_pick rfl) ?_; refine s_op (r_mv) ?_; refine s_no rfl rfl rfl rfl ?_; refine s_no rfl rfl rfl rfl ?_; refine s_no rfl rfl rfl rfl ?_; refine s_no rfl rfl rfl rfl ?_; refine s_non rfl rfl rfl ?_; refine s_non rfl rfl rfl ?_; refine s_non rfl rfl rfl ?_; refine s_no rfl rfl rfl rfl ?_; refine s_op (r_pick rfl) ?_; refine s_op (r_mv) ?_; refine s_no rfl rfl rfl rfl ?_; refine s_no rfl rfl rfl rfl ?_; refine s_no rfl rfl rfl rfl ?_; refine s_non rfl rfl rfl ?_; refine s_non rfl rfl rfl ?_; refine s_non rfl rfl rfl ?_; refine s_non rfl rfl rfl ?_; refine s_non rfl rfl rfl ?_; refine s_non rfl rfl rfl ?_; refine s_non rfl rfl rfl ?_; refine s_non rfl rfl rfl ?_; refine s_non rfl rfl rfl ?_; refine s_no rfl rfl rfl rfl ?_; refine s_op (r_pick rfl) ?_; refine s_nil ?_; repeat refine c_seq ?_
      refine c_yes rfl ?_; repeat refine c_seq ?_
      refine c_region ?_; refine l_op (o_val r_as ?_); first | refine l_end ?_ | refine l_nil ?_
      refine c_ret ?_; try dsimp only [Exit.then, Exit.inBlock]
      refine e_ret1 (v := .bool false) Try.results54 rfl ?_
      refine ⟨_, rfl, ?_⟩
      refine ⟨false, rfl, ⟨fun h => (by cases h), fun h => ?_⟩, H.sub (List.nil_sublist _)⟩
      have hm := h.2 i (by omega) e6 he7
      obtain ⟨⟨h1, h2, h3⟩, h4⟩ := hm
      first
        | omega
        | contradiction
        | skip
     ·
      refine s_yes rfl rfl (by exact congrArg Value.bool (decide_eq_false hc11)) (r_fa rfl fo54_1) ?_; refine s_yes rfl rfl (by exact congrArg Value.bool (decide_eq_false hc11)) (r_l1 (v := VI e6.kind) H (i := 0) rfl rfl ct3 (show Cut3 (([.string ⟨(e6.name).toArray⟩, VI e6.kind] : List Value) ++ ((e6.of.1).map V8 ++ (([VI e6.size] : List Value)))) (([.string ⟨(e6.name).toArray⟩] : List Value)) (([VI e6.kind] : List Value)) ((e6.of.1).map V8 ++ (([VI e6.size] : List Value))) 1 1 from ⟨(show ([.string ⟨(e6.name).toArray⟩, VI e6.kind] : List Value) ++ ((e6.of.1).map V8 ++ (([VI e6.size] : List Value))) = ([.string ⟨(e6.name).toArray⟩] : List Value) ++ ((([VI e6.kind] : List Value)) ++ ((e6.of.1).map V8 ++ (([VI e6.size] : List Value)))) from by simp only [List.cons_append, List.nil_append]), (by rfl), (by rfl)⟩)) ?_; refine s_yes rfl rfl (by exact congrArg Value.bool (decide_eq_false hc11)) (r_bin (a := e6.kind) (b := 2) rfl rfl (fun _ => b_gtr)) ?_; refine s_op (r_pick (b := false) (congrArg Value.bool (decide_eq_false hc11))) ?_; refine s_op (r_mv) ?_
      by_cases hc12 : 2 < e6.kind
      ·
       refine s_no rfl rfl (by exact congrArg Value.bool (decide_eq_true hc12)) rfl ?_; refine s_no rfl rfl (by exact congrArg Value.bool (decide_eq_true hc12)) rfl ?_; refine s_no rfl rfl (by exact congrArg Value.bool (decide_eq_true hc12)) rfl ?_; refine s_op (r_pick (b := true) (congrArg Value.bool (decide_eq_true hc12))) ?_; refine s_op (r_mv) ?_; refine s_no rfl rfl rfl rfl ?_; refine s_no rfl rfl rfl rfl ?_; refine s_no rfl rfl rfl rfl ?_; refine s_no rfl rfl rfl rfl ?_; refine s_non rfl rfl rfl ?_; refine s_non rfl rfl rfl ?_; refine s_non rfl rfl rfl ?_; refine s_no rfl rfl rfl rfl ?_; refine s_op (r_pick rfl) ?_; refine s_op (r_mv) ?_; refine s_no rfl rfl rfl rfl ?_; refine s_no rfl rfl rfl rfl ?_; refine s_no rfl rfl rfl rfl ?_; refine s_non rfl rfl rfl ?_; refine s_non rfl rfl rfl ?_; refine s_non rfl rfl rfl ?_; refine s_non rfl rfl rfl ?_; refine s_non rfl rfl rfl ?_; refine s_non rfl rfl rfl ?_; refine s_non rfl rfl rfl ?_; refine s_non rfl rfl rfl ?_; refine s_non rfl rfl rfl ?_; refine s_no rfl rfl rfl rfl ?_; refine s_op (r_pick rfl) ?_; refine s_nil ?_; repeat refine c_seq ?_
       refine c_yes rfl ?_; repeat refine c_seq ?_
       refine c_region ?_; refine l_op (o_val r_as ?_); first | refine l_end ?_ | refine l_nil ?_
       refine c_ret ?_; try dsimp only [Exit.then, Exit.inBlock]
       refine e_ret1 (v := .bool false) Try.results54 rfl ?_
       refine ⟨_, rfl, ?_⟩
       refine ⟨false, rfl, ⟨fun h => (by cases h), fun h => ?_⟩, H.sub (List.nil_sublist _)⟩
       have hm := h.2 i (by omega) e6 he7
       obtain ⟨⟨h1, h2, h3⟩, h4⟩ := hm
       first
         | omega
         | contradiction
         | skip
      ·
       refine s_yes rfl rfl (by exact congrArg Value.bool (decide_eq_false hc12)) (r_fa rfl fo54_3) ?_; refine s_yes rfl rfl (by exact congrArg Value.bool (decide_eq_false hc12)) (r_l1 (v := VI e6.size) H (i := 0) rfl rfl ct2 (show Cut3 (([.string ⟨(e6.name).toArray⟩, VI e6.kind] : List Value) ++ ((e6.of.1).map V8 ++ (([VI e6.size] : List Value)))) (([.string ⟨(e6.name).toArray⟩, VI e6.kind] : List Value) ++ ((e6.of.1).map V8)) (([VI e6.size] : List Value)) (([] : List Value)) 34 1 from ⟨(show ([.string ⟨(e6.name).toArray⟩, VI e6.kind] : List Value) ++ ((e6.of.1).map V8 ++ (([VI e6.size] : List Value))) = (([.string ⟨(e6.name).toArray⟩, VI e6.kind] : List Value) ++ ((e6.of.1).map V8)) ++ ((([VI e6.size] : List Value)) ++ (([] : List Value))) from by simp only [List.cons_append, List.nil_append]), (by simp only [List.length_append, List.length_map, List.length_cons, List.length_nil, (show (e6.of.1).length = 32 from e6.of.2)]), (by rfl)⟩)) ?_; refine s_yes rfl rfl (by exact congrArg Value.bool (decide_eq_false hc12)) (r_bin (a := e6.size) (b := 0) rfl rfl (fun _ => b_lss)) ?_; refine s_op (r_pick (b := false) (congrArg Value.bool (decide_eq_false hc12))) ?_; refine s_op (r_mv) ?_
       by_cases hc13 : e6.size < 0
       ·
        refine s_no rfl rfl (by exact congrArg Value.bool (decide_eq_true hc13)) rfl ?_; refine s_no rfl rfl (by exact congrArg Value.bool (decide_eq_true hc13)) rfl ?_; refine s_no rfl rfl (by exact congrArg Value.bool (decide_eq_true hc13)) rfl ?_; refine s_no rfl rfl (by exact congrArg Value.bool (decide_eq_true hc13)) rfl ?_; refine s_non rfl rfl rfl ?_; refine s_non rfl rfl rfl ?_; refine s_non rfl rfl rfl ?_; refine s_no rfl rfl (by exact congrArg Value.bool (decide_eq_true hc13)) rfl ?_; refine s_op (r_pick (b := true) (congrArg Value.bool (decide_eq_true hc13))) ?_; refine s_op (r_mv) ?_; refine s_no rfl rfl rfl rfl ?_; refine s_no rfl rfl rfl rfl ?_; refine s_no rfl rfl rfl rfl ?_; refine s_non rfl rfl rfl ?_; refine s_non rfl rfl rfl ?_; refine s_non rfl rfl rfl ?_; refine s_non rfl rfl rfl ?_; refine s_non rfl rfl rfl ?_; refine s_non rfl rfl rfl ?_; refine s_non rfl rfl rfl ?_; refine s_non rfl rfl rfl ?_; refine s_non rfl rfl rfl ?_; refine s_no rfl rfl rfl rfl ?_; refine s_op (r_pick rfl) ?_; refine s_nil ?_; repeat refine c_seq ?_
        refine c_yes rfl ?_; repeat refine c_seq ?_
        refine c_region ?_; refine l_op (o_val r_as ?_); first | refine l_end ?_ | refine l_nil ?_
        refine c_ret ?_; try dsimp only [Exit.then, Exit.inBlock]
        refine e_ret1 (v := .bool false) Try.results54 rfl ?_
        refine ⟨_, rfl, ?_⟩
        refine ⟨false, rfl, ⟨fun h => (by cases h), fun h => ?_⟩, H.sub (List.nil_sublist _)⟩
        have hm := h.2 i (by omega) e6 he7
        obtain ⟨⟨h1, h2, h3⟩, h4⟩ := hm
        first
          | omega
          | contradiction
          | skip
       ·
        refine s_yes rfl rfl (by exact congrArg Value.bool (decide_eq_false hc13)) (r_fa rfl fo54_1) ?_; refine s_yes rfl rfl (by exact congrArg Value.bool (decide_eq_false hc13)) (r_l1 (v := VI e6.kind) H (i := 0) rfl rfl ct3 (show Cut3 (([.string ⟨(e6.name).toArray⟩, VI e6.kind] : List Value) ++ ((e6.of.1).map V8 ++ (([VI e6.size] : List Value)))) (([.string ⟨(e6.name).toArray⟩] : List Value)) (([VI e6.kind] : List Value)) ((e6.of.1).map V8 ++ (([VI e6.size] : List Value))) 1 1 from ⟨(show ([.string ⟨(e6.name).toArray⟩, VI e6.kind] : List Value) ++ ((e6.of.1).map V8 ++ (([VI e6.size] : List Value))) = ([.string ⟨(e6.name).toArray⟩] : List Value) ++ ((([VI e6.kind] : List Value)) ++ ((e6.of.1).map V8 ++ (([VI e6.size] : List Value)))) from by simp only [List.cons_append, List.nil_append]), (by rfl), (by rfl)⟩)) ?_; refine s_yes rfl rfl (by exact congrArg Value.bool (decide_eq_false hc13)) (r_bin (a := e6.kind) (b := 2) rfl rfl (fun _ => b_eql)) ?_; refine s_yes rfl rfl (by exact congrArg Value.bool (decide_eq_false hc13)) (r_mv) ?_
        by_cases hc14 : e6.kind = 2
        ·
         refine s_yes rfl rfl (by exact congrArg Value.bool (decide_eq_true hc14)) (r_fa rfl fo54_3) ?_; refine s_yes rfl rfl (by exact congrArg Value.bool (decide_eq_true hc14)) (r_l1 (v := VI e6.size) H (i := 0) rfl rfl ct2 (show Cut3 (([.string ⟨(e6.name).toArray⟩, VI e6.kind] : List Value) ++ ((e6.of.1).map V8 ++ (([VI e6.size] : List Value)))) (([.string ⟨(e6.name).toArray⟩, VI e6.kind] : List Value) ++ ((e6.of.1).map V8)) (([VI e6.size] : List Value)) (([] : List Value)) 34 1 from ⟨(show ([.string ⟨(e6.name).toArray⟩, VI e6.kind] : List Value) ++ ((e6.of.1).map V8 ++ (([VI e6.size] : List Value))) = (([.string ⟨(e6.name).toArray⟩, VI e6.kind] : List Value) ++ ((e6.of.1).map V8)) ++ ((([VI e6.size] : List Value)) ++ (([] : List Value))) from by simp only [List.cons_append, List.nil_append]), (by simp only [List.length_append, List.length_map, List.length_cons, List.length_nil, (show (e6.of.1).length = 32 from e6.of.2)]), (by rfl)⟩)) ?_; refine s_yes rfl rfl (by exact congrArg Value.bool (decide_eq_true hc14)) (r_bin (a := e6.size) (b := 0) rfl rfl (fun _ => b_neq)) ?_; refine s_yes rfl rfl (by exact congrArg Value.bool (decide_eq_false hc13)) (r_pick (b := true) (congrArg Value.bool (decide_eq_true hc14))) ?_; refine s_op (r_pick (b := false) (congrArg Value.bool (decide_eq_false hc13))) ?_; refine s_op (r_mv) ?_
         by_cases hc15 : e6.size ≠ 0
         ·
          refine s_no rfl rfl (by exact congrArg Value.bool (decide_eq_true hc15)) rfl ?_; refine s_no rfl rfl (by exact congrArg Value.bool (decide_eq_true hc15)) rfl ?_; refine s_no rfl rfl (by exact congrArg Value.bool (decide_eq_true hc15)) rfl ?_; refine s_non rfl rfl rfl ?_; refine s_non rfl rfl rfl ?_; refine s_non rfl rfl rfl ?_; refine s_non rfl rfl rfl ?_; refine s_non rfl rfl rfl ?_; refine s_non rfl rfl rfl ?_; refine s_non rfl rfl rfl ?_; refine s_non rfl rfl rfl ?_; refine s_non rfl rfl rfl ?_; refine s_no rfl rfl (by exact congrArg Value.bool (decide_eq_true hc15)) rfl ?_; refine s_op (r_pick (b := true) (congrArg Value.bool (decide_eq_true hc15))) ?_; refine s_nil ?_; repeat refine c_seq ?_
          refine c_yes rfl ?_; repeat refine c_seq ?_
          refine c_region ?_; refine l_op (o_val r_as ?_); first | refine l_end ?_ | refine l_nil ?_
          refine c_ret ?_; try dsimp only [Exit.then, Exit.inBlock]
          refine e_ret1 (v := .bool false) Try.results54 rfl ?_
          refine ⟨_, rfl, ?_⟩
          refine ⟨false, rfl, ⟨fun h => (by cases h), fun h => ?_⟩, H.sub (List.nil_sublist _)⟩
          have hm := h.2 i (by omega) e6 he7
          obtain ⟨⟨h1, h2, h3⟩, h4⟩ := hm
          first
            | omega
            | contradiction
            | skip
         ·
          refine s_yes rfl rfl (by exact congrArg Value.bool (decide_eq_false hc15)) (r_mv) ?_; refine s_yes rfl rfl (by exact congrArg Value.bool (decide_eq_false hc15)) (r_bin (a := (i : Int)) (b := 0) rfl rfl (fun _ => b_gtr)) ?_; refine s_yes rfl rfl (by exact congrArg Value.bool (decide_eq_false hc15)) (r_mv) ?_
          by_cases hc16 : 0 < (i : Int)
          ·
           refine s_yes rfl rfl (by exact congrArg Value.bool (decide_eq_true hc16)) (r_mv) ?_; refine s_yes rfl rfl (by exact congrArg Value.bool (decide_eq_true hc16)) (r_mv) ?_; refine s_yes rfl rfl (by exact congrArg Value.bool (decide_eq_true hc16)) (r_bin (a := (i : Int)) (b := 1) rfl rfl (fun _ => b_sub (by omega) (by omega))) ?_; refine s_yes rfl rfl (by exact congrArg Value.bool (decide_eq_true hc16)) (r_isN (((i : Int) - 1).toNat) rfl rfl el52 ah5 (by omega) (by (try simp only [Sl.cut]); omega)) ?_; refine s_yes rfl rfl (by exact congrArg Value.bool (decide_eq_true hc16)) (r_fa rfl fo54_0) ?_; have he18 : ∃ c, g.l[((i : Int) - 1).toNat]? = some c := ⟨_, List.getElem?_eq_getElem (by have := ((hg.up H)).ln; (try dsimp only at this ⊢); omega)⟩
           obtain ⟨e17, he18⟩ := he18
           have hez19 := ((hg.up H)).sz e17 (List.mem_of_getElem? he18)
           have he18n := hnm e17 (List.mem_of_getElem? he18)
           refine s_yes rfl rfl (by exact congrArg Value.bool (decide_eq_true hc16)) (r_g1 (v := .string ⟨(e17.name).toArray⟩) (s := g) (j := ((i : Int) - 1).toNat) (hg.up H) ah5 rfl ct9 he18 (by decide) (show Cut3 (itE e17) (([] : List Value)) (([.string ⟨(e17.name).toArray⟩] : List Value)) (([VI e17.kind] : List Value) ++ ((e17.of.1).map V8 ++ (([VI e17.size] : List Value)))) 0 1 from ⟨(show ([.string ⟨(e17.name).toArray⟩, VI e17.kind] : List Value) ++ ((e17.of.1).map V8 ++ (([VI e17.size] : List Value))) = ([] : List Value) ++ ((([.string ⟨(e17.name).toArray⟩] : List Value)) ++ (([VI e17.kind] : List Value) ++ ((e17.of.1).map V8 ++ (([VI e17.size] : List Value))))) from by simp only [List.cons_append, List.nil_append]), (by rfl), (by rfl)⟩)) ?_; refine s_yes rfl rfl (by exact congrArg Value.bool (decide_eq_true hc16)) (r_fa rfl fo54_0) ?_; refine s_yes rfl rfl (by exact congrArg Value.bool (decide_eq_true hc16)) (r_l1 (v := .string ⟨(e6.name).toArray⟩) H (i := 0) rfl rfl ct9 (show Cut3 (([.string ⟨(e6.name).toArray⟩, VI e6.kind] : List Value) ++ ((e6.of.1).map V8 ++ (([VI e6.size] : List Value)))) (([] : List Value)) (([.string ⟨(e6.name).toArray⟩] : List Value)) (([VI e6.kind] : List Value) ++ ((e6.of.1).map V8 ++ (([VI e6.size] : List Value)))) 0 1 from ⟨(show ([.string ⟨(e6.name).toArray⟩, VI e6.kind] : List Value) ++ ((e6.of.1).map V8 ++ (([VI e6.size] : List Value))) = ([] : List Value) ++ ((([.string ⟨(e6.name).toArray⟩] : List Value)) ++ (([VI e6.kind] : List Value) ++ ((e6.of.1).map V8 ++ (([VI e6.size] : List Value))))) from by simp only [List.cons_append, List.nil_append]), (by rfl), (by rfl)⟩)) ?_; refine s_yes rfl rfl (by exact congrArg Value.bool (decide_eq_true hc16)) (r_strge (a := e17.name) (b := e6.name) rfl rfl) ?_; refine s_yes rfl rfl (by exact congrArg Value.bool (decide_eq_false hc15)) (r_pick (b := true) (congrArg Value.bool (decide_eq_true hc16))) ?_; refine s_op (r_pick (b := false) (congrArg Value.bool (decide_eq_false hc15))) ?_; refine s_nil ?_
           by_cases hc20 : e6.name ≤ e17.name
           ·
            repeat refine c_seq ?_
            refine c_yes (by exact congrArg Value.bool (decide_eq_true hc20)) ?_; repeat refine c_seq ?_
            refine c_region ?_; refine l_op (o_val r_as ?_); first | refine l_end ?_ | refine l_nil ?_
            refine c_ret ?_; try dsimp only [Exit.then, Exit.inBlock]
            refine e_ret1 (v := .bool false) Try.results54 rfl ?_
            refine ⟨_, rfl, ?_⟩
            refine ⟨false, rfl, ⟨fun h => (by cases h), fun h => ?_⟩, H.sub (List.nil_sublist _)⟩
            have hm := h.2 i (by omega) e6 he7
            obtain ⟨⟨h1, h2, h3⟩, h4⟩ := hm
            first
              | omega
              | contradiction
              | exact absurd (h4 e17 (by omega) (by have e := he18; rwa [show ((i : Int) - 1).toNat = i - 1 by omega] at e)) (List.not_lt.2 (by assumption))
           ·
            repeat refine c_seq ?_
            refine c_no (by exact congrArg Value.bool (decide_eq_false hc20)) ?_; refine c_skip ?_; repeat refine c_seq ?_
            refine c_region ?_; refine l_op (o_val r_mv ?_); refine l_op (o_val (r_bin (a := (i : Int)) (b := 1) rfl rfl (fun _ => b_add (by omega) (by omega))) ?_); refine l_op (o_val r_as ?_); first | refine l_end ?_ | refine l_nil ?_
            have hat : mayAt g.l i := fun x hx => by
              have ex : x = e6 := Option.some.inj (hx.symm.trans he7)
              subst ex
              refine ⟨⟨by assumption, by omega, by omega⟩, fun y hp hy => ?_⟩
              have ey : y = e17 := Option.some.inj (hy.symm.trans (by have e := he18; rwa [show ((i : Int) - 1).toNat = i - 1 by omega] at e))
              subst ey
              exact List.not_le.1 (by assumption)
            refine round_end (i + 1) ?_ ?_ ?_
            · exact ⟨rfl, show VI ((i : Int) + 1) = VI ((i + 1 : Nat) : Int) from congrArg VI (by omega), trivial⟩
            · refine ⟨?_, ?_⟩
              · try dsimp only
                exact ⟨by omega, fun j hj => (Nat.lt_or_ge j i).elim (hinv j) (fun h => (show i = j by omega) ▸ hat)⟩
              · exact H.sub (List.nil_sublist _)
            · show g.len - (i + 1 : Nat) < g.len - i; omega
          ·
           refine s_no rfl rfl (by exact congrArg Value.bool (decide_eq_false hc16)) rfl ?_; refine s_no rfl rfl (by exact congrArg Value.bool (decide_eq_false hc16)) rfl ?_; refine s_no rfl rfl (by exact congrArg Value.bool (decide_eq_false hc16)) rfl ?_; refine s_no rfl rfl (by exact congrArg Value.bool (decide_eq_false hc16)) rfl ?_; refine s_no rfl rfl (by exact congrArg Value.bool (decide_eq_false hc16)) rfl ?_; refine s_no rfl rfl (by exact congrArg Value.bool (decide_eq_false hc16)) rfl ?_; refine s_no rfl rfl (by exact congrArg Value.bool (decide_eq_false hc16)) rfl ?_; refine s_no rfl rfl (by exact congrArg Value.bool (decide_eq_false hc16)) rfl ?_; refine s_no rfl rfl (by exact congrArg Value.bool (decide_eq_false hc16)) rfl ?_; refine s_yes rfl rfl (by exact congrArg Value.bool (decide_eq_false hc15)) (r_pick (b := false) (congrArg Value.bool (decide_eq_false hc16))) ?_; refine s_op (r_pick (b := false) (congrArg Value.bool (decide_eq_false hc15))) ?_; refine s_nil ?_; repeat refine c_seq ?_
           refine c_no rfl ?_; refine c_skip ?_; repeat refine c_seq ?_
           refine c_region ?_; refine l_op (o_val r_mv ?_); refine l_op (o_val (r_bin (a := (i : Int)) (b := 1) rfl rfl (fun _ => b_add (by omega) (by omega))) ?_); refine l_op (o_val r_as ?_); first | refine l_end ?_ | refine l_nil ?_
           have hat : mayAt g.l i := fun x hx => by
             have ex : x = e6 := Option.some.inj (hx.symm.trans he7)
             subst ex
             refine ⟨⟨by assumption, by omega, by omega⟩, fun y hp hy => ?_⟩
             omega
           refine round_end (i + 1) ?_ ?_ ?_
           · exact ⟨rfl, show VI ((i : Int) + 1) = VI ((i + 1 : Nat) : Int) from congrArg VI (by omega), trivial⟩
           · refine ⟨?_, ?_⟩
             · try dsimp only
               exact ⟨by omega, fun j hj => (Nat.lt_or_ge j i).elim (hinv j) (fun h => (show i = j by omega) ▸ hat)⟩
             · exact H.sub (List.nil_sublist _)
           · show g.len - (i + 1 : Nat) < g.len - i; omega
        ·
         refine s_no rfl rfl (by exact congrArg Value.bool (decide_eq_false hc14)) rfl ?_; refine s_no rfl rfl (by exact congrArg Value.bool (decide_eq_false hc14)) rfl ?_; refine s_no rfl rfl (by exact congrArg Value.bool (decide_eq_false hc14)) rfl ?_; refine s_yes rfl rfl (by exact congrArg Value.bool (decide_eq_false hc13)) (r_pick (b := false) (congrArg Value.bool (decide_eq_false hc14))) ?_; refine s_op (r_pick (b := false) (congrArg Value.bool (decide_eq_false hc13))) ?_; refine s_op (r_mv) ?_; refine s_yes rfl rfl rfl (r_mv) ?_; refine s_yes rfl rfl rfl (r_bin (a := (i : Int)) (b := 0) rfl rfl (fun _ => b_gtr)) ?_; refine s_yes rfl rfl rfl (r_mv) ?_
         by_cases hc21 : 0 < (i : Int)
         ·
          refine s_yes rfl rfl (by exact congrArg Value.bool (decide_eq_true hc21)) (r_mv) ?_; refine s_yes rfl rfl (by exact congrArg Value.bool (decide_eq_true hc21)) (r_mv) ?_; refine s_yes rfl rfl (by exact congrArg Value.bool (decide_eq_true hc21)) (r_bin (a := (i : Int)) (b := 1) rfl rfl (fun _ => b_sub (by omega) (by omega))) ?_; refine s_yes rfl rfl (by exact congrArg Value.bool (decide_eq_true hc21)) (r_isN (((i : Int) - 1).toNat) rfl rfl el52 ah5 (by omega) (by (try simp only [Sl.cut]); omega)) ?_; refine s_yes rfl rfl (by exact congrArg Value.bool (decide_eq_true hc21)) (r_fa rfl fo54_0) ?_; have he23 : ∃ c, g.l[((i : Int) - 1).toNat]? = some c := ⟨_, List.getElem?_eq_getElem (by have := ((hg.up H)).ln; (try dsimp only at this ⊢); omega)⟩
          obtain ⟨e22, he23⟩ := he23
          have hez24 := ((hg.up H)).sz e22 (List.mem_of_getElem? he23)
          have he23n := hnm e22 (List.mem_of_getElem? he23)
          refine s_yes rfl rfl (by exact congrArg Value.bool (decide_eq_true hc21)) (r_g1 (v := .string ⟨(e22.name).toArray⟩) (s := g) (j := ((i : Int) - 1).toNat) (hg.up H) ah5 rfl ct9 he23 (by decide) (show Cut3 (itE e22) (([] : List Value)) (([.string ⟨(e22.name).toArray⟩] : List Value)) (([VI e22.kind] : List Value) ++ ((e22.of.1).map V8 ++ (([VI e22.size] : List Value)))) 0 1 from ⟨(show ([.string ⟨(e22.name).toArray⟩, VI e22.kind] : List Value) ++ ((e22.of.1).map V8 ++ (([VI e22.size] : List Value))) = ([] : List Value) ++ ((([.string ⟨(e22.name).toArray⟩] : List Value)) ++ (([VI e22.kind] : List Value) ++ ((e22.of.1).map V8 ++ (([VI e22.size] : List Value))))) from by simp only [List.cons_append, List.nil_append]), (by rfl), (by rfl)⟩)) ?_; refine s_yes rfl rfl (by exact congrArg Value.bool (decide_eq_true hc21)) (r_fa rfl fo54_0) ?_; refine s_yes rfl rfl (by exact congrArg Value.bool (decide_eq_true hc21)) (r_l1 (v := .string ⟨(e6.name).toArray⟩) H (i := 0) rfl rfl ct9 (show Cut3 (([.string ⟨(e6.name).toArray⟩, VI e6.kind] : List Value) ++ ((e6.of.1).map V8 ++ (([VI e6.size] : List Value)))) (([] : List Value)) (([.string ⟨(e6.name).toArray⟩] : List Value)) (([VI e6.kind] : List Value) ++ ((e6.of.1).map V8 ++ (([VI e6.size] : List Value)))) 0 1 from ⟨(show ([.string ⟨(e6.name).toArray⟩, VI e6.kind] : List Value) ++ ((e6.of.1).map V8 ++ (([VI e6.size] : List Value))) = ([] : List Value) ++ ((([.string ⟨(e6.name).toArray⟩] : List Value)) ++ (([VI e6.kind] : List Value) ++ ((e6.of.1).map V8 ++ (([VI e6.size] : List Value))))) from by simp only [List.cons_append, List.nil_append]), (by rfl), (by rfl)⟩)) ?_; refine s_yes rfl rfl (by exact congrArg Value.bool (decide_eq_true hc21)) (r_strge (a := e22.name) (b := e6.name) rfl rfl) ?_; refine s_yes rfl rfl rfl (r_pick (b := true) (congrArg Value.bool (decide_eq_true hc21))) ?_; refine s_op (r_pick rfl) ?_; refine s_nil ?_
          by_cases hc25 : e6.name ≤ e22.name
          ·
           repeat refine c_seq ?_
           refine c_yes (by exact congrArg Value.bool (decide_eq_true hc25)) ?_; repeat refine c_seq ?_
           refine c_region ?_; refine l_op (o_val r_as ?_); first | refine l_end ?_ | refine l_nil ?_
           refine c_ret ?_; try dsimp only [Exit.then, Exit.inBlock]
           refine e_ret1 (v := .bool false) Try.results54 rfl ?_
           refine ⟨_, rfl, ?_⟩
           refine ⟨false, rfl, ⟨fun h => (by cases h), fun h => ?_⟩, H.sub (List.nil_sublist _)⟩
           have hm := h.2 i (by omega) e6 he7
           obtain ⟨⟨h1, h2, h3⟩, h4⟩ := hm
           first
             | omega
             | contradiction
             | exact absurd (h4 e22 (by omega) (by have e := he23; rwa [show ((i : Int) - 1).toNat = i - 1 by omega] at e)) (List.not_lt.2 (by assumption))
          ·
           repeat refine c_seq ?_
           refine c_no (by exact congrArg Value.bool (decide_eq_false hc25)) ?_; refine c_skip ?_; repeat refine c_seq ?_
           refine c_region ?_; refine l_op (o_val r_mv ?_); refine l_op (o_val (r_bin (a := (i : Int)) (b := 1) rfl rfl (fun _ => b_add (by omega) (by omega))) ?_); refine l_op (o_val r_as ?_); first | refine l_end ?_ | refine l_nil ?_
           have hat : mayAt g.l i := fun x hx => by
             have ex : x = e6 := Option.some.inj (hx.symm.trans he7)
             subst ex
             refine ⟨⟨by assumption, by omega, by omega⟩, fun y hp hy => ?_⟩
             have ey : y = e22 := Option.some.inj (hy.symm.trans (by have e := he23; rwa [show ((i : Int) - 1).toNat = i - 1 by omega] at e))
             subst ey
             exact List.not_le.1 (by assumption)
           refine round_end (i + 1) ?_ ?_ ?_
           · exact ⟨rfl, show VI ((i : Int) + 1) = VI ((i + 1 : Nat) : Int) from congrArg VI (by omega), trivial⟩
           · refine ⟨?_, ?_⟩
             · try dsimp only
               exact ⟨by omega, fun j hj => (Nat.lt_or_ge j i).elim (hinv j) (fun h => (show i = j by omega) ▸ hat)⟩
             · exact H.sub (List.nil_sublist _)
           · show g.len - (i + 1 : Nat) < g.len - i; omega
         ·
          refine s_no rfl rfl (by exact congrArg Value.bool (decide_eq_false hc21)) rfl ?_; refine s_no rfl rfl (by exact congrArg Value.bool (decide_eq_false hc21)) rfl ?_; refine s_no rfl rfl (by exact congrArg Value.bool (decide_eq_false hc21)) rfl ?_; refine s_no rfl rfl (by exact congrArg Value.bool (decide_eq_false hc21)) rfl ?_; refine s_no rfl rfl (by exact congrArg Value.bool (decide_eq_false hc21)) rfl ?_; refine s_no rfl rfl (by exact congrArg Value.bool (decide_eq_false hc21)) rfl ?_; refine s_no rfl rfl (by exact congrArg Value.bool (decide_eq_false hc21)) rfl ?_; refine s_no rfl rfl (by exact congrArg Value.bool (decide_eq_false hc21)) rfl ?_; refine s_no rfl rfl (by exact congrArg Value.bool (decide_eq_false hc21)) rfl ?_; refine s_yes rfl rfl rfl (r_pick (b := false) (congrArg Value.bool (decide_eq_false hc21))) ?_; refine s_op (r_pick rfl) ?_; refine s_nil ?_; repeat refine c_seq ?_
          refine c_no rfl ?_; refine c_skip ?_; repeat refine c_seq ?_
          refine c_region ?_; refine l_op (o_val r_mv ?_); refine l_op (o_val (r_bin (a := (i : Int)) (b := 1) rfl rfl (fun _ => b_add (by omega) (by omega))) ?_); refine l_op (o_val r_as ?_); first | refine l_end ?_ | refine l_nil ?_
          have hat : mayAt g.l i := fun x hx => by
            have ex : x = e6 := Option.some.inj (hx.symm.trans he7)
            subst ex
            refine ⟨⟨by assumption, by omega, by omega⟩, fun y hp hy => ?_⟩
            omega
          refine round_end (i + 1) ?_ ?_ ?_
          · exact ⟨rfl, show VI ((i : Int) + 1) = VI ((i + 1 : Nat) : Int) from congrArg VI (by omega), trivial⟩
          · refine ⟨?_, ?_⟩
            · try dsimp only
              exact ⟨by omega, fun j hj => (Nat.lt_or_ge j i).elim (hinv j) (fun h => (show i = j by omega) ▸ hat)⟩
            · exact H.sub (List.nil_sublist _)
          · show g.len - (i + 1 : Nat) < g.len - i; omega
    ·
     refine s_no rfl rfl (by exact congrArg Value.bool (congrArg not (decide_eq_false hc10))) rfl ?_; refine s_no rfl rfl (by exact congrArg Value.bool (congrArg not (decide_eq_false hc10))) rfl ?_; refine s_no rfl rfl (by exact congrArg Value.bool (congrArg not (decide_eq_false hc10))) rfl ?_; refine s_op (r_pick (b := true) (congrArg Value.bool (congrArg not (decide_eq_false hc10)))) ?_; refine s_op (r_mv) ?_; refine s_no rfl rfl rfl rfl ?_; refine s_no rfl rfl rfl rfl ?_; refine s_no rfl rfl rfl rfl ?_; refine s_op (r_pick rfl) ?_; refine s_op (r_mv) ?_; refine s_no rfl rfl rfl rfl ?_; refine s_no rfl rfl rfl rfl ?_; refine s_no rfl rfl rfl rfl ?_; refine s_op (r_pick rfl) ?_; refine s_op (r_mv) ?_; refine s_no rfl rfl rfl rfl ?_; refine s_no rfl rfl rfl rfl ?_; refine s_no rfl rfl rfl rfl ?_; refine s_no rfl rfl rfl rfl ?_; refine s_non rfl rfl rfl ?_; refine s_non rfl rfl rfl ?_; refine s_non rfl rfl rfl ?_; refine s_no rfl rfl rfl rfl ?_; refine s_op (r_pick rfl) ?_; refine s_op (r_mv) ?_; refine s_no rfl rfl rfl rfl ?_; refine s_no rfl rfl rfl rfl ?_; refine s_no rfl rfl rfl rfl ?_; refine s_non rfl rfl rfl ?_; refine s_non rfl rfl rfl ?_; refine s_non rfl rfl rfl ?_; refine s_non rfl rfl rfl ?_; refine s_non rfl rfl rfl ?_; refine s_non rfl rfl rfl ?_; refine s_non rfl rfl rfl ?_; refine s_non rfl rfl rfl ?_; refine s_non rfl rfl rfl ?_; refine s_no rfl rfl rfl rfl ?_; refine s_op (r_pick rfl) ?_; refine s_nil ?_; repeat refine c_seq ?_
     refine c_yes rfl ?_; repeat refine c_seq ?_
     refine c_region ?_; refine l_op (o_val r_as ?_); first | refine l_end ?_ | refine l_nil ?_
     refine c_ret ?_; try dsimp only [Exit.then, Exit.inBlock]
     refine e_ret1 (v := .bool false) Try.results54 rfl ?_
     refine ⟨_, rfl, ?_⟩
     refine ⟨false, rfl, ⟨fun h => (by cases h), fun h => ?_⟩, H.sub (List.nil_sublist _)⟩
     have hm := h.2 i (by omega) e6 he7
     obtain ⟨⟨h1, h2, h3⟩, h4⟩ := hm
     first
       | omega
       | contradiction
       | skip
   ·
    repeat refine c_seq ?_
    refine c_no (by exact congrArg Value.bool (decide_eq_false hc2)) ?_; refine c_exit ?_; repeat refine c_seq ?_
    refine c_region ?_; refine l_op (o_val r_as ?_); first | refine l_end ?_ | refine l_nil ?_
    refine c_ret ?_; try dsimp only [Exit.then, Exit.inBlock]
    refine e_ret1 (v := .bool true) Try.results54 rfl ?_
    refine ⟨_, rfl, ?_⟩
    exact ⟨true, rfl, ⟨fun _ => ⟨by omega, fun j hj => hinv j (by omega)⟩, fun _ => rfl⟩, H⟩
end Go.Proofs.Ytomjbabllcmodaa
namespace Go.Proofs.Ytomjbabllcmodaa
open Go
set_option maxRecDepth 100000
def BytesRes (g : List It) (l : List UInt8) (e : Int) : Prop := (e = 0 ∧ MayB g ∧ l = fldB g ∧ l.length ≤ 4000) ∨ (¬ e = 0 ∧ l = [] ∧ ¬ (MayB g ∧ (fldB g).length ≤ 4000))
theorem ofInt_toNat {v : Int} (h0 : 0 ≤ v) (h1 : v ≤ 9223372036854775807) : (UInt64.ofInt v).toNat = v.toNat := by
  simp only [UInt64.ofInt, UInt64.toNat_ofNat']; omega
theorem itB_step {l : List UInt8} {x : It} (h0 : 0 ≤ x.size) (h1 : x.size ≤ 9223372036854775807) : ((((l ++ [UInt8.ofNat x.kind.toNat]) ++ cnt x.name.length) ++ x.name) ++ x.of.1) ++ cnt (UInt64.ofInt x.size).toNat = l ++ itB x := by
  rw [ofInt_toNat h0 h1]; simp [itB]
theorem itB_len {x : It} (h0 : x.name.length ≤ 64) (h1 : x.size ≤ 9223372036854775807) : (itB x).length ≤ 117 := by
  simp only [itB, List.length_cons, List.length_append]
  have := cnt_len10 x.name.length (by omega)
  have := cnt_len10 x.size.toNat (by omega)
  have := x.of.2
  omega
theorem take_flat {g : List It} {i : Nat} {x : It} (h : g[i]? = some x) : (g.take (i + 1)).flatMap itB = (g.take i).flatMap itB ++ itB x := by
  rw [List.take_add_one, h, List.flatMap_append]; simp
theorem fbytes15_ret (w0 : World) (g : Gl It) (hg : g.ok itE 35 w0) (hfit : ∀ x ∈ g.l, x.name.length ≤ 65536 ∧ x.size ≤ 9223372036854775807) :
    Ret Try.prog 37 [g.v] w0 fun v w' => ∃ (a : Option Nat) (c : Nat) (l : List UInt8) (e : Int), v = .tuple #[.slice (hd a) l.length c, VI e] ∧ BytesRes g.l l e ∧ Hp w0 w' [] [.own a l.length c (l.map V8) 5 1] := by
  refine ret_mk Try.func37 rfl Try.ntmps37 (by simp) ?_
  have H := Hp.refl w0 []
  have hgl := hg.ln
  have hnm : ∀ x ∈ g.l, x.name.length ≤ 65536 := fun x hx => (hfit x hx).1
  repeat refine c_seq ?_
  refine c_region ?_; refine l_op (o_val r_as ?_); refine l_op (o_val r_as ?_); first | refine l_end ?_ | refine l_nil ?_
  repeat refine c_seq ?_
  refine c_region ?_; refine l_op (o_val r_mv ?_); refine l_op (o_callR Try.func54 rfl rfl rfl (fmay15_ret _ g (hg.up H) hnm) ?_); rintro _ w ⟨b1, rfl, hmay2, Hc⟩
  replace H : Hp _ w _ ([]) := H.call Hc
  clear Hc
  refine l_op (o_val (r_not rfl) ?_); first | refine l_end ?_ | refine l_nil ?_
  have hc30 := Bool.eq_false_or_eq_true (b1)
  rcases hc30 with hc3 | hc3
  ·
   repeat refine c_seq ?_
   refine c_no (by exact congrArg Value.bool (congrArg not hc3)) ?_; refine c_skip ?_; have hmb := hmay2.1 hc3
   have hg64 := hmb.1
   repeat refine c_seq ?_
   refine c_region ?_; refine l_op (o_bslB ([(68 : UInt8), (49 : UInt8)]) H sl32 zc5 rfl rfl (by decide) (fun b4 w H hb4 => ?_)); replace H : Hp _ w _ ([.own (some b4) 2 2 (([(68 : UInt8), (49 : UInt8)]).map V8) 5 1]) := H
   replace H := H.toBlkB (i := 0) rfl
   refine l_op (o_lit H (i := 0) rfl Try.underlying32 Try.underlying5 rfl (fun w H => ?_)); replace H : Hp _ w _ ([.obj b4 (litO (([(68 : UInt8), (49 : UInt8)]).map V8) 5)]) := H
   refine l_op (o_val r_mv ?_); refine l_op (o_val (r_lens el52 rfl) ?_); refine l_op (o_val (r_conv (v := ((UInt64.ofNat g.len).toNat : Int)) Try.underlying3 Try.underlying91 rfl (w_u64_N g.len (by omega))) ?_); refine l_op (o_callR Try.func55 rfl rfl rfl (count1_ret _ (⟨some ⟨b4, 0, none⟩, 2, 2, [(68 : UInt8), (49 : UInt8)]⟩ : Sl) (ok_lit H (i := 0) rfl rfl rfl (by decide) (by decide)) (UInt64.ofNat g.len) (by (try simp only []); omega)) ?_); rintro _ w ⟨a5, c6, rfl, Hc⟩
   replace H : Hp _ w _ ([_, .own a5 (([(68 : UInt8), (49 : UInt8)] ++ cnt (UInt64.ofNat g.len).toNat).length) c6 ((([(68 : UInt8), (49 : UInt8)] ++ cnt (UInt64.ofNat g.len).toNat)).map V8) 5 1]) := H.call Hc
   clear Hc
   have a5n := len_cnt ([(68 : UInt8), (49 : UInt8)]) (UInt64.ofNat g.len).toNat (UInt64.toNat_lt _)
   refine l_op (o_val r_as ?_); first | refine l_end ?_ | refine l_nil ?_
   repeat refine c_seq ?_
   refine c_region ?_; refine l_op (o_val r_as ?_); first | refine l_end ?_ | refine l_nil ?_
   repeat refine c_seq ?_
   refine c_block ?_; repeat refine c_seq ?_
   refine c_loop4 (fun (i : Nat) (l : List UInt8) (a : Option Nat) (c : Nat) => [(0, g.v), (4, .slice (hd a) l.length c), (5, VI (i : Int))])
     (fun (i : Nat) (l : List UInt8) (a : Option Nat) (c : Nat) w => (i ≤ g.len ∧ l = ([68, 49] ++ cnt g.l.length) ++ (g.l.take i).flatMap itB ∧ l.length ≤ 12 + i * 117) ∧ Hp w0 w [] ([.own a l.length c ((l).map V8) 5 1]))
     (fun (i : Nat) (l : List UInt8) (a : Option Nat) (c : Nat) => g.len - i) 0 ([(68 : UInt8), (49 : UInt8)] ++ cnt (UInt64.ofNat g.len).toNat) a5 c6 ⟨rfl, rfl, rfl, trivial⟩ ⟨⟨Nat.zero_le _, by rw [ofNat_nat _ (by omega), List.take_zero, List.flatMap_nil, List.append_nil, hgl], (by have h2 : ([68, 49] : List UInt8).length = 2 := rfl; omega)⟩, (H.sub (.cons _ (.cons_cons _ (List.nil_sublist _))))⟩ ?_
   clear H
   rintro i l a c τ w ⟨⟨hil, hl, hlen⟩, H⟩
   have hil2 : i * 117 ≤ 7488 := by omega
   repeat refine c_seq ?_
   refine c_region ?_; refine l_op (o_val r_mv ?_); refine l_op (o_val r_mv ?_); refine l_op (o_val (r_lens el52 rfl) ?_); refine l_op (o_val (r_bin (a := (i : Int)) (b := (g.len : Int)) rfl rfl (fun _ => b_lss)) ?_); first | refine l_end ?_ | refine l_nil ?_
   by_cases hc7 : (i : Int) < (g.len : Int)
   ·
    repeat refine c_seq ?_
    refine c_yes (by exact congrArg Value.bool (decide_eq_true hc7)) ?_; refine c_skip ?_; repeat refine c_seq ?_
    refine c_block ?_; repeat refine c_seq ?_
    refine c_region ?_; refine l_op (o_val r_mv ?_); refine l_op (o_val r_mv ?_); have ah10 := ((hg.up H)).addr (by decide) (by first | omega | (dsimp only; omega))
    obtain ⟨ab8, ao9, ah10⟩ := ah10
    refine l_op (o_val (r_isN i rfl rfl el52 ah10 (by omega) (by (try simp only [Sl.cut]); omega)) ?_); have he12 : ∃ c, g.l[i]? = some c := ⟨_, List.getElem?_eq_getElem (by have := ((hg.up H)).ln; (try dsimp only at this ⊢); omega)⟩
    obtain ⟨e11, he12⟩ := he12
    have hez13 := ((hg.up H)).sz e11 (List.mem_of_getElem? he12)
    have he12m := (hmb.2 i (by omega) e11 he12).1
    have he12k := he12m.2.1
    have he12s := he12m.2.2
    have he12n := he12m.1.2.2.1
    have he12t := (hfit e11 (List.mem_of_getElem? he12)).2
    clear he12m
    refine l_op (o_val (r_ldRow (s := g) (k := i) (hg.up H) ah10 rfl rt54 (by decide) he12) ?_); refine l_op (o_alloc H zc54 (fun b14 w H hb14 => ?_)); replace H : Hp _ w _ ([_, .blk b14 (([.string ⟨(([] : List UInt8)).toArray⟩, VI 0] : List Value) ++ ((List.replicate 32 (0 : UInt8)).map V8 ++ (([VI 0] : List Value)))) 54]) := H
    refine l_op (o_stW (C' := ([.string ⟨(e11.name).toArray⟩, VI e11.kind] : List Value) ++ ((e11.of.1).map V8 ++ (([VI e11.size] : List Value)))) H (i := 1) rfl rfl rfl cs54 (by first | (simp [Value.oneCell', List.all_append, List.all_map]; done) | (simp only [List.all_append, List.all_cons, List.all_nil, List.all_map]; simp [Value.oneCell', Function.comp_def])) (by simp only [List.length_append, List.length_map, List.length_cons, List.length_nil, (show (List.replicate 32 (0 : UInt8)).length = 32 from (List.length_replicate ..))]) (by simp only [List.length_append, List.length_map, List.length_cons, List.length_nil, (show (e11.of.1).length = 32 from e11.of.2)]) (fun w H => ?_)); replace H : Hp _ w _ ([_, .blk b14 (([.string ⟨(e11.name).toArray⟩, VI e11.kind] : List Value) ++ ((e11.of.1).map V8 ++ (([VI e11.size] : List Value)))) 54]) := H
    first | refine l_end ?_ | refine l_nil ?_
    have hla : (l ++ [UInt8.ofNat e11.kind.toNat]).length = l.length + 1 := by rw [List.length_append]; rfl
    repeat refine c_seq ?_
    refine wp_held (fun w => Hp w0 w [] [.blk b14 (([.string ⟨(e11.name).toArray⟩, VI e11.kind] : List Value) ++ ((e11.of.1).map V8 ++ (([VI e11.size] : List Value)))) 54]) mixed ?_; replace H := H.drew
    have HS := H.sub (.cons _ (.cons_cons _ (List.nil_sublist _)))
    refine t_take 0 rfl (by kernel_rfl) (by kernel_rfl) (by kernel_rfl) (fun _ _ _ h => h) (fun w HS => r_mv) HS ?_; refine t_take 1 rfl (by kernel_rfl) (by kernel_rfl) (by kernel_rfl) (fun _ _ _ h => h) (fun w HS => r_fa rfl fo54_1) HS ?_; refine t_take 2 rfl (by kernel_rfl) (by kernel_rfl) (by kernel_rfl) (fun _ _ _ h => h) (fun w HS => r_l1 (v := VI e11.kind) HS (i := 0) rfl rfl ct3 (show Cut3 (([.string ⟨(e11.name).toArray⟩, VI e11.kind] : List Value) ++ ((e11.of.1).map V8 ++ (([VI e11.size] : List Value)))) (([.string ⟨(e11.name).toArray⟩] : List Value)) (([VI e11.kind] : List Value)) ((e11.of.1).map V8 ++ (([VI e11.size] : List Value))) 1 1 from ⟨(show ([.string ⟨(e11.name).toArray⟩, VI e11.kind] : List Value) ++ ((e11.of.1).map V8 ++ (([VI e11.size] : List Value))) = ([.string ⟨(e11.name).toArray⟩] : List Value) ++ ((([VI e11.kind] : List Value)) ++ ((e11.of.1).map V8 ++ (([VI e11.size] : List Value)))) from by simp only [List.cons_append, List.nil_append]), (by rfl), (by rfl)⟩)) HS ?_; refine t_take 3 rfl (by kernel_rfl) (by kernel_rfl) (by kernel_rfl) (fun _ _ _ h => h) (fun w HS => r_conv (a := e11.kind) (v := ((UInt8.ofNat ((e11.kind).toNat)).toNat : Int)) Try.underlying3 Try.underlying5 rfl (w_u8_N ((e11.kind).toNat) (by omega))) HS ?_; refine t_take 6 rfl (by kernel_rfl) (by kernel_rfl) (by kernel_rfl) (fun _ _ _ h => h) (fun w HS => r_fa rfl fo54_0) HS ?_; refine t_take 7 rfl (by kernel_rfl) (by kernel_rfl) (by kernel_rfl) (fun _ _ _ h => h) (fun w HS => r_l1 (v := .string ⟨(e11.name).toArray⟩) HS (i := 0) rfl rfl ct9 (show Cut3 (([.string ⟨(e11.name).toArray⟩, VI e11.kind] : List Value) ++ ((e11.of.1).map V8 ++ (([VI e11.size] : List Value)))) (([] : List Value)) (([.string ⟨(e11.name).toArray⟩] : List Value)) (([VI e11.kind] : List Value) ++ ((e11.of.1).map V8 ++ (([VI e11.size] : List Value)))) 0 1 from ⟨(show ([.string ⟨(e11.name).toArray⟩, VI e11.kind] : List Value) ++ ((e11.of.1).map V8 ++ (([VI e11.size] : List Value))) = ([] : List Value) ++ ((([.string ⟨(e11.name).toArray⟩] : List Value)) ++ (([VI e11.kind] : List Value) ++ ((e11.of.1).map V8 ++ (([VI e11.size] : List Value))))) from by simp only [List.cons_append, List.nil_append]), (by rfl), (by rfl)⟩)) HS ?_; refine t_all [4, 8] (by kernel_rfl) (by simp) (all_cons (w_op 4 rfl ?_) (all_cons (w_op 8 rfl ?_) (all_nil)))
    ·
     refine (o_bslB ([UInt8.ofNat ((e11.kind).toNat)]) H sl32 zc5 rfl rfl (by decide) (fun b15 w H hb15 => ?_))
     replace H : Hp _ w _ ([_, _, .own (some b15) 1 1 (([UInt8.ofNat ((e11.kind).toNat)]).map V8) 5 1]) := H
     refine ⟨H.sub (.cons _ (.cons_cons _ (List.nil_sublist _))), ?_⟩
     replace HS := H.sub (.cons _ (.cons_cons _ (List.nil_sublist _)))
     refine t_all [5, 8] (by kernel_rfl) (by simp) (all_cons (w_op 5 rfl ?_) (all_cons (w_op 8 rfl ?_) (all_nil)))
     ·
      refine (o_appB (s := ⟨hd (some b15), 1, 1, [UInt8.ofNat ((e11.kind).toNat)]⟩) (l' := l ++ ([UInt8.ofNat ((e11.kind).toNat)])) (len' := (l ++ ([UInt8.ofNat ((e11.kind).toNat)])).length) rfl (by have := (e11).of.2; simp only [List.length_append, List.length_singleton]; (try omega)) H (i := 0) rfl sl32 Try.underlying32 rfl rfl (H.slOwn (i := 2) rfl) (by omega) (fun a16 c17 w H => ?_))
      replace H : Hp _ w _ ([.own a16 ((l ++ ([UInt8.ofNat ((e11.kind).toNat)])).length) c17 ((l ++ ([UInt8.ofNat ((e11.kind).toNat)])).map V8) 5 1, _, _]) := H
      refine ⟨H.sub (.cons _ (.cons_cons _ (List.nil_sublist _))), ?_⟩
      replace HS := H.sub (.cons _ (.cons_cons _ (List.nil_sublist _)))
      refine t_step 8 rfl (by kernel_rfl) (o_s2B (l := e11.name) H Try.underlying9 Try.underlying32 Try.underlying5 rfl (by omega) (fun b18 c19 ob20 w H hb18 hr21 => ?_)); replace H : Hp _ w _ ([_, _, _, .obj b18 ob20]) := H
      refine ⟨H.sub (.cons _ (.cons_cons _ (List.nil_sublist _))), ?_⟩
      replace HS := H.sub (.cons _ (.cons_cons _ (List.nil_sublist _)))
      refine t_step 9 rfl (by kernel_rfl) (o_callR Try.func56 rfl rfl rfl (text1_ret _ ⟨hd a16, (l ++ ([UInt8.ofNat ((e11.kind).toNat)])).length, c17, l ++ ([UInt8.ofNat ((e11.kind).toNat)])⟩ (⟨some ⟨b18, 0, none⟩, (e11.name).length, c19, e11.name⟩ : Sl) (H.slOwn (i := 0) rfl) (hr21 _ (H.has (.obj b18 ob20) (by simp))) (by (try simp only []); omega) (by (try simp only []); omega)) ?_); rintro _ w ⟨a22, c23, rfl, Hc⟩
      replace H : Hp _ w _ ([_, _, _, _, .own a22 (((l ++ ([UInt8.ofNat ((e11.kind).toNat)]) ++ cnt (e11.name).length) ++ e11.name).length) c23 ((((l ++ ([UInt8.ofNat ((e11.kind).toNat)]) ++ cnt (e11.name).length) ++ e11.name)).map V8) 5 1]) := H.call Hc
      clear Hc
      have a22n := len_txt (l ++ ([UInt8.ofNat ((e11.kind).toNat)])) e11.name (by omega)
      refine ⟨H.sub (.cons _ (.cons_cons _ (List.nil_sublist _))), ?_⟩
      replace HS := H.sub (.cons _ (.cons_cons _ (List.nil_sublist _)))
      refine t_take 10 rfl (by kernel_rfl) (by kernel_rfl) (by kernel_rfl) (fun _ _ _ h => h) (fun w HS => r_mv) HS ?_; refine t_take 11 rfl (by kernel_rfl) (by kernel_rfl) (by kernel_rfl) (fun _ _ _ h => h) (fun w HS => r_ext rfl rfl) HS ?_; refine t_take 12 rfl (by kernel_rfl) (by kernel_rfl) (by kernel_rfl) (fun _ _ _ h => h) (fun w HS => r_ext rfl rfl) HS ?_; refine t_take 13 rfl (by kernel_rfl) (by kernel_rfl) (by kernel_rfl) (fun _ _ _ h => h) (fun w HS => r_as) HS ?_; refine t_done (by kernel_rfl) ?_
      clear HS
      have hlb : (((l ++ ([UInt8.ofNat ((e11.kind).toNat)]) ++ cnt (e11.name).length) ++ e11.name) ++ e11.of.1).length = (((l ++ ([UInt8.ofNat ((e11.kind).toNat)]) ++ cnt (e11.name).length) ++ e11.name)).length + 32 := by rw [List.length_append, e11.of.2]
      repeat refine c_seq ?_
      refine wp_held (fun w => Hp w0 w [] [.own a16 ((l ++ ([UInt8.ofNat ((e11.kind).toNat)])).length) c17 ((l ++ ([UInt8.ofNat ((e11.kind).toNat)])).map V8) 5 1, .blk b14 (([.string ⟨(e11.name).toArray⟩, VI e11.kind] : List Value) ++ ((e11.of.1).map V8 ++ (([VI e11.size] : List Value)))) 54, .own (some b15) 1 1 (([UInt8.ofNat ((e11.kind).toNat)]).map V8) 5 1, .obj b18 ob20]) mixed ?_; replace H := H.drew
      have HS := H.sub (.cons_cons _ (.cons_cons _ (.cons_cons _ (.cons_cons _ (List.nil_sublist _)))))
      refine t_take 0 rfl (by kernel_rfl) (by kernel_rfl) (by kernel_rfl) (fun _ _ _ h => h) (fun w HS => r_mv) HS ?_; refine t_take 1 rfl (by kernel_rfl) (by kernel_rfl) (by kernel_rfl) (fun _ _ _ h => h) (fun w HS => r_fa rfl fo54_2) HS ?_; refine t_take 2 rfl (by kernel_rfl) (by kernel_rfl) (by kernel_rfl) (fun _ _ _ h => h) (fun w HS => r_slAo (o := 2) (h := 32) (m := 32) (lv := none) (hv := none) (mv := none) rfl ar29 rfl rfl rfl (fun w => sbn w)) HS ?_; refine t_take 4 rfl (by kernel_rfl) (by kernel_rfl) (by kernel_rfl) (fun _ _ _ h => h) (fun w HS => r_fa rfl fo54_3) HS ?_; refine t_take 5 rfl (by kernel_rfl) (by kernel_rfl) (by kernel_rfl) (fun _ _ _ h => h) (fun w HS => r_l1 (v := VI e11.size) HS (i := 1) rfl rfl ct2 (show Cut3 (([.string ⟨(e11.name).toArray⟩, VI e11.kind] : List Value) ++ ((e11.of.1).map V8 ++ (([VI e11.size] : List Value)))) (([.string ⟨(e11.name).toArray⟩, VI e11.kind] : List Value) ++ ((e11.of.1).map V8)) (([VI e11.size] : List Value)) (([] : List Value)) 34 1 from ⟨(show ([.string ⟨(e11.name).toArray⟩, VI e11.kind] : List Value) ++ ((e11.of.1).map V8 ++ (([VI e11.size] : List Value))) = (([.string ⟨(e11.name).toArray⟩, VI e11.kind] : List Value) ++ ((e11.of.1).map V8)) ++ ((([VI e11.size] : List Value)) ++ (([] : List Value))) from by simp only [List.cons_append, List.nil_append]), (by simp only [List.length_append, List.length_map, List.length_cons, List.length_nil, (show (e11.of.1).length = 32 from e11.of.2)]), (by rfl)⟩)) HS ?_; refine t_take 6 rfl (by kernel_rfl) (by kernel_rfl) (by kernel_rfl) (fun _ _ _ h => h) (fun w HS => r_conv Try.underlying2 Try.underlying91 rfl (w_u64_I _)) HS ?_; refine t_step 3 rfl (by kernel_rfl) (o_appB (s := (⟨some ⟨b14, 2, none⟩, 32, 32, e11.of.1⟩ : Sl)) (l' := ((l ++ ([UInt8.ofNat ((e11.kind).toNat)]) ++ cnt (e11.name).length) ++ e11.name) ++ e11.of.1) (len' := (((l ++ ([UInt8.ofNat ((e11.kind).toNat)]) ++ cnt (e11.name).length) ++ e11.name) ++ e11.of.1).length) rfl (by have := (e11).of.2; simp only [List.length_append, List.length_singleton]; (try omega)) H (i := 4) rfl sl32 Try.underlying32 rfl rfl (H.slMid (i := 1) rfl (show Cut3 (([.string ⟨(e11.name).toArray⟩, VI e11.kind] : List Value) ++ ((e11.of.1).map V8 ++ (([VI e11.size] : List Value)))) (([.string ⟨(e11.name).toArray⟩, VI e11.kind] : List Value)) ((e11.of.1).map V8) (([VI e11.size] : List Value)) 2 32 from ⟨(show ([.string ⟨(e11.name).toArray⟩, VI e11.kind] : List Value) ++ ((e11.of.1).map V8 ++ (([VI e11.size] : List Value))) = ([.string ⟨(e11.name).toArray⟩, VI e11.kind] : List Value) ++ (((e11.of.1).map V8) ++ (([VI e11.size] : List Value))) from by simp only [List.cons_append, List.nil_append]), (by rfl), (by simp only [List.length_map, (show (e11.of.1).length = 32 from e11.of.2)])⟩) (by decide)) (by omega) (fun a24 c25 w H => ?_)); replace H : Hp _ w _ ([_, _, _, _, .own a24 ((((l ++ ([UInt8.ofNat ((e11.kind).toNat)]) ++ cnt (e11.name).length) ++ e11.name) ++ e11.of.1).length) c25 ((((l ++ ([UInt8.ofNat ((e11.kind).toNat)]) ++ cnt (e11.name).length) ++ e11.name) ++ e11.of.1).map V8) 5 1]) := H
      refine ⟨H.sub (.cons_cons _ (.cons_cons _ (.cons_cons _ (.cons_cons _ (List.nil_sublist _))))), ?_⟩
      replace HS := H.sub (.cons_cons _ (.cons_cons _ (.cons_cons _ (.cons_cons _ (List.nil_sublist _)))))
      refine t_step 7 rfl (by kernel_rfl) (o_callR Try.func55 rfl rfl rfl (count1_ret _ ⟨hd a24, (((l ++ ([UInt8.ofNat ((e11.kind).toNat)]) ++ cnt (e11.name).length) ++ e11.name) ++ e11.of.1).length, c25, ((l ++ ([UInt8.ofNat ((e11.kind).toNat)]) ++ cnt (e11.name).length) ++ e11.name) ++ e11.of.1⟩ (H.slOwn (i := 4) rfl) (UInt64.ofInt e11.size) (by (try simp only []); omega)) ?_); rintro _ w ⟨a26, c27, rfl, Hc⟩
      replace H : Hp _ w _ ([_, _, _, _, _, .own a26 ((((l ++ ([UInt8.ofNat ((e11.kind).toNat)]) ++ cnt (e11.name).length) ++ e11.name) ++ e11.of.1 ++ cnt (UInt64.ofInt e11.size).toNat).length) c27 (((((l ++ ([UInt8.ofNat ((e11.kind).toNat)]) ++ cnt (e11.name).length) ++ e11.name) ++ e11.of.1 ++ cnt (UInt64.ofInt e11.size).toNat)).map V8) 5 1]) := H.call Hc
      clear Hc
      have a26n := len_cnt (((l ++ ([UInt8.ofNat ((e11.kind).toNat)]) ++ cnt (e11.name).length) ++ e11.name) ++ e11.of.1) (UInt64.ofInt e11.size).toNat (UInt64.toNat_lt _)
      refine ⟨H.sub (.cons_cons _ (.cons_cons _ (.cons_cons _ (.cons_cons _ (List.nil_sublist _))))), ?_⟩
      replace HS := H.sub (.cons_cons _ (.cons_cons _ (.cons_cons _ (.cons_cons _ (List.nil_sublist _)))))
      refine t_take 8 rfl (by kernel_rfl) (by kernel_rfl) (by kernel_rfl) (fun _ _ _ h => h) (fun w HS => r_as) HS ?_; refine t_done (by kernel_rfl) ?_
      clear HS
      repeat refine c_seq ?_
      refine c_region ?_; refine l_op (o_val r_mv ?_); refine l_op (o_val (r_bin (a := (i : Int)) (b := 1) rfl rfl (fun _ => b_add (by omega) (by omega))) ?_); refine l_op (o_val r_as ?_); first | refine l_end ?_ | refine l_nil ?_
      have hst := itB_step (l := l) (x := e11) (by omega) (by omega)
      have hl7 := itB_len (x := e11) (by omega) (by omega)
      rw [hst] at H
      refine round_end (i + 1, l ++ itB e11, a26, c27) ?_ ?_ ?_
      · exact ⟨rfl, (show (.slice (hd a26) ((((l ++ ([UInt8.ofNat ((e11.kind).toNat)]) ++ cnt (e11.name).length) ++ e11.name) ++ e11.of.1 ++ cnt (UInt64.ofInt e11.size).toNat).length) c27 : Value) = .slice (hd (a26 : Option Nat)) (l ++ itB e11 : List UInt8).length (c27 : Nat) from (by rw [hst])), show VI ((i : Int) + 1) = VI ((i + 1 : Nat) : Int) from congrArg VI (by omega), trivial⟩
      · refine ⟨?_, ?_⟩
        · try dsimp only
          exact ⟨by omega, by rw [take_flat he12, ← List.append_assoc, ← hl], by rw [List.length_append]; omega⟩
        · exact H.sub (.cons _ (.cons _ (.cons _ (.cons _ (.cons _ (.cons_cons _ (List.nil_sublist _)))))))
      · show g.len - (i + 1 : Nat) < g.len - i; omega
     ·
      refine (o_s2B (l := e11.name) H Try.underlying9 Try.underlying32 Try.underlying5 rfl (by omega) (fun b28 c29 ob30 w H hb28 hr31 => ?_))
      replace H : Hp _ w _ ([_, _, _, .obj b28 ob30]) := H
      refine ⟨H.sub (.cons _ (.cons_cons _ (List.nil_sublist _))), ?_⟩
      replace HS := H.sub (.cons _ (.cons_cons _ (List.nil_sublist _)))
      refine t_step 5 rfl (by kernel_rfl) (o_appB (s := ⟨hd (some b15), 1, 1, [UInt8.ofNat ((e11.kind).toNat)]⟩) (l' := l ++ ([UInt8.ofNat ((e11.kind).toNat)])) (len' := (l ++ ([UInt8.ofNat ((e11.kind).toNat)])).length) rfl (by have := (e11).of.2; simp only [List.length_append, List.length_singleton]; (try omega)) H (i := 0) rfl sl32 Try.underlying32 rfl rfl (H.slOwn (i := 2) rfl) (by omega) (fun a32 c33 w H => ?_)); replace H : Hp _ w _ ([.own a32 ((l ++ ([UInt8.ofNat ((e11.kind).toNat)])).length) c33 ((l ++ ([UInt8.ofNat ((e11.kind).toNat)])).map V8) 5 1, _, _, _]) := H
      refine ⟨H.sub (.cons _ (.cons_cons _ (List.nil_sublist _))), ?_⟩
      replace HS := H.sub (.cons _ (.cons_cons _ (List.nil_sublist _)))
      refine t_step 9 rfl (by kernel_rfl) (o_callR Try.func56 rfl rfl rfl (text1_ret _ ⟨hd a32, (l ++ ([UInt8.ofNat ((e11.kind).toNat)])).length, c33, l ++ ([UInt8.ofNat ((e11.kind).toNat)])⟩ (⟨some ⟨b28, 0, none⟩, (e11.name).length, c29, e11.name⟩ : Sl) (H.slOwn (i := 0) rfl) (hr31 _ (H.has (.obj b28 ob30) (by simp))) (by (try simp only []); omega) (by (try simp only []); omega)) ?_); rintro _ w ⟨a34, c35, rfl, Hc⟩
      replace H : Hp _ w _ ([_, _, _, _, .own a34 (((l ++ ([UInt8.ofNat ((e11.kind).toNat)]) ++ cnt (e11.name).length) ++ e11.name).length) c35 ((((l ++ ([UInt8.ofNat ((e11.kind).toNat)]) ++ cnt (e11.name).length) ++ e11.name)).map V8) 5 1]) := H.call Hc
      clear Hc
      have a34n := len_txt (l ++ ([UInt8.ofNat ((e11.kind).toNat)])) e11.name (by omega)
      refine ⟨H.sub (.cons _ (.cons_cons _ (List.nil_sublist _))), ?_⟩
      replace HS := H.sub (.cons _ (.cons_cons _ (List.nil_sublist _)))
      refine t_take 10 rfl (by kernel_rfl) (by kernel_rfl) (by kernel_rfl) (fun _ _ _ h => h) (fun w HS => r_mv) HS ?_; refine t_take 11 rfl (by kernel_rfl) (by kernel_rfl) (by kernel_rfl) (fun _ _ _ h => h) (fun w HS => r_ext rfl rfl) HS ?_; refine t_take 12 rfl (by kernel_rfl) (by kernel_rfl) (by kernel_rfl) (fun _ _ _ h => h) (fun w HS => r_ext rfl rfl) HS ?_; refine t_take 13 rfl (by kernel_rfl) (by kernel_rfl) (by kernel_rfl) (fun _ _ _ h => h) (fun w HS => r_as) HS ?_; refine t_done (by kernel_rfl) ?_
      clear HS
      have hlb : (((l ++ ([UInt8.ofNat ((e11.kind).toNat)]) ++ cnt (e11.name).length) ++ e11.name) ++ e11.of.1).length = (((l ++ ([UInt8.ofNat ((e11.kind).toNat)]) ++ cnt (e11.name).length) ++ e11.name)).length + 32 := by rw [List.length_append, e11.of.2]
      repeat refine c_seq ?_
      refine wp_held (fun w => Hp w0 w [] [.own a32 ((l ++ ([UInt8.ofNat ((e11.kind).toNat)])).length) c33 ((l ++ ([UInt8.ofNat ((e11.kind).toNat)])).map V8) 5 1, .blk b14 (([.string ⟨(e11.name).toArray⟩, VI e11.kind] : List Value) ++ ((e11.of.1).map V8 ++ (([VI e11.size] : List Value)))) 54, .own (some b15) 1 1 (([UInt8.ofNat ((e11.kind).toNat)]).map V8) 5 1, .obj b28 ob30]) mixed ?_; replace H := H.drew
      have HS := H.sub (.cons_cons _ (.cons_cons _ (.cons_cons _ (.cons_cons _ (List.nil_sublist _)))))
      refine t_take 0 rfl (by kernel_rfl) (by kernel_rfl) (by kernel_rfl) (fun _ _ _ h => h) (fun w HS => r_mv) HS ?_; refine t_take 1 rfl (by kernel_rfl) (by kernel_rfl) (by kernel_rfl) (fun _ _ _ h => h) (fun w HS => r_fa rfl fo54_2) HS ?_; refine t_take 2 rfl (by kernel_rfl) (by kernel_rfl) (by kernel_rfl) (fun _ _ _ h => h) (fun w HS => r_slAo (o := 2) (h := 32) (m := 32) (lv := none) (hv := none) (mv := none) rfl ar29 rfl rfl rfl (fun w => sbn w)) HS ?_; refine t_take 4 rfl (by kernel_rfl) (by kernel_rfl) (by kernel_rfl) (fun _ _ _ h => h) (fun w HS => r_fa rfl fo54_3) HS ?_; refine t_take 5 rfl (by kernel_rfl) (by kernel_rfl) (by kernel_rfl) (fun _ _ _ h => h) (fun w HS => r_l1 (v := VI e11.size) HS (i := 1) rfl rfl ct2 (show Cut3 (([.string ⟨(e11.name).toArray⟩, VI e11.kind] : List Value) ++ ((e11.of.1).map V8 ++ (([VI e11.size] : List Value)))) (([.string ⟨(e11.name).toArray⟩, VI e11.kind] : List Value) ++ ((e11.of.1).map V8)) (([VI e11.size] : List Value)) (([] : List Value)) 34 1 from ⟨(show ([.string ⟨(e11.name).toArray⟩, VI e11.kind] : List Value) ++ ((e11.of.1).map V8 ++ (([VI e11.size] : List Value))) = (([.string ⟨(e11.name).toArray⟩, VI e11.kind] : List Value) ++ ((e11.of.1).map V8)) ++ ((([VI e11.size] : List Value)) ++ (([] : List Value))) from by simp only [List.cons_append, List.nil_append]), (by simp only [List.length_append, List.length_map, List.length_cons, List.length_nil, (show (e11.of.1).length = 32 from e11.of.2)]), (by rfl)⟩)) HS ?_; refine t_take 6 rfl (by kernel_rfl) (by kernel_rfl) (by kernel_rfl) (fun _ _ _ h => h) (fun w HS => r_conv Try.underlying2 Try.underlying91 rfl (w_u64_I _)) HS ?_; refine t_step 3 rfl (by kernel_rfl) (o_appB (s := (⟨some ⟨b14, 2, none⟩, 32, 32, e11.of.1⟩ : Sl)) (l' := ((l ++ ([UInt8.ofNat ((e11.kind).toNat)]) ++ cnt (e11.name).length) ++ e11.name) ++ e11.of.1) (len' := (((l ++ ([UInt8.ofNat ((e11.kind).toNat)]) ++ cnt (e11.name).length) ++ e11.name) ++ e11.of.1).length) rfl (by have := (e11).of.2; simp only [List.length_append, List.length_singleton]; (try omega)) H (i := 4) rfl sl32 Try.underlying32 rfl rfl (H.slMid (i := 1) rfl (show Cut3 (([.string ⟨(e11.name).toArray⟩, VI e11.kind] : List Value) ++ ((e11.of.1).map V8 ++ (([VI e11.size] : List Value)))) (([.string ⟨(e11.name).toArray⟩, VI e11.kind] : List Value)) ((e11.of.1).map V8) (([VI e11.size] : List Value)) 2 32 from ⟨(show ([.string ⟨(e11.name).toArray⟩, VI e11.kind] : List Value) ++ ((e11.of.1).map V8 ++ (([VI e11.size] : List Value))) = ([.string ⟨(e11.name).toArray⟩, VI e11.kind] : List Value) ++ (((e11.of.1).map V8) ++ (([VI e11.size] : List Value))) from by simp only [List.cons_append, List.nil_append]), (by rfl), (by simp only [List.length_map, (show (e11.of.1).length = 32 from e11.of.2)])⟩) (by decide)) (by omega) (fun a36 c37 w H => ?_)); replace H : Hp _ w _ ([_, _, _, _, .own a36 ((((l ++ ([UInt8.ofNat ((e11.kind).toNat)]) ++ cnt (e11.name).length) ++ e11.name) ++ e11.of.1).length) c37 ((((l ++ ([UInt8.ofNat ((e11.kind).toNat)]) ++ cnt (e11.name).length) ++ e11.name) ++ e11.of.1).map V8) 5 1]) := H
      refine ⟨H.sub (.cons_cons _ (.cons_cons _ (.cons_cons _ (.cons_cons _ (List.nil_sublist _))))), ?_⟩
      replace HS := H.sub (.cons_cons _ (.cons_cons _ (.cons_cons _ (.cons_cons _ (List.nil_sublist _)))))
      refine t_step 7 rfl (by kernel_rfl) (o_callR Try.func55 rfl rfl rfl (count1_ret _ ⟨hd a36, (((l ++ ([UInt8.ofNat ((e11.kind).toNat)]) ++ cnt (e11.name).length) ++ e11.name) ++ e11.of.1).length, c37, ((l ++ ([UInt8.ofNat ((e11.kind).toNat)]) ++ cnt (e11.name).length) ++ e11.name) ++ e11.of.1⟩ (H.slOwn (i := 4) rfl) (UInt64.ofInt e11.size) (by (try simp only []); omega)) ?_); rintro _ w ⟨a38, c39, rfl, Hc⟩
      replace H : Hp _ w _ ([_, _, _, _, _, .own a38 ((((l ++ ([UInt8.ofNat ((e11.kind).toNat)]) ++ cnt (e11.name).length) ++ e11.name) ++ e11.of.1 ++ cnt (UInt64.ofInt e11.size).toNat).length) c39 (((((l ++ ([UInt8.ofNat ((e11.kind).toNat)]) ++ cnt (e11.name).length) ++ e11.name) ++ e11.of.1 ++ cnt (UInt64.ofInt e11.size).toNat)).map V8) 5 1]) := H.call Hc
      clear Hc
      have a38n := len_cnt (((l ++ ([UInt8.ofNat ((e11.kind).toNat)]) ++ cnt (e11.name).length) ++ e11.name) ++ e11.of.1) (UInt64.ofInt e11.size).toNat (UInt64.toNat_lt _)
      refine ⟨H.sub (.cons_cons _ (.cons_cons _ (.cons_cons _ (.cons_cons _ (List.nil_sublist _))))), ?_⟩
      replace HS := H.sub (.cons_cons _ (.cons_cons _ (.cons_cons _ (.cons_cons _ (List.nil_sublist _)))))
      refine t_take 8 rfl (by kernel_rfl) (by kernel_rfl) (by kernel_rfl) (fun _ _ _ h => h) (fun w HS => r_as) HS ?_; refine t_done (by kernel_rfl) ?_
      clear HS
      repeat refine c_seq ?_
      refine c_region ?_; refine l_op (o_val r_mv ?_); refine l_op (o_val (r_bin (a := (i : Int)) (b := 1) rfl rfl (fun _ => b_add (by omega) (by omega))) ?_); refine l_op (o_val r_as ?_); first | refine l_end ?_ | refine l_nil ?_
      have hst := itB_step (l := l) (x := e11) (by omega) (by omega)
      have hl7 := itB_len (x := e11) (by omega) (by omega)
      rw [hst] at H
      refine round_end (i + 1, l ++ itB e11, a38, c39) ?_ ?_ ?_
      · exact ⟨rfl, (show (.slice (hd a38) ((((l ++ ([UInt8.ofNat ((e11.kind).toNat)]) ++ cnt (e11.name).length) ++ e11.name) ++ e11.of.1 ++ cnt (UInt64.ofInt e11.size).toNat).length) c39 : Value) = .slice (hd (a38 : Option Nat)) (l ++ itB e11 : List UInt8).length (c39 : Nat) from (by rw [hst])), show VI ((i : Int) + 1) = VI ((i + 1 : Nat) : Int) from congrArg VI (by omega), trivial⟩
      · refine ⟨?_, ?_⟩
        · try dsimp only
          exact ⟨by omega, by rw [take_flat he12, ← List.append_assoc, ← hl], by rw [List.length_append]; omega⟩
        · exact H.sub (.cons _ (.cons _ (.cons _ (.cons _ (.cons _ (.cons_cons _ (List.nil_sublist _)))))))
      · show g.len - (i + 1 : Nat) < g.len - i; omega
    ·
     refine (o_s2B (l := e11.name) H Try.underlying9 Try.underlying32 Try.underlying5 rfl (by omega) (fun b40 c41 ob42 w H hb40 hr43 => ?_))
     replace H : Hp _ w _ ([_, _, .obj b40 ob42]) := H
     refine ⟨H.sub (.cons _ (.cons_cons _ (List.nil_sublist _))), ?_⟩
     replace HS := H.sub (.cons _ (.cons_cons _ (List.nil_sublist _)))
     refine t_step 4 rfl (by kernel_rfl) (o_bslB ([UInt8.ofNat ((e11.kind).toNat)]) H sl32 zc5 rfl rfl (by decide) (fun b44 w H hb44 => ?_)); replace H : Hp _ w _ ([_, _, _, .own (some b44) 1 1 (([UInt8.ofNat ((e11.kind).toNat)]).map V8) 5 1]) := H
     refine ⟨H.sub (.cons _ (.cons_cons _ (List.nil_sublist _))), ?_⟩
     replace HS := H.sub (.cons _ (.cons_cons _ (List.nil_sublist _)))
     refine t_step 5 rfl (by kernel_rfl) (o_appB (s := ⟨hd (some b44), 1, 1, [UInt8.ofNat ((e11.kind).toNat)]⟩) (l' := l ++ ([UInt8.ofNat ((e11.kind).toNat)])) (len' := (l ++ ([UInt8.ofNat ((e11.kind).toNat)])).length) rfl (by have := (e11).of.2; simp only [List.length_append, List.length_singleton]; (try omega)) H (i := 0) rfl sl32 Try.underlying32 rfl rfl (H.slOwn (i := 3) rfl) (by omega) (fun a45 c46 w H => ?_)); replace H : Hp _ w _ ([.own a45 ((l ++ ([UInt8.ofNat ((e11.kind).toNat)])).length) c46 ((l ++ ([UInt8.ofNat ((e11.kind).toNat)])).map V8) 5 1, _, _, _]) := H
     refine ⟨H.sub (.cons _ (.cons_cons _ (List.nil_sublist _))), ?_⟩
     replace HS := H.sub (.cons _ (.cons_cons _ (List.nil_sublist _)))
     refine t_step 9 rfl (by kernel_rfl) (o_callR Try.func56 rfl rfl rfl (text1_ret _ ⟨hd a45, (l ++ ([UInt8.ofNat ((e11.kind).toNat)])).length, c46, l ++ ([UInt8.ofNat ((e11.kind).toNat)])⟩ (⟨some ⟨b40, 0, none⟩, (e11.name).length, c41, e11.name⟩ : Sl) (H.slOwn (i := 0) rfl) (hr43 _ (H.has (.obj b40 ob42) (by simp))) (by (try simp only []); omega) (by (try simp only []); omega)) ?_); rintro _ w ⟨a47, c48, rfl, Hc⟩
     replace H : Hp _ w _ ([_, _, _, _, .own a47 (((l ++ ([UInt8.ofNat ((e11.kind).toNat)]) ++ cnt (e11.name).length) ++ e11.name).length) c48 ((((l ++ ([UInt8.ofNat ((e11.kind).toNat)]) ++ cnt (e11.name).length) ++ e11.name)).map V8) 5 1]) := H.call Hc
     clear Hc
     have a47n := len_txt (l ++ ([UInt8.ofNat ((e11.kind).toNat)])) e11.name (by omega)
     refine ⟨H.sub (.cons _ (.cons_cons _ (List.nil_sublist _))), ?_⟩
     replace HS := H.sub (.cons _ (.cons_cons _ (List.nil_sublist _)))
     refine t_take 10 rfl (by kernel_rfl) (by kernel_rfl) (by kernel_rfl) (fun _ _ _ h => h) (fun w HS => r_mv) HS ?_; refine t_take 11 rfl (by kernel_rfl) (by kernel_rfl) (by kernel_rfl) (fun _ _ _ h => h) (fun w HS => r_ext rfl rfl) HS ?_; refine t_take 12 rfl (by kernel_rfl) (by kernel_rfl) (by kernel_rfl) (fun _ _ _ h => h) (fun w HS => r_ext rfl rfl) HS ?_; refine t_take 13 rfl (by kernel_rfl) (by kernel_rfl) (by kernel_rfl) (fun _ _ _ h => h) (fun w HS => r_as) HS ?_; refine t_done (by kernel_rfl) ?_
     clear HS
     have hlb : (((l ++ ([UInt8.ofNat ((e11.kind).toNat)]) ++ cnt (e11.name).length) ++ e11.name) ++ e11.of.1).length = (((l ++ ([UInt8.ofNat ((e11.kind).toNat)]) ++ cnt (e11.name).length) ++ e11.name)).length + 32 := by rw [List.length_append, e11.of.2]
     repeat refine c_seq ?_
     refine wp_held (fun w => Hp w0 w [] [.own a45 ((l ++ ([UInt8.ofNat ((e11.kind).toNat)])).length) c46 ((l ++ ([UInt8.ofNat ((e11.kind).toNat)])).map V8) 5 1, .blk b14 (([.string ⟨(e11.name).toArray⟩, VI e11.kind] : List Value) ++ ((e11.of.1).map V8 ++ (([VI e11.size] : List Value)))) 54, .obj b40 ob42, .own (some b44) 1 1 (([UInt8.ofNat ((e11.kind).toNat)]).map V8) 5 1]) mixed ?_; replace H := H.drew
     have HS := H.sub (.cons_cons _ (.cons_cons _ (.cons_cons _ (.cons_cons _ (List.nil_sublist _)))))
     refine t_take 0 rfl (by kernel_rfl) (by kernel_rfl) (by kernel_rfl) (fun _ _ _ h => h) (fun w HS => r_mv) HS ?_; refine t_take 1 rfl (by kernel_rfl) (by kernel_rfl) (by kernel_rfl) (fun _ _ _ h => h) (fun w HS => r_fa rfl fo54_2) HS ?_; refine t_take 2 rfl (by kernel_rfl) (by kernel_rfl) (by kernel_rfl) (fun _ _ _ h => h) (fun w HS => r_slAo (o := 2) (h := 32) (m := 32) (lv := none) (hv := none) (mv := none) rfl ar29 rfl rfl rfl (fun w => sbn w)) HS ?_; refine t_take 4 rfl (by kernel_rfl) (by kernel_rfl) (by kernel_rfl) (fun _ _ _ h => h) (fun w HS => r_fa rfl fo54_3) HS ?_; refine t_take 5 rfl (by kernel_rfl) (by kernel_rfl) (by kernel_rfl) (fun _ _ _ h => h) (fun w HS => r_l1 (v := VI e11.size) HS (i := 1) rfl rfl ct2 (show Cut3 (([.string ⟨(e11.name).toArray⟩, VI e11.kind] : List Value) ++ ((e11.of.1).map V8 ++ (([VI e11.size] : List Value)))) (([.string ⟨(e11.name).toArray⟩, VI e11.kind] : List Value) ++ ((e11.of.1).map V8)) (([VI e11.size] : List Value)) (([] : List Value)) 34 1 from ⟨(show ([.string ⟨(e11.name).toArray⟩, VI e11.kind] : List Value) ++ ((e11.of.1).map V8 ++ (([VI e11.size] : List Value))) = (([.string ⟨(e11.name).toArray⟩, VI e11.kind] : List Value) ++ ((e11.of.1).map V8)) ++ ((([VI e11.size] : List Value)) ++ (([] : List Value))) from by simp only [List.cons_append, List.nil_append]), (by simp only [List.length_append, List.length_map, List.length_cons, List.length_nil, (show (e11.of.1).length = 32 from e11.of.2)]), (by rfl)⟩)) HS ?_; refine t_take 6 rfl (by kernel_rfl) (by kernel_rfl) (by kernel_rfl) (fun _ _ _ h => h) (fun w HS => r_conv Try.underlying2 Try.underlying91 rfl (w_u64_I _)) HS ?_; refine t_step 3 rfl (by kernel_rfl) (o_appB (s := (⟨some ⟨b14, 2, none⟩, 32, 32, e11.of.1⟩ : Sl)) (l' := ((l ++ ([UInt8.ofNat ((e11.kind).toNat)]) ++ cnt (e11.name).length) ++ e11.name) ++ e11.of.1) (len' := (((l ++ ([UInt8.ofNat ((e11.kind).toNat)]) ++ cnt (e11.name).length) ++ e11.name) ++ e11.of.1).length) rfl (by have := (e11).of.2; simp only [List.length_append, List.length_singleton]; (try omega)) H (i := 4) rfl sl32 Try.underlying32 rfl rfl (H.slMid (i := 1) rfl (show Cut3 (([.string ⟨(e11.name).toArray⟩, VI e11.kind] : List Value) ++ ((e11.of.1).map V8 ++ (([VI e11.size] : List Value)))) (([.string ⟨(e11.name).toArray⟩, VI e11.kind] : List Value)) ((e11.of.1).map V8) (([VI e11.size] : List Value)) 2 32 from ⟨(show ([.string ⟨(e11.name).toArray⟩, VI e11.kind] : List Value) ++ ((e11.of.1).map V8 ++ (([VI e11.size] : List Value))) = ([.string ⟨(e11.name).toArray⟩, VI e11.kind] : List Value) ++ (((e11.of.1).map V8) ++ (([VI e11.size] : List Value))) from by simp only [List.cons_append, List.nil_append]), (by rfl), (by simp only [List.length_map, (show (e11.of.1).length = 32 from e11.of.2)])⟩) (by decide)) (by omega) (fun a49 c50 w H => ?_)); replace H : Hp _ w _ ([_, _, _, _, .own a49 ((((l ++ ([UInt8.ofNat ((e11.kind).toNat)]) ++ cnt (e11.name).length) ++ e11.name) ++ e11.of.1).length) c50 ((((l ++ ([UInt8.ofNat ((e11.kind).toNat)]) ++ cnt (e11.name).length) ++ e11.name) ++ e11.of.1).map V8) 5 1]) := H
     refine ⟨H.sub (.cons_cons _ (.cons_cons _ (.cons_cons _ (.cons_cons _ (List.nil_sublist _))))), ?_⟩
     replace HS := H.sub (.cons_cons _ (.cons_cons _ (.cons_cons _ (.cons_cons _ (List.nil_sublist _)))))
     refine t_step 7 rfl (by kernel_rfl) (o_callR Try.func55 rfl rfl rfl (count1_ret _ ⟨hd a49, (((l ++ ([UInt8.ofNat ((e11.kind).toNat)]) ++ cnt (e11.name).length) ++ e11.name) ++ e11.of.1).length, c50, ((l ++ ([UInt8.ofNat ((e11.kind).toNat)]) ++ cnt (e11.name).length) ++ e11.name) ++ e11.of.1⟩ (H.slOwn (i := 4) rfl) (UInt64.ofInt e11.size) (by (try simp only []); omega)) ?_); rintro _ w ⟨a51, c52, rfl, Hc⟩
     replace H : Hp _ w _ ([_, _, _, _, _, .own a51 ((((l ++ ([UInt8.ofNat ((e11.kind).toNat)]) ++ cnt (e11.name).length) ++ e11.name) ++ e11.of.1 ++ cnt (UInt64.ofInt e11.size).toNat).length) c52 (((((l ++ ([UInt8.ofNat ((e11.kind).toNat)]) ++ cnt (e11.name).length) ++ e11.name) ++ e11.of.1 ++ cnt (UInt64.ofInt e11.size).toNat)).map V8) 5 1]) := H.call Hc
     clear Hc
     have a51n := len_cnt (((l ++ ([UInt8.ofNat ((e11.kind).toNat)]) ++ cnt (e11.name).length) ++ e11.name) ++ e11.of.1) (UInt64.ofInt e11.size).toNat (UInt64.toNat_lt _)
     refine ⟨H.sub (.cons_cons _ (.cons_cons _ (.cons_cons _ (.cons_cons _ (List.nil_sublist _))))), ?_⟩
     replace HS := H.sub (.cons_cons _ (.cons_cons _ (.cons_cons _ (.cons_cons _ (List.nil_sublist _)))))
     refine t_take 8 rfl (by kernel_rfl) (by kernel_rfl) (by kernel_rfl) (fun _ _ _ h => h) (fun w HS => r_as) HS ?_; refine t_done (by kernel_rfl) ?_
     clear HS
     repeat refine c_seq ?_
     refine c_region ?_; refine l_op (o_val r_mv ?_); refine l_op (o_val (r_bin (a := (i : Int)) (b := 1) rfl rfl (fun _ => b_add (by omega) (by omega))) ?_); refine l_op (o_val r_as ?_); first | refine l_end ?_ | refine l_nil ?_
     have hst := itB_step (l := l) (x := e11) (by omega) (by omega)
     have hl7 := itB_len (x := e11) (by omega) (by omega)
     rw [hst] at H
     refine round_end (i + 1, l ++ itB e11, a51, c52) ?_ ?_ ?_
     · exact ⟨rfl, (show (.slice (hd a51) ((((l ++ ([UInt8.ofNat ((e11.kind).toNat)]) ++ cnt (e11.name).length) ++ e11.name) ++ e11.of.1 ++ cnt (UInt64.ofInt e11.size).toNat).length) c52 : Value) = .slice (hd (a51 : Option Nat)) (l ++ itB e11 : List UInt8).length (c52 : Nat) from (by rw [hst])), show VI ((i : Int) + 1) = VI ((i + 1 : Nat) : Int) from congrArg VI (by omega), trivial⟩
     · refine ⟨?_, ?_⟩
       · try dsimp only
         exact ⟨by omega, by rw [take_flat he12, ← List.append_assoc, ← hl], by rw [List.length_append]; omega⟩
       · exact H.sub (.cons _ (.cons _ (.cons _ (.cons _ (.cons _ (.cons_cons _ (List.nil_sublist _)))))))
     · show g.len - (i + 1 : Nat) < g.len - i; omega
   ·
    repeat refine c_seq ?_
    refine c_no (by exact congrArg Value.bool (decide_eq_false hc7)) ?_; refine c_exit ?_; repeat refine c_seq ?_
    refine c_region ?_; refine l_op (o_val r_mv ?_); refine l_op (o_val (r_lens el32 rfl) ?_); refine l_op (o_val (r_bin (a := (l.length : Int)) (b := 4000) rfl rfl (fun _ => b_gtr)) ?_); first | refine l_end ?_ | refine l_nil ?_
    by_cases hc53 : 4000 < (l.length : Int)
    ·
     repeat refine c_seq ?_
     refine c_yes (by exact congrArg Value.bool (decide_eq_true hc53)) ?_; repeat refine c_seq ?_
     refine c_region ?_; refine l_op (o_val r_as ?_); refine l_op (o_val r_as ?_); first | refine l_end ?_ | refine l_nil ?_
     refine c_ret ?_; try dsimp only [Exit.then, Exit.inBlock]
     refine e_retN (vs := [.slice none 0 0, VI 2]) _ Try.results37 rfl (resT (v := .slice none 0 0) rfl (resT (v := VI 2) rfl (resZ))) ?_
     refine ⟨_, rfl, ?_⟩
     have hf : l = fldB g.l := by rw [hl, List.take_of_length_le (by omega), fldB, List.append_assoc]
     exact ⟨none, 0, [], _, rfl, .inr ⟨by decide, rfl, fun h => absurd h.2 (by rw [← hf]; omega)⟩, (H.sub (List.nil_sublist _)).nilEnd 5 1⟩
    ·
     repeat refine c_seq ?_
     refine c_no (by exact congrArg Value.bool (decide_eq_false hc53)) ?_; refine c_skip ?_; repeat refine c_seq ?_
     refine c_region ?_; refine l_op (o_val r_mv ?_); refine l_op (o_val r_as ?_); refine l_op (o_val r_as ?_); first | refine l_end ?_ | refine l_nil ?_
     refine c_ret ?_; try dsimp only [Exit.then, Exit.inBlock]
     refine e_retN (vs := [.slice (hd a) l.length c, VI 0]) _ Try.results37 rfl (resT (v := .slice (hd a) l.length c) rfl (resT (v := VI 0) rfl (resZ))) ?_
     refine ⟨_, rfl, ?_⟩
     have hf : l = fldB g.l := by rw [hl, List.take_of_length_le (by omega), fldB, List.append_assoc]
     exact ⟨_, _, _, _, rfl, .inl ⟨rfl, hmb, hf, by omega⟩, H.sub (.cons_cons _ (List.nil_sublist _))⟩
  ·
   repeat refine c_seq ?_
   refine c_yes (by exact congrArg Value.bool (congrArg not hc3)) ?_; repeat refine c_seq ?_
   refine c_region ?_; refine l_op (o_val r_as ?_); refine l_op (o_val r_as ?_); first | refine l_end ?_ | refine l_nil ?_
   refine c_ret ?_; try dsimp only [Exit.then, Exit.inBlock]
   refine e_retN (vs := [.slice none 0 0, VI 1]) _ Try.results37 rfl (resT (v := .slice none 0 0) rfl (resT (v := VI 1) rfl (resZ))) ?_
   refine ⟨_, rfl, ?_⟩
   exact ⟨none, 0, [], _, rfl, .inr ⟨by decide, rfl, fun h => absurd ((hmay2.2 h.1).symm.trans hc3) (by decide)⟩, (H.sub (List.nil_sublist _)).nilEnd 5 1⟩
end Go.Proofs.Ytomjbabllcmodaa
