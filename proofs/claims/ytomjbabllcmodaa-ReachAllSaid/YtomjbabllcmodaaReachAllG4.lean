/- Lemmas for the statement ReachAll, part 4: rules of operations, walks through functions, plain laws. -/
import Derived.Test.YtomjbabllcmodaaReachAllG3
namespace Go.Proofs.Ytomjbabllcmodaa
open Go
set_option maxRecDepth 100000
def BytesRes (g : List It) (l : List UInt8) (e : Int) : Prop := (e = 0 ∧ MayB g ∧ l = fldB g ∧ l.length ≤ 4000) ∨ (¬ e = 0 ∧ l = [] ∧ ¬ (MayB g ∧ (fldB g).length ≤ 4000))
theorem ofInt_toNat {v : Int} (h0 : 0 ≤ v) (h1 : v ≤ 9223372036854775807) : (UInt64.ofInt v).toNat = v.toNat := by
  simp only [UInt64.ofInt, UInt64.toNat_ofNat']; omega
theorem itB_step {l : List UInt8} {x : It} (h0 : 0 ≤ x.size) (h1 : x.size ≤ 9223372036854775807) : ((((l ++ [UInt8.ofNat x.kind.toNat]) ++ cnt x.name.length) ++ x.name) ++ x.of.1) ++ cnt (UInt64.ofInt x.size).toNat = l ++ itB x := by
  rw [ofInt_toNat h0 h1]; simp [itB]
theorem itB_len {x : It} (h0 : x.name.length ≤ 64) (h1 : x.size ≤ 9223372036854775807) : (itB x).length ≤ 117 := by
  simp only [itB, List.length_cons, List.length_append]
  have := cnt_len10 x.name.length (by omega)
  have := cnt_len10 x.size.toNat (by omega)
  have := x.of.2
  omega
theorem take_flat {g : List It} {i : Nat} {x : It} (h : g[i]? = some x) : (g.take (i + 1)).flatMap itB = (g.take i).flatMap itB ++ itB x := by
  rw [List.take_add_one, h, List.flatMap_append]; simp
theorem fbytes15_ret (w0 : World) (g : Gl It) (hg : g.ok itE 35 w0) (hfit : ∀ x ∈ g.l, x.name.length ≤ 65536 ∧ x.size ≤ 9223372036854775807) :
    Ret Try.prog 37 [g.v] w0 fun v w' => ∃ (a : Option Nat) (c : Nat) (l : List UInt8) (e : Int), v = .tuple #[.slice (hd a) l.length c, VI e] ∧ BytesRes g.l l e ∧ Hp w0 w' [] [.own a l.length c (l.map V8) 5 1] := by
  refine ret_mk Try.func37 rfl Try.ntmps37 (by simp) ?_
  have H := Hp.refl w0 []
  have hgl := hg.ln
  have hnm : ∀ x ∈ g.l, x.name.length ≤ 65536 := fun x hx => (hfit x hx).1
  repeat refine c_seq ?_
  refine c_region ?_
  refine l_op (o_val (r_as) ?_)
  refine l_op (o_val (r_as) ?_)
  first | refine l_end ?_ | refine l_nil ?_
  repeat refine c_seq ?_
  refine c_region ?_
  refine l_op (o_val (r_mv) ?_)
  refine l_op (o_callR Try.func54 rfl rfl rfl (fmay15_ret _ g (hg.up H) hnm) ?_)
  rintro _ w ⟨b1, rfl, hmay2, Hc⟩
  replace H : Hp _ w _ ([]) := H.call Hc
  clear Hc
  refine l_op (o_val (r_not rfl) ?_)
  first | refine l_end ?_ | refine l_nil ?_
  have hc30 := Bool.eq_false_or_eq_true (b1)
  rcases hc30 with hc3 | hc3
  ·
   repeat refine c_seq ?_
   refine c_no (by exact congrArg Value.bool (congrArg not hc3)) ?_
   refine c_skip ?_
   have hmb := hmay2.1 hc3
   have hg64 := hmb.1
   repeat refine c_seq ?_
   refine c_region ?_
   refine l_op (o_bslB ([(68 : UInt8), (49 : UInt8)]) H sl32 zc5 rfl rfl (by decide) (fun b4 w H hb4 => ?_))
   replace H : Hp _ w _ ([.own (some b4) 2 2 (([(68 : UInt8), (49 : UInt8)]).map V8) 5 1]) := H
   replace H := H.toBlkB (i := 0) rfl
   refine l_op (o_lit H (i := 0) rfl Try.underlying32 Try.underlying5 rfl (fun w H => ?_))
   replace H : Hp _ w _ ([.obj b4 (litO (([(68 : UInt8), (49 : UInt8)]).map V8) 5)]) := H
   refine l_op (o_val (r_mv) ?_)
   refine l_op (o_val (r_lens el52 rfl) ?_)
   refine l_op (o_val (r_conv (v := ((UInt64.ofNat g.len).toNat : Int)) Try.underlying3 Try.underlying91 rfl (w_u64_N g.len (by omega))) ?_)
   refine l_op (o_callR Try.func55 rfl rfl rfl (count1_ret _ (⟨some ⟨b4, 0, none⟩, 2, 2, [(68 : UInt8), (49 : UInt8)]⟩ : Sl) (ok_lit H (i := 0) rfl rfl rfl (by decide) (by decide)) (UInt64.ofNat g.len) (by (try simp only []); omega)) ?_)
   rintro _ w ⟨a5, c6, rfl, Hc⟩
   replace H : Hp _ w _ ([_, .own a5 (([(68 : UInt8), (49 : UInt8)] ++ cnt (UInt64.ofNat g.len).toNat).length) c6 ((([(68 : UInt8), (49 : UInt8)] ++ cnt (UInt64.ofNat g.len).toNat)).map V8) 5 1]) := H.call Hc
   clear Hc
   have a5n := len_cnt ([(68 : UInt8), (49 : UInt8)]) (UInt64.ofNat g.len).toNat (UInt64.toNat_lt _)
   refine l_op (o_val (r_as) ?_)
   first | refine l_end ?_ | refine l_nil ?_
   repeat refine c_seq ?_
   refine c_region ?_
   refine l_op (o_val (r_as) ?_)
   first | refine l_end ?_ | refine l_nil ?_
   repeat refine c_seq ?_
   refine c_block ?_
   repeat refine c_seq ?_
   refine c_loop4 (fun (i : Nat) (l : List UInt8) (a : Option Nat) (c : Nat) => [(0, g.v), (4, .slice (hd a) l.length c), (5, VI (i : Int))])
     (fun (i : Nat) (l : List UInt8) (a : Option Nat) (c : Nat) w => (i ≤ g.len ∧ l = ([68, 49] ++ cnt g.l.length) ++ (g.l.take i).flatMap itB ∧ l.length ≤ 12 + i * 117) ∧ Hp w0 w [] ([.own a l.length c ((l).map V8) 5 1]))
     (fun (i : Nat) (l : List UInt8) (a : Option Nat) (c : Nat) => g.len - i) 0 ([(68 : UInt8), (49 : UInt8)] ++ cnt (UInt64.ofNat g.len).toNat) a5 c6 ⟨rfl, rfl, rfl, trivial⟩ ⟨⟨Nat.zero_le _, by rw [ofNat_nat _ (by omega), List.take_zero, List.flatMap_nil, List.append_nil, hgl], (by have h2 : ([68, 49] : List UInt8).length = 2 := rfl; omega)⟩, (H.sub (.cons _ (.cons_cons _ (List.nil_sublist _))))⟩ ?_
   clear H
   rintro i l a c τ w ⟨⟨hil, hl, hlen⟩, H⟩
   have hil2 : i * 117 ≤ 7488 := by omega
   repeat refine c_seq ?_
   refine c_region ?_
   refine l_op (o_val (r_mv) ?_)
   refine l_op (o_val (r_mv) ?_)
   refine l_op (o_val (r_lens el52 rfl) ?_)
   refine l_op (o_val (r_bin (a := (i : Int)) (b := (g.len : Int)) rfl rfl (fun _ => b_lss)) ?_)
   first | refine l_end ?_ | refine l_nil ?_
   by_cases hc7 : (i : Int) < (g.len : Int)
   ·
    repeat refine c_seq ?_
    refine c_yes (by exact congrArg Value.bool (decide_eq_true hc7)) ?_
    refine c_skip ?_
    repeat refine c_seq ?_
    refine c_block ?_
    repeat refine c_seq ?_
    refine c_region ?_
    refine l_op (o_val (r_mv) ?_)
    refine l_op (o_val (r_mv) ?_)
    have ah10 := ((hg.up H)).addr (by decide) (by first | omega | (dsimp only; omega))
    obtain ⟨ab8, ao9, ah10⟩ := ah10
    refine l_op (o_val (r_isN i rfl rfl el52 ah10 (by omega) (by (try simp only [Sl.cut]); omega)) ?_)
    have he12 : ∃ c, g.l[i]? = some c := ⟨_, List.getElem?_eq_getElem (by have := ((hg.up H)).ln; (try dsimp only at this ⊢); omega)⟩
    obtain ⟨e11, he12⟩ := he12
    have hez13 := ((hg.up H)).sz e11 (List.mem_of_getElem? he12)
    have he12m := (hmb.2 i (by omega) e11 he12).1
    have he12k := he12m.2.1
    have he12s := he12m.2.2
    have he12n := he12m.1.2.2.1
    have he12t := (hfit e11 (List.mem_of_getElem? he12)).2
    clear he12m
    refine l_op (o_val (r_ldRow (s := g) (k := i) (hg.up H) ah10 rfl rt54 (by decide) he12) ?_)
    refine l_op (o_alloc H zc54 (fun b14 w H hb14 => ?_))
    replace H : Hp _ w _ ([_, .blk b14 (([.string ⟨(([] : List UInt8)).toArray⟩, VI 0] : List Value) ++ ((List.replicate 32 (0 : UInt8)).map V8 ++ (([VI 0] : List Value)))) 54]) := H
    refine l_op (o_stW (C' := ([.string ⟨(e11.name).toArray⟩, VI e11.kind] : List Value) ++ ((e11.of.1).map V8 ++ (([VI e11.size] : List Value)))) H (i := 1) rfl rfl rfl cs54 (by first | (simp [Value.oneCell', List.all_append, List.all_map]; done) | (simp only [List.all_append, List.all_cons, List.all_nil, List.all_map]; simp [Value.oneCell', Function.comp_def])) (by simp only [List.length_append, List.length_map, List.length_cons, List.length_nil, (show (List.replicate 32 (0 : UInt8)).length = 32 from (List.length_replicate ..))]) (by simp only [List.length_append, List.length_map, List.length_cons, List.length_nil, (show (e11.of.1).length = 32 from e11.of.2)]) (fun w H => ?_))
    replace H : Hp _ w _ ([_, .blk b14 (([.string ⟨(e11.name).toArray⟩, VI e11.kind] : List Value) ++ ((e11.of.1).map V8 ++ (([VI e11.size] : List Value)))) 54]) := H
    first | refine l_end ?_ | refine l_nil ?_
    have hla : (l ++ [UInt8.ofNat e11.kind.toNat]).length = l.length + 1 := by rw [List.length_append]; rfl
    repeat refine c_seq ?_
    refine wp_held (fun w => Hp w0 w [] [.blk b14 (([.string ⟨(e11.name).toArray⟩, VI e11.kind] : List Value) ++ ((e11.of.1).map V8 ++ (([VI e11.size] : List Value)))) 54]) mixed ?_
    replace H := H.drew
    have HS := H.sub (.cons _ (.cons_cons _ (List.nil_sublist _)))
    refine t_take 0 rfl (by kernel_rfl) (by kernel_rfl) (by kernel_rfl) (fun _ _ _ h => h) (fun w HS => r_mv) HS ?_
    refine t_take 1 rfl (by kernel_rfl) (by kernel_rfl) (by kernel_rfl) (fun _ _ _ h => h) (fun w HS => r_fa rfl fo54_1) HS ?_
    refine t_take 2 rfl (by kernel_rfl) (by kernel_rfl) (by kernel_rfl) (fun _ _ _ h => h) (fun w HS => r_l1 (v := VI e11.kind) HS (i := 0) rfl rfl ct3 (show Cut3 (([.string ⟨(e11.name).toArray⟩, VI e11.kind] : List Value) ++ ((e11.of.1).map V8 ++ (([VI e11.size] : List Value)))) (([.string ⟨(e11.name).toArray⟩] : List Value)) (([VI e11.kind] : List Value)) ((e11.of.1).map V8 ++ (([VI e11.size] : List Value))) 1 1 from ⟨(show ([.string ⟨(e11.name).toArray⟩, VI e11.kind] : List Value) ++ ((e11.of.1).map V8 ++ (([VI e11.size] : List Value))) = ([.string ⟨(e11.name).toArray⟩] : List Value) ++ ((([VI e11.kind] : List Value)) ++ ((e11.of.1).map V8 ++ (([VI e11.size] : List Value)))) from by simp only [List.cons_append, List.nil_append]), (by rfl), (by rfl)⟩)) HS ?_
    refine t_take 3 rfl (by kernel_rfl) (by kernel_rfl) (by kernel_rfl) (fun _ _ _ h => h) (fun w HS => r_conv (a := e11.kind) (v := ((UInt8.ofNat ((e11.kind).toNat)).toNat : Int)) Try.underlying3 Try.underlying5 rfl (w_u8_N ((e11.kind).toNat) (by omega))) HS ?_
    refine t_take 6 rfl (by kernel_rfl) (by kernel_rfl) (by kernel_rfl) (fun _ _ _ h => h) (fun w HS => r_fa rfl fo54_0) HS ?_
    refine t_take 7 rfl (by kernel_rfl) (by kernel_rfl) (by kernel_rfl) (fun _ _ _ h => h) (fun w HS => r_l1 (v := .string ⟨(e11.name).toArray⟩) HS (i := 0) rfl rfl ct9 (show Cut3 (([.string ⟨(e11.name).toArray⟩, VI e11.kind] : List Value) ++ ((e11.of.1).map V8 ++ (([VI e11.size] : List Value)))) (([] : List Value)) (([.string ⟨(e11.name).toArray⟩] : List Value)) (([VI e11.kind] : List Value) ++ ((e11.of.1).map V8 ++ (([VI e11.size] : List Value)))) 0 1 from ⟨(show ([.string ⟨(e11.name).toArray⟩, VI e11.kind] : List Value) ++ ((e11.of.1).map V8 ++ (([VI e11.size] : List Value))) = ([] : List Value) ++ ((([.string ⟨(e11.name).toArray⟩] : List Value)) ++ (([VI e11.kind] : List Value) ++ ((e11.of.1).map V8 ++ (([VI e11.size] : List Value))))) from by simp only [List.cons_append, List.nil_append]), (by rfl), (by rfl)⟩)) HS ?_
    refine t_all [4, 8] (by kernel_rfl) (by simp) (all_cons (w_op 4 rfl ?_) (all_cons (w_op 8 rfl ?_) (all_nil)))
    ·
     refine (o_bslB ([UInt8.ofNat ((e11.kind).toNat)]) H sl32 zc5 rfl rfl (by decide) (fun b15 w H hb15 => ?_))
     replace H : Hp _ w _ ([_, _, .own (some b15) 1 1 (([UInt8.ofNat ((e11.kind).toNat)]).map V8) 5 1]) := H
     refine ⟨H.sub (.cons _ (.cons_cons _ (List.nil_sublist _))), ?_⟩
     replace HS := H.sub (.cons _ (.cons_cons _ (List.nil_sublist _)))
     refine t_all [5, 8] (by kernel_rfl) (by simp) (all_cons (w_op 5 rfl ?_) (all_cons (w_op 8 rfl ?_) (all_nil)))
     ·
      refine (o_appB (s := ⟨hd (some b15), 1, 1, [UInt8.ofNat ((e11.kind).toNat)]⟩) (l' := l ++ ([UInt8.ofNat ((e11.kind).toNat)])) (len' := (l ++ ([UInt8.ofNat ((e11.kind).toNat)])).length) rfl (by have := (e11).of.2; simp only [List.length_append, List.length_singleton]; (try omega)) H (i := 0) rfl sl32 Try.underlying32 rfl rfl (H.slOwn (i := 2) rfl) (by omega) (fun a16 c17 w H => ?_))
      replace H : Hp _ w _ ([.own a16 ((l ++ ([UInt8.ofNat ((e11.kind).toNat)])).length) c17 ((l ++ ([UInt8.ofNat ((e11.kind).toNat)])).map V8) 5 1, _, _]) := H
      refine ⟨H.sub (.cons _ (.cons_cons _ (List.nil_sublist _))), ?_⟩
      replace HS := H.sub (.cons _ (.cons_cons _ (List.nil_sublist _)))
      refine t_step 8 rfl (by kernel_rfl) (o_s2B (l := e11.name) H Try.underlying9 Try.underlying32 Try.underlying5 rfl (by omega) (fun b18 c19 ob20 w H hb18 hr21 => ?_))
      replace H : Hp _ w _ ([_, _, _, .obj b18 ob20]) := H
      refine ⟨H.sub (.cons _ (.cons_cons _ (List.nil_sublist _))), ?_⟩
      replace HS := H.sub (.cons _ (.cons_cons _ (List.nil_sublist _)))
      refine t_step 9 rfl (by kernel_rfl) (o_callR Try.func56 rfl rfl rfl (text1_ret _ ⟨hd a16, (l ++ ([UInt8.ofNat ((e11.kind).toNat)])).length, c17, l ++ ([UInt8.ofNat ((e11.kind).toNat)])⟩ (⟨some ⟨b18, 0, none⟩, (e11.name).length, c19, e11.name⟩ : Sl) (H.slOwn (i := 0) rfl) (hr21 _ (H.has (.obj b18 ob20) (by simp))) (by (try simp only []); omega) (by (try simp only []); omega)) ?_)
      rintro _ w ⟨a22, c23, rfl, Hc⟩
      replace H : Hp _ w _ ([_, _, _, _, .own a22 (((l ++ ([UInt8.ofNat ((e11.kind).toNat)]) ++ cnt (e11.name).length) ++ e11.name).length) c23 ((((l ++ ([UInt8.ofNat ((e11.kind).toNat)]) ++ cnt (e11.name).length) ++ e11.name)).map V8) 5 1]) := H.call Hc
      clear Hc
      have a22n := len_txt (l ++ ([UInt8.ofNat ((e11.kind).toNat)])) e11.name (by omega)
      refine ⟨H.sub (.cons _ (.cons_cons _ (List.nil_sublist _))), ?_⟩
      replace HS := H.sub (.cons _ (.cons_cons _ (List.nil_sublist _)))
      refine t_take 10 rfl (by kernel_rfl) (by kernel_rfl) (by kernel_rfl) (fun _ _ _ h => h) (fun w HS => r_mv) HS ?_
      refine t_take 11 rfl (by kernel_rfl) (by kernel_rfl) (by kernel_rfl) (fun _ _ _ h => h) (fun w HS => r_ext rfl rfl) HS ?_
      refine t_take 12 rfl (by kernel_rfl) (by kernel_rfl) (by kernel_rfl) (fun _ _ _ h => h) (fun w HS => r_ext rfl rfl) HS ?_
      refine t_take 13 rfl (by kernel_rfl) (by kernel_rfl) (by kernel_rfl) (fun _ _ _ h => h) (fun w HS => r_as) HS ?_
      refine t_done (by kernel_rfl) ?_
      clear HS
      have hlb : (((l ++ ([UInt8.ofNat ((e11.kind).toNat)]) ++ cnt (e11.name).length) ++ e11.name) ++ e11.of.1).length = (((l ++ ([UInt8.ofNat ((e11.kind).toNat)]) ++ cnt (e11.name).length) ++ e11.name)).length + 32 := by rw [List.length_append, e11.of.2]
      repeat refine c_seq ?_
      refine wp_held (fun w => Hp w0 w [] [.own a16 ((l ++ ([UInt8.ofNat ((e11.kind).toNat)])).length) c17 ((l ++ ([UInt8.ofNat ((e11.kind).toNat)])).map V8) 5 1, .blk b14 (([.string ⟨(e11.name).toArray⟩, VI e11.kind] : List Value) ++ ((e11.of.1).map V8 ++ (([VI e11.size] : List Value)))) 54, .own (some b15) 1 1 (([UInt8.ofNat ((e11.kind).toNat)]).map V8) 5 1, .obj b18 ob20]) mixed ?_
      replace H := H.drew
      have HS := H.sub (.cons_cons _ (.cons_cons _ (.cons_cons _ (.cons_cons _ (List.nil_sublist _)))))
      refine t_take 0 rfl (by kernel_rfl) (by kernel_rfl) (by kernel_rfl) (fun _ _ _ h => h) (fun w HS => r_mv) HS ?_
      refine t_take 1 rfl (by kernel_rfl) (by kernel_rfl) (by kernel_rfl) (fun _ _ _ h => h) (fun w HS => r_fa rfl fo54_2) HS ?_
      refine t_take 2 rfl (by kernel_rfl) (by kernel_rfl) (by kernel_rfl) (fun _ _ _ h => h) (fun w HS => r_slAo (o := 2) (h := 32) (m := 32) (lv := none) (hv := none) (mv := none) rfl ar29 rfl rfl rfl (fun w => sbn w)) HS ?_
      refine t_take 4 rfl (by kernel_rfl) (by kernel_rfl) (by kernel_rfl) (fun _ _ _ h => h) (fun w HS => r_fa rfl fo54_3) HS ?_
      refine t_take 5 rfl (by kernel_rfl) (by kernel_rfl) (by kernel_rfl) (fun _ _ _ h => h) (fun w HS => r_l1 (v := VI e11.size) HS (i := 1) rfl rfl ct2 (show Cut3 (([.string ⟨(e11.name).toArray⟩, VI e11.kind] : List Value) ++ ((e11.of.1).map V8 ++ (([VI e11.size] : List Value)))) (([.string ⟨(e11.name).toArray⟩, VI e11.kind] : List Value) ++ ((e11.of.1).map V8)) (([VI e11.size] : List Value)) (([] : List Value)) 34 1 from ⟨(show ([.string ⟨(e11.name).toArray⟩, VI e11.kind] : List Value) ++ ((e11.of.1).map V8 ++ (([VI e11.size] : List Value))) = (([.string ⟨(e11.name).toArray⟩, VI e11.kind] : List Value) ++ ((e11.of.1).map V8)) ++ ((([VI e11.size] : List Value)) ++ (([] : List Value))) from by simp only [List.cons_append, List.nil_append]), (by simp only [List.length_append, List.length_map, List.length_cons, List.length_nil, (show (e11.of.1).length = 32 from e11.of.2)]), (by rfl)⟩)) HS ?_
      refine t_take 6 rfl (by kernel_rfl) (by kernel_rfl) (by kernel_rfl) (fun _ _ _ h => h) (fun w HS => r_conv Try.underlying2 Try.underlying91 rfl (w_u64_I _)) HS ?_
      refine t_step 3 rfl (by kernel_rfl) (o_appB (s := (⟨some ⟨b14, 2, none⟩, 32, 32, e11.of.1⟩ : Sl)) (l' := ((l ++ ([UInt8.ofNat ((e11.kind).toNat)]) ++ cnt (e11.name).length) ++ e11.name) ++ e11.of.1) (len' := (((l ++ ([UInt8.ofNat ((e11.kind).toNat)]) ++ cnt (e11.name).length) ++ e11.name) ++ e11.of.1).length) rfl (by have := (e11).of.2; simp only [List.length_append, List.length_singleton]; (try omega)) H (i := 4) rfl sl32 Try.underlying32 rfl rfl (H.slMid (i := 1) rfl (show Cut3 (([.string ⟨(e11.name).toArray⟩, VI e11.kind] : List Value) ++ ((e11.of.1).map V8 ++ (([VI e11.size] : List Value)))) (([.string ⟨(e11.name).toArray⟩, VI e11.kind] : List Value)) ((e11.of.1).map V8) (([VI e11.size] : List Value)) 2 32 from ⟨(show ([.string ⟨(e11.name).toArray⟩, VI e11.kind] : List Value) ++ ((e11.of.1).map V8 ++ (([VI e11.size] : List Value))) = ([.string ⟨(e11.name).toArray⟩, VI e11.kind] : List Value) ++ (((e11.of.1).map V8) ++ (([VI e11.size] : List Value))) from by simp only [List.cons_append, List.nil_append]), (by rfl), (by simp only [List.length_map, (show (e11.of.1).length = 32 from e11.of.2)])⟩) (by decide)) (by omega) (fun a24 c25 w H => ?_))
      replace H : Hp _ w _ ([_, _, _, _, .own a24 ((((l ++ ([UInt8.ofNat ((e11.kind).toNat)]) ++ cnt (e11.name).length) ++ e11.name) ++ e11.of.1).length) c25 ((((l ++ ([UInt8.ofNat ((e11.kind).toNat)]) ++ cnt (e11.name).length) ++ e11.name) ++ e11.of.1).map V8) 5 1]) := H
      refine ⟨H.sub (.cons_cons _ (.cons_cons _ (.cons_cons _ (.cons_cons _ (List.nil_sublist _))))), ?_⟩
      replace HS := H.sub (.cons_cons _ (.cons_cons _ (.cons_cons _ (.cons_cons _ (List.nil_sublist _)))))
      refine t_step 7 rfl (by kernel_rfl) (o_callR Try.func55 rfl rfl rfl (count1_ret _ ⟨hd a24, (((l ++ ([UInt8.ofNat ((e11.kind).toNat)]) ++ cnt (e11.name).length) ++ e11.name) ++ e11.of.1).length, c25, ((l ++ ([UInt8.ofNat ((e11.kind).toNat)]) ++ cnt (e11.name).length) ++ e11.name) ++ e11.of.1⟩ (H.slOwn (i := 4) rfl) (UInt64.ofInt e11.size) (by (try simp only []); omega)) ?_)
      rintro _ w ⟨a26, c27, rfl, Hc⟩
      replace H : Hp _ w _ ([_, _, _, _, _, .own a26 ((((l ++ ([UInt8.ofNat ((e11.kind).toNat)]) ++ cnt (e11.name).length) ++ e11.name) ++ e11.of.1 ++ cnt (UInt64.ofInt e11.size).toNat).length) c27 (((((l ++ ([UInt8.ofNat ((e11.kind).toNat)]) ++ cnt (e11.name).length) ++ e11.name) ++ e11.of.1 ++ cnt (UInt64.ofInt e11.size).toNat)).map V8) 5 1]) := H.call Hc
      clear Hc
      have a26n := len_cnt (((l ++ ([UInt8.ofNat ((e11.kind).toNat)]) ++ cnt (e11.name).length) ++ e11.name) ++ e11.of.1) (UInt64.ofInt e11.size).toNat (UInt64.toNat_lt _)
      refine ⟨H.sub (.cons_cons _ (.cons_cons _ (.cons_cons _ (.cons_cons _ (List.nil_sublist _))))), ?_⟩
      replace HS := H.sub (.cons_cons _ (.cons_cons _ (.cons_cons _ (.cons_cons _ (List.nil_sublist _)))))
      refine t_take 8 rfl (by kernel_rfl) (by kernel_rfl) (by kernel_rfl) (fun _ _ _ h => h) (fun w HS => r_as) HS ?_
      refine t_done (by kernel_rfl) ?_
      clear HS
      repeat refine c_seq ?_
      refine c_region ?_
      refine l_op (o_val (r_mv) ?_)
      refine l_op (o_val (r_bin (a := (i : Int)) (b := 1) rfl rfl (fun _ => b_add (by omega) (by omega))) ?_)
      refine l_op (o_val (r_as) ?_)
      first | refine l_end ?_ | refine l_nil ?_
      have hst := itB_step (l := l) (x := e11) (by omega) (by omega)
      have hl7 := itB_len (x := e11) (by omega) (by omega)
      rw [hst] at H
      refine round_end (i + 1, l ++ itB e11, a26, c27) ?_ ?_ ?_
      · exact ⟨rfl, (show (.slice (hd a26) ((((l ++ ([UInt8.ofNat ((e11.kind).toNat)]) ++ cnt (e11.name).length) ++ e11.name) ++ e11.of.1 ++ cnt (UInt64.ofInt e11.size).toNat).length) c27 : Value) = .slice (hd (a26 : Option Nat)) (l ++ itB e11 : List UInt8).length (c27 : Nat) from (by rw [hst])), show VI ((i : Int) + 1) = VI ((i + 1 : Nat) : Int) from congrArg VI (by omega), trivial⟩
      · refine ⟨?_, ?_⟩
        · try dsimp only
          exact ⟨by omega, by rw [take_flat he12, ← List.append_assoc, ← hl], by rw [List.length_append]; omega⟩
        · exact H.sub (.cons _ (.cons _ (.cons _ (.cons _ (.cons _ (.cons_cons _ (List.nil_sublist _)))))))
      · show g.len - (i + 1 : Nat) < g.len - i; omega
     ·
      refine (o_s2B (l := e11.name) H Try.underlying9 Try.underlying32 Try.underlying5 rfl (by omega) (fun b28 c29 ob30 w H hb28 hr31 => ?_))
      replace H : Hp _ w _ ([_, _, _, .obj b28 ob30]) := H
      refine ⟨H.sub (.cons _ (.cons_cons _ (List.nil_sublist _))), ?_⟩
      replace HS := H.sub (.cons _ (.cons_cons _ (List.nil_sublist _)))
      refine t_step 5 rfl (by kernel_rfl) (o_appB (s := ⟨hd (some b15), 1, 1, [UInt8.ofNat ((e11.kind).toNat)]⟩) (l' := l ++ ([UInt8.ofNat ((e11.kind).toNat)])) (len' := (l ++ ([UInt8.ofNat ((e11.kind).toNat)])).length) rfl (by have := (e11).of.2; simp only [List.length_append, List.length_singleton]; (try omega)) H (i := 0) rfl sl32 Try.underlying32 rfl rfl (H.slOwn (i := 2) rfl) (by omega) (fun a32 c33 w H => ?_))
      replace H : Hp _ w _ ([.own a32 ((l ++ ([UInt8.ofNat ((e11.kind).toNat)])).length) c33 ((l ++ ([UInt8.ofNat ((e11.kind).toNat)])).map V8) 5 1, _, _, _]) := H
      refine ⟨H.sub (.cons _ (.cons_cons _ (List.nil_sublist _))), ?_⟩
      replace HS := H.sub (.cons _ (.cons_cons _ (List.nil_sublist _)))
      refine t_step 9 rfl (by kernel_rfl) (o_callR Try.func56 rfl rfl rfl (text1_ret _ ⟨hd a32, (l ++ ([UInt8.ofNat ((e11.kind).toNat)])).length, c33, l ++ ([UInt8.ofNat ((e11.kind).toNat)])⟩ (⟨some ⟨b28, 0, none⟩, (e11.name).length, c29, e11.name⟩ : Sl) (H.slOwn (i := 0) rfl) (hr31 _ (H.has (.obj b28 ob30) (by simp))) (by (try simp only []); omega) (by (try simp only []); omega)) ?_)
      rintro _ w ⟨a34, c35, rfl, Hc⟩
      replace H : Hp _ w _ ([_, _, _, _, .own a34 (((l ++ ([UInt8.ofNat ((e11.kind).toNat)]) ++ cnt (e11.name).length) ++ e11.name).length) c35 ((((l ++ ([UInt8.ofNat ((e11.kind).toNat)]) ++ cnt (e11.name).length) ++ e11.name)).map V8) 5 1]) := H.call Hc
      clear Hc
      have a34n := len_txt (l ++ ([UInt8.ofNat ((e11.kind).toNat)])) e11.name (by omega)
      refine ⟨H.sub (.cons _ (.cons_cons _ (List.nil_sublist _))), ?_⟩
      replace HS := H.sub (.cons _ (.cons_cons _ (List.nil_sublist _)))
      refine t_take 10 rfl (by kernel_rfl) (by kernel_rfl) (by kernel_rfl) (fun _ _ _ h => h) (fun w HS => r_mv) HS ?_
      refine t_take 11 rfl (by kernel_rfl) (by kernel_rfl) (by kernel_rfl) (fun _ _ _ h => h) (fun w HS => r_ext rfl rfl) HS ?_
      refine t_take 12 rfl (by kernel_rfl) (by kernel_rfl) (by kernel_rfl) (fun _ _ _ h => h) (fun w HS => r_ext rfl rfl) HS ?_
      refine t_take 13 rfl (by kernel_rfl) (by kernel_rfl) (by kernel_rfl) (fun _ _ _ h => h) (fun w HS => r_as) HS ?_
      refine t_done (by kernel_rfl) ?_
      clear HS
      have hlb : (((l ++ ([UInt8.ofNat ((e11.kind).toNat)]) ++ cnt (e11.name).length) ++ e11.name) ++ e11.of.1).length = (((l ++ ([UInt8.ofNat ((e11.kind).toNat)]) ++ cnt (e11.name).length) ++ e11.name)).length + 32 := by rw [List.length_append, e11.of.2]
      repeat refine c_seq ?_
      refine wp_held (fun w => Hp w0 w [] [.own a32 ((l ++ ([UInt8.ofNat ((e11.kind).toNat)])).length) c33 ((l ++ ([UInt8.ofNat ((e11.kind).toNat)])).map V8) 5 1, .blk b14 (([.string ⟨(e11.name).toArray⟩, VI e11.kind] : List Value) ++ ((e11.of.1).map V8 ++ (([VI e11.size] : List Value)))) 54, .own (some b15) 1 1 (([UInt8.ofNat ((e11.kind).toNat)]).map V8) 5 1, .obj b28 ob30]) mixed ?_
      replace H := H.drew
      have HS := H.sub (.cons_cons _ (.cons_cons _ (.cons_cons _ (.cons_cons _ (List.nil_sublist _)))))
      refine t_take 0 rfl (by kernel_rfl) (by kernel_rfl) (by kernel_rfl) (fun _ _ _ h => h) (fun w HS => r_mv) HS ?_
      refine t_take 1 rfl (by kernel_rfl) (by kernel_rfl) (by kernel_rfl) (fun _ _ _ h => h) (fun w HS => r_fa rfl fo54_2) HS ?_
      refine t_take 2 rfl (by kernel_rfl) (by kernel_rfl) (by kernel_rfl) (fun _ _ _ h => h) (fun w HS => r_slAo (o := 2) (h := 32) (m := 32) (lv := none) (hv := none) (mv := none) rfl ar29 rfl rfl rfl (fun w => sbn w)) HS ?_
      refine t_take 4 rfl (by kernel_rfl) (by kernel_rfl) (by kernel_rfl) (fun _ _ _ h => h) (fun w HS => r_fa rfl fo54_3) HS ?_
      refine t_take 5 rfl (by kernel_rfl) (by kernel_rfl) (by kernel_rfl) (fun _ _ _ h => h) (fun w HS => r_l1 (v := VI e11.size) HS (i := 1) rfl rfl ct2 (show Cut3 (([.string ⟨(e11.name).toArray⟩, VI e11.kind] : List Value) ++ ((e11.of.1).map V8 ++ (([VI e11.size] : List Value)))) (([.string ⟨(e11.name).toArray⟩, VI e11.kind] : List Value) ++ ((e11.of.1).map V8)) (([VI e11.size] : List Value)) (([] : List Value)) 34 1 from ⟨(show ([.string ⟨(e11.name).toArray⟩, VI e11.kind] : List Value) ++ ((e11.of.1).map V8 ++ (([VI e11.size] : List Value))) = (([.string ⟨(e11.name).toArray⟩, VI e11.kind] : List Value) ++ ((e11.of.1).map V8)) ++ ((([VI e11.size] : List Value)) ++ (([] : List Value))) from by simp only [List.cons_append, List.nil_append]), (by simp only [List.length_append, List.length_map, List.length_cons, List.length_nil, (show (e11.of.1).length = 32 from e11.of.2)]), (by rfl)⟩)) HS ?_
      refine t_take 6 rfl (by kernel_rfl) (by kernel_rfl) (by kernel_rfl) (fun _ _ _ h => h) (fun w HS => r_conv Try.underlying2 Try.underlying91 rfl (w_u64_I _)) HS ?_
      refine t_step 3 rfl (by kernel_rfl) (o_appB (s := (⟨some ⟨b14, 2, none⟩, 32, 32, e11.of.1⟩ : Sl)) (l' := ((l ++ ([UInt8.ofNat ((e11.kind).toNat)]) ++ cnt (e11.name).length) ++ e11.name) ++ e11.of.1) (len' := (((l ++ ([UInt8.ofNat ((e11.kind).toNat)]) ++ cnt (e11.name).length) ++ e11.name) ++ e11.of.1).length) rfl (by have := (e11).of.2; simp only [List.length_append, List.length_singleton]; (try omega)) H (i := 4) rfl sl32 Try.underlying32 rfl rfl (H.slMid (i := 1) rfl (show Cut3 (([.string ⟨(e11.name).toArray⟩, VI e11.kind] : List Value) ++ ((e11.of.1).map V8 ++ (([VI e11.size] : List Value)))) (([.string ⟨(e11.name).toArray⟩, VI e11.kind] : List Value)) ((e11.of.1).map V8) (([VI e11.size] : List Value)) 2 32 from ⟨(show ([.string ⟨(e11.name).toArray⟩, VI e11.kind] : List Value) ++ ((e11.of.1).map V8 ++ (([VI e11.size] : List Value))) = ([.string ⟨(e11.name).toArray⟩, VI e11.kind] : List Value) ++ (((e11.of.1).map V8) ++ (([VI e11.size] : List Value))) from by simp only [List.cons_append, List.nil_append]), (by rfl), (by simp only [List.length_map, (show (e11.of.1).length = 32 from e11.of.2)])⟩) (by decide)) (by omega) (fun a36 c37 w H => ?_))
      replace H : Hp _ w _ ([_, _, _, _, .own a36 ((((l ++ ([UInt8.ofNat ((e11.kind).toNat)]) ++ cnt (e11.name).length) ++ e11.name) ++ e11.of.1).length) c37 ((((l ++ ([UInt8.ofNat ((e11.kind).toNat)]) ++ cnt (e11.name).length) ++ e11.name) ++ e11.of.1).map V8) 5 1]) := H
      refine ⟨H.sub (.cons_cons _ (.cons_cons _ (.cons_cons _ (.cons_cons _ (List.nil_sublist _))))), ?_⟩
      replace HS := H.sub (.cons_cons _ (.cons_cons _ (.cons_cons _ (.cons_cons _ (List.nil_sublist _)))))
      refine t_step 7 rfl (by kernel_rfl) (o_callR Try.func55 rfl rfl rfl (count1_ret _ ⟨hd a36, (((l ++ ([UInt8.ofNat ((e11.kind).toNat)]) ++ cnt (e11.name).length) ++ e11.name) ++ e11.of.1).length, c37, ((l ++ ([UInt8.ofNat ((e11.kind).toNat)]) ++ cnt (e11.name).length) ++ e11.name) ++ e11.of.1⟩ (H.slOwn (i := 4) rfl) (UInt64.ofInt e11.size) (by (try simp only []); omega)) ?_)
      rintro _ w ⟨a38, c39, rfl, Hc⟩
      replace H : Hp _ w _ ([_, _, _, _, _, .own a38 ((((l ++ ([UInt8.ofNat ((e11.kind).toNat)]) ++ cnt (e11.name).length) ++ e11.name) ++ e11.of.1 ++ cnt (UInt64.ofInt e11.size).toNat).length) c39 (((((l ++ ([UInt8.ofNat ((e11.kind).toNat)]) ++ cnt (e11.name).length) ++ e11.name) ++ e11.of.1 ++ cnt (UInt64.ofInt e11.size).toNat)).map V8) 5 1]) := H.call Hc
      clear Hc
      have a38n := len_cnt (((l ++ ([UInt8.ofNat ((e11.kind).toNat)]) ++ cnt (e11.name).length) ++ e11.name) ++ e11.of.1) (UInt64.ofInt e11.size).toNat (UInt64.toNat_lt _)
      refine ⟨H.sub (.cons_cons _ (.cons_cons _ (.cons_cons _ (.cons_cons _ (List.nil_sublist _))))), ?_⟩
      replace HS := H.sub (.cons_cons _ (.cons_cons _ (.cons_cons _ (.cons_cons _ (List.nil_sublist _)))))
      refine t_take 8 rfl (by kernel_rfl) (by kernel_rfl) (by kernel_rfl) (fun _ _ _ h => h) (fun w HS => r_as) HS ?_
      refine t_done (by kernel_rfl) ?_
      clear HS
      repeat refine c_seq ?_
      refine c_region ?_
      refine l_op (o_val (r_mv) ?_)
      refine l_op (o_val (r_bin (a := (i : Int)) (b := 1) rfl rfl (fun _ => b_add (by omega) (by omega))) ?_)
      refine l_op (o_val (r_as) ?_)
      first | refine l_end ?_ | refine l_nil ?_
      have hst := itB_step (l := l) (x := e11) (by omega) (by omega)
      have hl7 := itB_len (x := e11) (by omega) (by omega)
      rw [hst] at H
      refine round_end (i + 1, l ++ itB e11, a38, c39) ?_ ?_ ?_
      · exact ⟨rfl, (show (.slice (hd a38) ((((l ++ ([UInt8.ofNat ((e11.kind).toNat)]) ++ cnt (e11.name).length) ++ e11.name) ++ e11.of.1 ++ cnt (UInt64.ofInt e11.size).toNat).length) c39 : Value) = .slice (hd (a38 : Option Nat)) (l ++ itB e11 : List UInt8).length (c39 : Nat) from (by rw [hst])), show VI ((i : Int) + 1) = VI ((i + 1 : Nat) : Int) from congrArg VI (by omega), trivial⟩
      · refine ⟨?_, ?_⟩
        · try dsimp only
          exact ⟨by omega, by rw [take_flat he12, ← List.append_assoc, ← hl], by rw [List.length_append]; omega⟩
        · exact H.sub (.cons _ (.cons _ (.cons _ (.cons _ (.cons _ (.cons_cons _ (List.nil_sublist _)))))))
      · show g.len - (i + 1 : Nat) < g.len - i; omega
    ·
     refine (o_s2B (l := e11.name) H Try.underlying9 Try.underlying32 Try.underlying5 rfl (by omega) (fun b40 c41 ob42 w H hb40 hr43 => ?_))
     replace H : Hp _ w _ ([_, _, .obj b40 ob42]) := H
     refine ⟨H.sub (.cons _ (.cons_cons _ (List.nil_sublist _))), ?_⟩
     replace HS := H.sub (.cons _ (.cons_cons _ (List.nil_sublist _)))
     refine t_step 4 rfl (by kernel_rfl) (o_bslB ([UInt8.ofNat ((e11.kind).toNat)]) H sl32 zc5 rfl rfl (by decide) (fun b44 w H hb44 => ?_))
     replace H : Hp _ w _ ([_, _, _, .own (some b44) 1 1 (([UInt8.ofNat ((e11.kind).toNat)]).map V8) 5 1]) := H
     refine ⟨H.sub (.cons _ (.cons_cons _ (List.nil_sublist _))), ?_⟩
     replace HS := H.sub (.cons _ (.cons_cons _ (List.nil_sublist _)))
     refine t_step 5 rfl (by kernel_rfl) (o_appB (s := ⟨hd (some b44), 1, 1, [UInt8.ofNat ((e11.kind).toNat)]⟩) (l' := l ++ ([UInt8.ofNat ((e11.kind).toNat)])) (len' := (l ++ ([UInt8.ofNat ((e11.kind).toNat)])).length) rfl (by have := (e11).of.2; simp only [List.length_append, List.length_singleton]; (try omega)) H (i := 0) rfl sl32 Try.underlying32 rfl rfl (H.slOwn (i := 3) rfl) (by omega) (fun a45 c46 w H => ?_))
     replace H : Hp _ w _ ([.own a45 ((l ++ ([UInt8.ofNat ((e11.kind).toNat)])).length) c46 ((l ++ ([UInt8.ofNat ((e11.kind).toNat)])).map V8) 5 1, _, _, _]) := H
     refine ⟨H.sub (.cons _ (.cons_cons _ (List.nil_sublist _))), ?_⟩
     replace HS := H.sub (.cons _ (.cons_cons _ (List.nil_sublist _)))
     refine t_step 9 rfl (by kernel_rfl) (o_callR Try.func56 rfl rfl rfl (text1_ret _ ⟨hd a45, (l ++ ([UInt8.ofNat ((e11.kind).toNat)])).length, c46, l ++ ([UInt8.ofNat ((e11.kind).toNat)])⟩ (⟨some ⟨b40, 0, none⟩, (e11.name).length, c41, e11.name⟩ : Sl) (H.slOwn (i := 0) rfl) (hr43 _ (H.has (.obj b40 ob42) (by simp))) (by (try simp only []); omega) (by (try simp only []); omega)) ?_)
     rintro _ w ⟨a47, c48, rfl, Hc⟩
     replace H : Hp _ w _ ([_, _, _, _, .own a47 (((l ++ ([UInt8.ofNat ((e11.kind).toNat)]) ++ cnt (e11.name).length) ++ e11.name).length) c48 ((((l ++ ([UInt8.ofNat ((e11.kind).toNat)]) ++ cnt (e11.name).length) ++ e11.name)).map V8) 5 1]) := H.call Hc
     clear Hc
     have a47n := len_txt (l ++ ([UInt8.ofNat ((e11.kind).toNat)])) e11.name (by omega)
     refine ⟨H.sub (.cons _ (.cons_cons _ (List.nil_sublist _))), ?_⟩
     replace HS := H.sub (.cons _ (.cons_cons _ (List.nil_sublist _)))
     refine t_take 10 rfl (by kernel_rfl) (by kernel_rfl) (by kernel_rfl) (fun _ _ _ h => h) (fun w HS => r_mv) HS ?_
     refine t_take 11 rfl (by kernel_rfl) (by kernel_rfl) (by kernel_rfl) (fun _ _ _ h => h) (fun w HS => r_ext rfl rfl) HS ?_
     refine t_take 12 rfl (by kernel_rfl) (by kernel_rfl) (by kernel_rfl) (fun _ _ _ h => h) (fun w HS => r_ext rfl rfl) HS ?_
     refine t_take 13 rfl (by kernel_rfl) (by kernel_rfl) (by kernel_rfl) (fun _ _ _ h => h) (fun w HS => r_as) HS ?_
     refine t_done (by kernel_rfl) ?_
     clear HS
     have hlb : (((l ++ ([UInt8.ofNat ((e11.kind).toNat)]) ++ cnt (e11.name).length) ++ e11.name) ++ e11.of.1).length = (((l ++ ([UInt8.ofNat ((e11.kind).toNat)]) ++ cnt (e11.name).length) ++ e11.name)).length + 32 := by rw [List.length_append, e11.of.2]
     repeat refine c_seq ?_
     refine wp_held (fun w => Hp w0 w [] [.own a45 ((l ++ ([UInt8.ofNat ((e11.kind).toNat)])).length) c46 ((l ++ ([UInt8.ofNat ((e11.kind).toNat)])).map V8) 5 1, .blk b14 (([.string ⟨(e11.name).toArray⟩, VI e11.kind] : List Value) ++ ((e11.of.1).map V8 ++ (([VI e11.size] : List Value)))) 54, .obj b40 ob42, .own (some b44) 1 1 (([UInt8.ofNat ((e11.kind).toNat)]).map V8) 5 1]) mixed ?_
     replace H := H.drew
     have HS := H.sub (.cons_cons _ (.cons_cons _ (.cons_cons _ (.cons_cons _ (List.nil_sublist _)))))
     refine t_take 0 rfl (by kernel_rfl) (by kernel_rfl) (by kernel_rfl) (fun _ _ _ h => h) (fun w HS => r_mv) HS ?_
     refine t_take 1 rfl (by kernel_rfl) (by kernel_rfl) (by kernel_rfl) (fun _ _ _ h => h) (fun w HS => r_fa rfl fo54_2) HS ?_
     refine t_take 2 rfl (by kernel_rfl) (by kernel_rfl) (by kernel_rfl) (fun _ _ _ h => h) (fun w HS => r_slAo (o := 2) (h := 32) (m := 32) (lv := none) (hv := none) (mv := none) rfl ar29 rfl rfl rfl (fun w => sbn w)) HS ?_
     refine t_take 4 rfl (by kernel_rfl) (by kernel_rfl) (by kernel_rfl) (fun _ _ _ h => h) (fun w HS => r_fa rfl fo54_3) HS ?_
     refine t_take 5 rfl (by kernel_rfl) (by kernel_rfl) (by kernel_rfl) (fun _ _ _ h => h) (fun w HS => r_l1 (v := VI e11.size) HS (i := 1) rfl rfl ct2 (show Cut3 (([.string ⟨(e11.name).toArray⟩, VI e11.kind] : List Value) ++ ((e11.of.1).map V8 ++ (([VI e11.size] : List Value)))) (([.string ⟨(e11.name).toArray⟩, VI e11.kind] : List Value) ++ ((e11.of.1).map V8)) (([VI e11.size] : List Value)) (([] : List Value)) 34 1 from ⟨(show ([.string ⟨(e11.name).toArray⟩, VI e11.kind] : List Value) ++ ((e11.of.1).map V8 ++ (([VI e11.size] : List Value))) = (([.string ⟨(e11.name).toArray⟩, VI e11.kind] : List Value) ++ ((e11.of.1).map V8)) ++ ((([VI e11.size] : List Value)) ++ (([] : List Value))) from by simp only [List.cons_append, List.nil_append]), (by simp only [List.length_append, List.length_map, List.length_cons, List.length_nil, (show (e11.of.1).length = 32 from e11.of.2)]), (by rfl)⟩)) HS ?_
     refine t_take 6 rfl (by kernel_rfl) (by kernel_rfl) (by kernel_rfl) (fun _ _ _ h => h) (fun w HS => r_conv Try.underlying2 Try.underlying91 rfl (w_u64_I _)) HS ?_
     refine t_step 3 rfl (by kernel_rfl) (o_appB (s := (⟨some ⟨b14, 2, none⟩, 32, 32, e11.of.1⟩ : Sl)) (l' := ((l ++ ([UInt8.ofNat ((e11.kind).toNat)]) ++ cnt (e11.name).length) ++ e11.name) ++ e11.of.1) (len' := (((l ++ ([UInt8.ofNat ((e11.kind).toNat)]) ++ cnt (e11.name).length) ++ e11.name) ++ e11.of.1).length) rfl (by have := (e11).of.2; simp only [List.length_append, List.length_singleton]; (try omega)) H (i := 4) rfl sl32 Try.underlying32 rfl rfl (H.slMid (i := 1) rfl (show Cut3 (([.string ⟨(e11.name).toArray⟩, VI e11.kind] : List Value) ++ ((e11.of.1).map V8 ++ (([VI e11.size] : List Value)))) (([.string ⟨(e11.name).toArray⟩, VI e11.kind] : List Value)) ((e11.of.1).map V8) (([VI e11.size] : List Value)) 2 32 from ⟨(show ([.string ⟨(e11.name).toArray⟩, VI e11.kind] : List Value) ++ ((e11.of.1).map V8 ++ (([VI e11.size] : List Value))) = ([.string ⟨(e11.name).toArray⟩, VI e11.kind] : List Value) ++ (((e11.of.1).map V8) ++ (([VI e11.size] : List Value))) from by simp only [List.cons_append, List.nil_append]), (by rfl), (by simp only [List.length_map, (show (e11.of.1).length = 32 from e11.of.2)])⟩) (by decide)) (by omega) (fun a49 c50 w H => ?_))
     replace H : Hp _ w _ ([_, _, _, _, .own a49 ((((l ++ ([UInt8.ofNat ((e11.kind).toNat)]) ++ cnt (e11.name).length) ++ e11.name) ++ e11.of.1).length) c50 ((((l ++ ([UInt8.ofNat ((e11.kind).toNat)]) ++ cnt (e11.name).length) ++ e11.name) ++ e11.of.1).map V8) 5 1]) := H
     refine ⟨H.sub (.cons_cons _ (.cons_cons _ (.cons_cons _ (.cons_cons _ (List.nil_sublist _))))), ?_⟩
     replace HS := H.sub (.cons_cons _ (.cons_cons _ (.cons_cons _ (.cons_cons _ (List.nil_sublist _)))))
     refine t_step 7 rfl (by kernel_rfl) (o_callR Try.func55 rfl rfl rfl (count1_ret _ ⟨hd a49, (((l ++ ([UInt8.ofNat ((e11.kind).toNat)]) ++ cnt (e11.name).length) ++ e11.name) ++ e11.of.1).length, c50, ((l ++ ([UInt8.ofNat ((e11.kind).toNat)]) ++ cnt (e11.name).length) ++ e11.name) ++ e11.of.1⟩ (H.slOwn (i := 4) rfl) (UInt64.ofInt e11.size) (by (try simp only []); omega)) ?_)
     rintro _ w ⟨a51, c52, rfl, Hc⟩
     replace H : Hp _ w _ ([_, _, _, _, _, .own a51 ((((l ++ ([UInt8.ofNat ((e11.kind).toNat)]) ++ cnt (e11.name).length) ++ e11.name) ++ e11.of.1 ++ cnt (UInt64.ofInt e11.size).toNat).length) c52 (((((l ++ ([UInt8.ofNat ((e11.kind).toNat)]) ++ cnt (e11.name).length) ++ e11.name) ++ e11.of.1 ++ cnt (UInt64.ofInt e11.size).toNat)).map V8) 5 1]) := H.call Hc
     clear Hc
     have a51n := len_cnt (((l ++ ([UInt8.ofNat ((e11.kind).toNat)]) ++ cnt (e11.name).length) ++ e11.name) ++ e11.of.1) (UInt64.ofInt e11.size).toNat (UInt64.toNat_lt _)
     refine ⟨H.sub (.cons_cons _ (.cons_cons _ (.cons_cons _ (.cons_cons _ (List.nil_sublist _))))), ?_⟩
     replace HS := H.sub (.cons_cons _ (.cons_cons _ (.cons_cons _ (.cons_cons _ (List.nil_sublist _)))))
     refine t_take 8 rfl (by kernel_rfl) (by kernel_rfl) (by kernel_rfl) (fun _ _ _ h => h) (fun w HS => r_as) HS ?_
     refine t_done (by kernel_rfl) ?_
     clear HS
     repeat refine c_seq ?_
     refine c_region ?_
     refine l_op (o_val (r_mv) ?_)
     refine l_op (o_val (r_bin (a := (i : Int)) (b := 1) rfl rfl (fun _ => b_add (by omega) (by omega))) ?_)
     refine l_op (o_val (r_as) ?_)
     first | refine l_end ?_ | refine l_nil ?_
     have hst := itB_step (l := l) (x := e11) (by omega) (by omega)
     have hl7 := itB_len (x := e11) (by omega) (by omega)
     rw [hst] at H
     refine round_end (i + 1, l ++ itB e11, a51, c52) ?_ ?_ ?_
     · exact ⟨rfl, (show (.slice (hd a51) ((((l ++ ([UInt8.ofNat ((e11.kind).toNat)]) ++ cnt (e11.name).length) ++ e11.name) ++ e11.of.1 ++ cnt (UInt64.ofInt e11.size).toNat).length) c52 : Value) = .slice (hd (a51 : Option Nat)) (l ++ itB e11 : List UInt8).length (c52 : Nat) from (by rw [hst])), show VI ((i : Int) + 1) = VI ((i + 1 : Nat) : Int) from congrArg VI (by omega), trivial⟩
     · refine ⟨?_, ?_⟩
       · try dsimp only
         exact ⟨by omega, by rw [take_flat he12, ← List.append_assoc, ← hl], by rw [List.length_append]; omega⟩
       · exact H.sub (.cons _ (.cons _ (.cons _ (.cons _ (.cons _ (.cons_cons _ (List.nil_sublist _)))))))
     · show g.len - (i + 1 : Nat) < g.len - i; omega
   ·
    repeat refine c_seq ?_
    refine c_no (by exact congrArg Value.bool (decide_eq_false hc7)) ?_
    refine c_exit ?_
    repeat refine c_seq ?_
    refine c_region ?_
    refine l_op (o_val (r_mv) ?_)
    refine l_op (o_val (r_lens el32 rfl) ?_)
    refine l_op (o_val (r_bin (a := (l.length : Int)) (b := 4000) rfl rfl (fun _ => b_gtr)) ?_)
    first | refine l_end ?_ | refine l_nil ?_
    by_cases hc53 : 4000 < (l.length : Int)
    ·
     repeat refine c_seq ?_
     refine c_yes (by exact congrArg Value.bool (decide_eq_true hc53)) ?_
     repeat refine c_seq ?_
     refine c_region ?_
     refine l_op (o_val (r_as) ?_)
     refine l_op (o_val (r_as) ?_)
     first | refine l_end ?_ | refine l_nil ?_
     refine c_ret ?_
     try dsimp only [Exit.then, Exit.inBlock]
     refine e_retN (vs := [.slice none 0 0, VI 2]) _ Try.results37 rfl (resT (v := .slice none 0 0) rfl (resT (v := VI 2) rfl (resZ))) ?_
     refine ⟨_, rfl, ?_⟩
     have hf : l = fldB g.l := by rw [hl, List.take_of_length_le (by omega), fldB, List.append_assoc]
     exact ⟨none, 0, [], _, rfl, .inr ⟨by decide, rfl, fun h => absurd h.2 (by rw [← hf]; omega)⟩, (H.sub (List.nil_sublist _)).nilEnd 5 1⟩
    ·
     repeat refine c_seq ?_
     refine c_no (by exact congrArg Value.bool (decide_eq_false hc53)) ?_
     refine c_skip ?_
     repeat refine c_seq ?_
     refine c_region ?_
     refine l_op (o_val (r_mv) ?_)
     refine l_op (o_val (r_as) ?_)
     refine l_op (o_val (r_as) ?_)
     first | refine l_end ?_ | refine l_nil ?_
     refine c_ret ?_
     try dsimp only [Exit.then, Exit.inBlock]
     refine e_retN (vs := [.slice (hd a) l.length c, VI 0]) _ Try.results37 rfl (resT (v := .slice (hd a) l.length c) rfl (resT (v := VI 0) rfl (resZ))) ?_
     refine ⟨_, rfl, ?_⟩
     have hf : l = fldB g.l := by rw [hl, List.take_of_length_le (by omega), fldB, List.append_assoc]
     exact ⟨_, _, _, _, rfl, .inl ⟨rfl, hmb, hf, by omega⟩, H.sub (.cons_cons _ (List.nil_sublist _))⟩
  ·
   repeat refine c_seq ?_
   refine c_yes (by exact congrArg Value.bool (congrArg not hc3)) ?_
   repeat refine c_seq ?_
   refine c_region ?_
   refine l_op (o_val (r_as) ?_)
   refine l_op (o_val (r_as) ?_)
   first | refine l_end ?_ | refine l_nil ?_
   refine c_ret ?_
   try dsimp only [Exit.then, Exit.inBlock]
   refine e_retN (vs := [.slice none 0 0, VI 1]) _ Try.results37 rfl (resT (v := .slice none 0 0) rfl (resT (v := VI 1) rfl (resZ))) ?_
   refine ⟨_, rfl, ?_⟩
   exact ⟨none, 0, [], _, rfl, .inr ⟨by decide, rfl, fun h => absurd ((hmay2.2 h.1).symm.trans hc3) (by decide)⟩, (H.sub (List.nil_sublist _)).nilEnd 5 1⟩
end Go.Proofs.Ytomjbabllcmodaa
namespace Go.Proofs.Ytomjbabllcmodaa
open Go
set_option maxRecDepth 100000
theorem fld_head {L : List UInt8} {m : List It} (hm : MayF m) (e : fldB m = L) : 3 ≤ L.length ∧ (L.getD 0 0).toNat = 68 ∧ (L.getD 1 0).toNat = 49 ∧ (L.getD 2 0).toNat = m.length := by
  subst e
  have h := hm.len
  rw [fldB, cnt_one _ (by omega)]
  refine ⟨by simp, rfl, rfl, ?_⟩
  show (UInt8.ofNat m.length).toNat = m.length
  rw [UInt8.toNat_ofNat']; omega
theorem take15_no1 {L : List UInt8} (h : L.length < 3 ∨ ¬ (L.getD 0 0).toNat = 68 ∨ ¬ (L.getD 1 0).toNat = 49 ∨ 64 < (L.getD 2 0).toNat) : takeF L = none := by
  refine takeF_none fun m hm _ e => ?_
  obtain ⟨h1, h2, h3, h4⟩ := fld_head hm e
  have := hm.len
  omega
theorem take15_cut {L : List UInt8} (h3 : ¬ L.length < 3) (h0 : (L.getD 0 0).toNat = 68) (h1 : (L.getD 1 0).toNat = 49) (h2 : (L.getD 2 0).toNat ≤ 64) : L = [68, 49] ++ (cnt (L.getD 2 0).toNat ++ (([] : List It).flatMap itB ++ L.drop 3)) := by
  match L, h3, h0, h1, h2 with
  | a :: b :: c :: t, _, h0, h1, h2 =>
    have e0 : a = 68 := UInt8.toNat_inj.1 h0
    have e1 : b = 49 := UInt8.toNat_inj.1 h1
    have e2 : ([a, b, c].getD 2 0) = c := rfl
    subst e0 e1
    show _ = [68, 49] ++ (cnt c.toNat ++ _)
    have h2' : c.toNat ≤ 64 := h2
    rw [cnt_one _ (by omega), UInt8.ofNat_toNat]
    rfl
  | [], h3, _, _, _ => exact absurd (by simp : ([] : List UInt8).length < 3) h3
  | [_], h3, _, _, _ => exact absurd (by simp) h3
  | [_, _], h3, _, _, _ => exact absurd (by simp) h3
theorem noIt_two {b : List UInt8} (h : b.length < 2) : NoIt b := fun x r _ e => by
  have := congrArg List.length e
  have h2 := cnt_pos x.name.length
  simp only [itB, List.cons_append, List.length_cons, List.length_append] at this
  omega
theorem take15_end {L b : List UInt8} {l : List It} {t : List UInt8} {e : Int} {n : Nat} (hL : L = [68, 49] ++ (cnt n ++ (l.flatMap itB ++ b))) (hl : ∀ x ∈ l, x.fits) (hlt : l.length = n) (hb : BytesRes l t e) : (e = 0 ∧ t = L → takeF L = some l) ∧ (¬ (e = 0 ∧ t = L) → takeF L = none) := by
  constructor
  · rintro ⟨rfl, rfl⟩
    rcases hb with ⟨_, h1, h2, h3⟩ | ⟨h, _⟩
    · exact takeF_some (mayF_of h1 fun x hx => (hl x hx).2.2) h2.symm h3
    · exact absurd rfl h
  · intro h
    refine takeF_none fun m hm h4 he => ?_
    obtain ⟨h1, h2⟩ := take_cnt hL he
    obtain ⟨e1, e2⟩ := items_inj (r := []) (s := b) (l := m) (m := l) (by omega) (fun x hx => (hm.ok x hx).fits.1) (fun x hx => (hl x hx).1) (by rw [List.append_nil]; exact h2)
    subst e1
    rcases hb with ⟨h0, _, h2, _⟩ | ⟨_, _, h3⟩
    · exact h ⟨h0, h2.trans he⟩
    · exact h3 ⟨mayB_of hm, by rw [he]; exact h4⟩
theorem getD_drop (L : List UInt8) (q : Nat) : (L.drop q).getD 0 0 = L.getD q 0 := by
  simp [List.getD_eq_getElem?_getD, List.getElem?_drop]
theorem cut_l4 {s : Sl} {w : World} (hs : s.ok w) (q k : Nat) : (s.cut (q + k) s.len s.cap).l = (s.l.drop q).drop k := by rw [cut_l0 hs, List.drop_drop]
theorem ftake15_ret (w0 : World) (s : Sl) (hs : s.ok w0) (hm : s.len ≤ 1048576) :
    Ret Try.prog 28 [s.v] w0 fun v w' => ∃ (a : Option Nat) (c : Nat) (l : List It) (e : Int), v = .tuple #[.slice (hd a) l.length c, VI e] ∧ TakeRes s.l l e ∧ Hp w0 w' [] [.own a l.length c (l.flatMap itE) 54 35] := by
  refine ret_mk Try.func28 rfl Try.ntmps28 (by simp) ?_
  have H := Hp.refl w0 []
  have hsl := hs.ln
  have hle := hs.le
  have hmx := hs.mx
  repeat refine c_seq ?_
  refine c_region ?_
  refine l_op (o_val (r_as) ?_)
  refine l_op (o_val (r_as) ?_)
  first | refine l_end ?_ | refine l_nil ?_
  repeat refine c_seq ?_
  refine c_region ?_
  refine l_op (o_val (r_mv) ?_)
  refine l_op (o_val (r_lens el32 rfl) ?_)
  refine l_op (o_val (r_bin (a := (s.len : Int)) (b := 3) rfl rfl (fun _ => b_lss)) ?_)
  refine l_op (o_val (r_mv) ?_)
  by_cases hc1 : (s.len : Int) < 3
  ·
   refine l_no rfl rfl (by exact congrArg Value.bool (decide_eq_true hc1)) rfl ?_
   refine l_no rfl rfl (by exact congrArg Value.bool (decide_eq_true hc1)) rfl ?_
   refine l_no rfl rfl (by exact congrArg Value.bool (decide_eq_true hc1)) rfl ?_
   refine l_no rfl rfl (by exact congrArg Value.bool (decide_eq_true hc1)) rfl ?_
   refine l_op (o_val (r_pick (b := true) (congrArg Value.bool (decide_eq_true hc1))) ?_)
   refine l_op (o_val (r_mv) ?_)
   refine l_no rfl rfl rfl rfl ?_
   refine l_no rfl rfl rfl rfl ?_
   refine l_no rfl rfl rfl rfl ?_
   refine l_no rfl rfl rfl rfl ?_
   refine l_op (o_val (r_pick rfl) ?_)
   refine l_op (o_val (r_mv) ?_)
   refine l_no rfl rfl rfl rfl ?_
   refine l_no rfl rfl rfl rfl ?_
   refine l_no rfl rfl rfl rfl ?_
   refine l_no rfl rfl rfl rfl ?_
   refine l_op (o_val (r_pick rfl) ?_)
   first | refine l_end ?_ | refine l_nil ?_
   repeat refine c_seq ?_
   refine c_yes rfl ?_
   repeat refine c_seq ?_
   refine c_region ?_
   refine l_op (o_val (r_as) ?_)
   refine l_op (o_val (r_as) ?_)
   first | refine l_end ?_ | refine l_nil ?_
   refine c_ret ?_
   try dsimp only [Exit.then, Exit.inBlock]
   refine e_retN (vs := [.slice none 0 0, VI 4]) _ Try.results28 rfl (resT (v := .slice none 0 0) rfl (resT (v := VI 4) rfl (resZ))) ?_
   refine ⟨_, rfl, ?_⟩
   refine ⟨none, 0, [], 4, rfl, .inr ⟨rfl, rfl, ?_⟩, (H.sub (List.nil_sublist _)).nilEnd 54 35⟩
   exact take15_no1 (by omega)
  ·
   refine l_yes rfl rfl (by exact congrArg Value.bool (decide_eq_false hc1)) (o_val (r_mv) ?_)
   have ah4 := ((hs.up H (fun _ => apart_nil _))).addr (by (try simp only [Sl.cut]); omega)
   obtain ⟨ab2, ao3, ah4⟩ := ah4
   refine l_yes rfl rfl (by exact congrArg Value.bool (decide_eq_false hc1)) (o_val (r_isN 0 rfl rfl el32 ah4 (by omega) (by (try simp only [Sl.cut]); omega)) ?_)
   refine l_yes rfl rfl (by exact congrArg Value.bool (decide_eq_false hc1)) (o_val (r_ldB (s := s) (k := 0) (hs.up H (fun _ => apart_nil _)) ah4 rfl ct5 (by (try simp only [Sl.cut]); omega)) ?_)
   refine l_yes rfl rfl (by exact congrArg Value.bool (decide_eq_false hc1)) (o_val (r_bin (a := (((s.l).getD 0 0).toNat : Int)) (b := 68) rfl rfl (fun _ => b_neq)) ?_)
   refine l_op (o_val (r_pick (b := false) (congrArg Value.bool (decide_eq_false hc1))) ?_)
   refine l_op (o_val (r_mv) ?_)
   by_cases hc5 : (((s.l).getD 0 0).toNat : Int) ≠ 68
   ·
    refine l_no rfl rfl (by exact congrArg Value.bool (decide_eq_true hc5)) rfl ?_
    refine l_no rfl rfl (by exact congrArg Value.bool (decide_eq_true hc5)) rfl ?_
    refine l_no rfl rfl (by exact congrArg Value.bool (decide_eq_true hc5)) rfl ?_
    refine l_no rfl rfl (by exact congrArg Value.bool (decide_eq_true hc5)) rfl ?_
    refine l_op (o_val (r_pick (b := true) (congrArg Value.bool (decide_eq_true hc5))) ?_)
    refine l_op (o_val (r_mv) ?_)
    refine l_no rfl rfl rfl rfl ?_
    refine l_no rfl rfl rfl rfl ?_
    refine l_no rfl rfl rfl rfl ?_
    refine l_no rfl rfl rfl rfl ?_
    refine l_op (o_val (r_pick rfl) ?_)
    first | refine l_end ?_ | refine l_nil ?_
    repeat refine c_seq ?_
    refine c_yes rfl ?_
    repeat refine c_seq ?_
    refine c_region ?_
    refine l_op (o_val (r_as) ?_)
    refine l_op (o_val (r_as) ?_)
    first | refine l_end ?_ | refine l_nil ?_
    refine c_ret ?_
    try dsimp only [Exit.then, Exit.inBlock]
    refine e_retN (vs := [.slice none 0 0, VI 4]) _ Try.results28 rfl (resT (v := .slice none 0 0) rfl (resT (v := VI 4) rfl (resZ))) ?_
    refine ⟨_, rfl, ?_⟩
    refine ⟨none, 0, [], 4, rfl, .inr ⟨rfl, rfl, ?_⟩, (H.sub (List.nil_sublist _)).nilEnd 54 35⟩
    exact take15_no1 (by omega)
   ·
    refine l_yes rfl rfl (by exact congrArg Value.bool (decide_eq_false hc5)) (o_val (r_mv) ?_)
    refine l_yes rfl rfl (by exact congrArg Value.bool (decide_eq_false hc5)) (o_val (r_isN 1 rfl rfl el32 ah4 (by omega) (by (try simp only [Sl.cut]); omega)) ?_)
    refine l_yes rfl rfl (by exact congrArg Value.bool (decide_eq_false hc5)) (o_val (r_ldB (s := s) (k := 1) (hs.up H (fun _ => apart_nil _)) ah4 rfl ct5 (by (try simp only [Sl.cut]); omega)) ?_)
    refine l_yes rfl rfl (by exact congrArg Value.bool (decide_eq_false hc5)) (o_val (r_bin (a := (((s.l).getD 1 0).toNat : Int)) (b := 49) rfl rfl (fun _ => b_neq)) ?_)
    refine l_op (o_val (r_pick (b := false) (congrArg Value.bool (decide_eq_false hc5))) ?_)
    refine l_op (o_val (r_mv) ?_)
    by_cases hc6 : (((s.l).getD 1 0).toNat : Int) ≠ 49
    ·
     refine l_no rfl rfl (by exact congrArg Value.bool (decide_eq_true hc6)) rfl ?_
     refine l_no rfl rfl (by exact congrArg Value.bool (decide_eq_true hc6)) rfl ?_
     refine l_no rfl rfl (by exact congrArg Value.bool (decide_eq_true hc6)) rfl ?_
     refine l_no rfl rfl (by exact congrArg Value.bool (decide_eq_true hc6)) rfl ?_
     refine l_op (o_val (r_pick (b := true) (congrArg Value.bool (decide_eq_true hc6))) ?_)
     first | refine l_end ?_ | refine l_nil ?_
     repeat refine c_seq ?_
     refine c_yes rfl ?_
     repeat refine c_seq ?_
     refine c_region ?_
     refine l_op (o_val (r_as) ?_)
     refine l_op (o_val (r_as) ?_)
     first | refine l_end ?_ | refine l_nil ?_
     refine c_ret ?_
     try dsimp only [Exit.then, Exit.inBlock]
     refine e_retN (vs := [.slice none 0 0, VI 4]) _ Try.results28 rfl (resT (v := .slice none 0 0) rfl (resT (v := VI 4) rfl (resZ))) ?_
     refine ⟨_, rfl, ?_⟩
     refine ⟨none, 0, [], 4, rfl, .inr ⟨rfl, rfl, ?_⟩, (H.sub (List.nil_sublist _)).nilEnd 54 35⟩
     exact take15_no1 (by omega)
    ·
     refine l_yes rfl rfl (by exact congrArg Value.bool (decide_eq_false hc6)) (o_val (r_mv) ?_)
     refine l_yes rfl rfl (by exact congrArg Value.bool (decide_eq_false hc6)) (o_val (r_isN 2 rfl rfl el32 ah4 (by omega) (by (try simp only [Sl.cut]); omega)) ?_)
     refine l_yes rfl rfl (by exact congrArg Value.bool (decide_eq_false hc6)) (o_val (r_ldB (s := s) (k := 2) (hs.up H (fun _ => apart_nil _)) ah4 rfl ct5 (by (try simp only [Sl.cut]); omega)) ?_)
     refine l_yes rfl rfl (by exact congrArg Value.bool (decide_eq_false hc6)) (o_val (r_bin (a := (((s.l).getD 2 0).toNat : Int)) (b := 64) rfl rfl (fun _ => b_gtr)) ?_)
     refine l_op (o_val (r_pick (b := false) (congrArg Value.bool (decide_eq_false hc6))) ?_)
     first | refine l_end ?_ | refine l_nil ?_
     by_cases hc7 : 64 < (((s.l).getD 2 0).toNat : Int)
     ·
      repeat refine c_seq ?_
      refine c_yes (by exact congrArg Value.bool (decide_eq_true hc7)) ?_
      repeat refine c_seq ?_
      refine c_region ?_
      refine l_op (o_val (r_as) ?_)
      refine l_op (o_val (r_as) ?_)
      first | refine l_end ?_ | refine l_nil ?_
      refine c_ret ?_
      try dsimp only [Exit.then, Exit.inBlock]
      refine e_retN (vs := [.slice none 0 0, VI 4]) _ Try.results28 rfl (resT (v := .slice none 0 0) rfl (resT (v := VI 4) rfl (resZ))) ?_
      refine ⟨_, rfl, ?_⟩
      refine ⟨none, 0, [], 4, rfl, .inr ⟨rfl, rfl, ?_⟩, (H.sub (List.nil_sublist _)).nilEnd 54 35⟩
      exact take15_no1 (by omega)
     ·
      repeat refine c_seq ?_
      refine c_no (by exact congrArg Value.bool (decide_eq_false hc7)) ?_
      refine c_skip ?_
      repeat refine c_seq ?_
      refine c_region ?_
      refine l_op (o_val (r_as) ?_)
      first | refine l_end ?_ | refine l_nil ?_
      repeat refine c_seq ?_
      refine c_region ?_
      refine l_op (o_val (r_as) ?_)
      first | refine l_end ?_ | refine l_nil ?_
      repeat refine c_seq ?_
      refine c_region ?_
      refine l_op (o_val (r_as) ?_)
      first | refine l_end ?_ | refine l_nil ?_
      repeat refine c_seq ?_
      refine c_block ?_
      repeat refine c_seq ?_
      refine c_loop5 (fun (i : Nat) (q : Nat) (l : List It) (a : Option Nat) (c : Nat) => [(0, s.v), (4, .slice (hd a) l.length c), (5, VI (q : Int)), (6, VI (i : Int))])
        (fun (i : Nat) (q : Nat) (l : List It) (a : Option Nat) (c : Nat) w => (l.length = i ∧ i ≤ ((s.l).getD 2 0).toNat ∧ (∀ y ∈ l, y.fits) ∧ s.l = [68, 49] ++ (cnt ((s.l).getD 2 0).toNat ++ (l.flatMap itB ++ s.l.drop q)) ∧ 3 ≤ q ∧ q ≤ s.len) ∧ Hp w0 w [] ([.own a l.length c ((l).flatMap itE) 54 35]))
        (fun (i : Nat) (q : Nat) (l : List It) (a : Option Nat) (c : Nat) => ((s.l).getD 2 0).toNat - i) 0 3 ([]) none 0 ⟨rfl, rfl, rfl, rfl, trivial⟩ ⟨⟨rfl, Nat.zero_le _, fun y hy => (by cases hy), take15_cut (by omega) (by omega) (by omega) (by omega), Nat.le_refl _, by omega⟩, (H.nilEnd 54 35)⟩ ?_
      clear H
      rintro i q l a c τ w ⟨⟨hli, hix, hfit, hcut, hq3, hql⟩, H⟩
      repeat refine c_seq ?_
      refine c_region ?_
      refine l_op (o_val (r_mv) ?_)
      refine l_op (o_val (r_mv) ?_)
      refine l_op (o_val (r_isN 2 rfl rfl el32 ah4 (by omega) (by (try simp only [Sl.cut]); omega)) ?_)
      refine l_op (o_val (r_ldB (s := s) (k := 2) (hs.up H (fun _ => apart_nil _)) ah4 rfl ct5 (by (try simp only [Sl.cut]); omega)) ?_)
      refine l_op (o_val (r_conv Try.underlying5 Try.underlying3 rfl (w_i64_8 _)) ?_)
      refine l_op (o_val (r_bin (a := (i : Int)) (b := (((s.l).getD 2 0).toNat : Int)) rfl rfl (fun _ => b_lss)) ?_)
      first | refine l_end ?_ | refine l_nil ?_
      by_cases hc8 : (i : Int) < (((s.l).getD 2 0).toNat : Int)
      ·
       repeat refine c_seq ?_
       refine c_yes (by exact congrArg Value.bool (decide_eq_true hc8)) ?_
       refine c_skip ?_
       repeat refine c_seq ?_
       refine c_block ?_
       repeat refine c_seq ?_
       refine c_region ?_
       refine l_op (o_val (r_mv) ?_)
       refine l_op (o_val (r_bin (a := (q : Int)) (b := 2) rfl rfl (fun _ => b_add (by omega) (by omega))) ?_)
       refine l_op (o_val (r_mv) ?_)
       refine l_op (o_val (r_lens el32 rfl) ?_)
       refine l_op (o_val (r_bin (a := (q : Int) + 2) (b := (s.len : Int)) rfl rfl (fun _ => b_gtr)) ?_)
       first | refine l_end ?_ | refine l_nil ?_
       by_cases hc9 : (s.len : Int) < (q : Int) + 2
       ·
        repeat refine c_seq ?_
        refine c_yes (by exact congrArg Value.bool (decide_eq_true hc9)) ?_
        repeat refine c_seq ?_
        refine c_region ?_
        refine l_op (o_val (r_as) ?_)
        refine l_op (o_val (r_as) ?_)
        first | refine l_end ?_ | refine l_nil ?_
        refine c_ret ?_
        try dsimp only [Exit.then, Exit.inBlock]
        refine e_retN (vs := [.slice none 0 0, VI 4]) _ Try.results28 rfl (resT (v := .slice none 0 0) rfl (resT (v := VI 4) rfl (resZ))) ?_
        refine ⟨_, rfl, ?_⟩
        refine ⟨none, 0, [], 4, rfl, .inr ⟨rfl, rfl, ?_⟩, (H.sub (List.nil_sublist _)).nilEnd 54 35⟩
        exact take_no3 hcut hfit (by omega) (noIt_two (by rw [List.length_drop]; omega))
       ·
        repeat refine c_seq ?_
        refine c_no (by exact congrArg Value.bool (decide_eq_false hc9)) ?_
        refine c_skip ?_
        repeat refine c_seq ?_
        refine c_region ?_
        refine l_op (o_val (r_mv) ?_)
        refine l_op (o_val (r_mv) ?_)
        refine l_op (o_val (r_isN q rfl rfl el32 ah4 (by omega) (by (try simp only [Sl.cut]); omega)) ?_)
        refine l_op (o_val (r_ldB (s := s) (k := q) (hs.up H (fun _ => apart_nil _)) ah4 rfl ct5 (by (try simp only [Sl.cut]); omega)) ?_)
        refine l_op (o_val (r_conv Try.underlying5 Try.underlying3 rfl (w_i64_8 _)) ?_)
        refine l_op (o_val (r_bldG (Z := ([.string ⟨(([] : List UInt8)).toArray⟩, VI 0] : List Value) ++ ((List.replicate 32 (0 : UInt8)).map V8 ++ (([VI 0] : List Value)))) (E := ([.string ⟨(([] : List UInt8)).toArray⟩, VI (((s.l).getD q 0).toNat : Int)] : List Value) ++ ((List.replicate 32 (0 : UInt8)).map V8 ++ (([VI 0] : List Value)))) (pv := [(1, VI (((s.l).getD q 0).toNat : Int))]) bd54 rfl rfl (.cons (A := ([.string ⟨(([] : List UInt8)).toArray⟩] : List Value)) (B := ([VI 0] : List Value)) (D := (List.replicate 32 (0 : UInt8)).map V8 ++ (([VI 0] : List Value))) (V := ([VI (((s.l).getD q 0).toNat : Int)] : List Value)) (a := 1) (b := 1) rfl (show Cut3 (([.string ⟨(([] : List UInt8)).toArray⟩, VI 0] : List Value) ++ ((List.replicate 32 (0 : UInt8)).map V8 ++ (([VI 0] : List Value)))) (([.string ⟨(([] : List UInt8)).toArray⟩] : List Value)) (([VI 0] : List Value)) ((List.replicate 32 (0 : UInt8)).map V8 ++ (([VI 0] : List Value))) 1 1 from ⟨(show ([.string ⟨(([] : List UInt8)).toArray⟩, VI 0] : List Value) ++ ((List.replicate 32 (0 : UInt8)).map V8 ++ (([VI 0] : List Value))) = ([.string ⟨(([] : List UInt8)).toArray⟩] : List Value) ++ ((([VI 0] : List Value)) ++ ((List.replicate 32 (0 : UInt8)).map V8 ++ (([VI 0] : List Value)))) from by simp only [List.cons_append, List.nil_append]), (by rfl), (by rfl)⟩) (by rfl) (by rfl) ((show ([.string ⟨(([] : List UInt8)).toArray⟩, VI (((s.l).getD q 0).toNat : Int)] : List Value) ++ ((List.replicate 32 (0 : UInt8)).map V8 ++ (([VI 0] : List Value))) = ([.string ⟨(([] : List UInt8)).toArray⟩] : List Value) ++ ((([VI (((s.l).getD q 0).toNat : Int)] : List Value)) ++ ((List.replicate 32 (0 : UInt8)).map V8 ++ (([VI 0] : List Value)))) from by simp only [List.cons_append, List.nil_append]) ▸ .nil _))) ?_)
        refine l_op (o_alloc H zc54 (fun b10 w H hb10 => ?_))
        replace H : Hp _ w _ ([_, .blk b10 (([.string ⟨(([] : List UInt8)).toArray⟩, VI 0] : List Value) ++ ((List.replicate 32 (0 : UInt8)).map V8 ++ (([VI 0] : List Value)))) 54]) := H
        refine l_op (o_stW (C' := ([.string ⟨(([] : List UInt8)).toArray⟩, VI (((s.l).getD q 0).toNat : Int)] : List Value) ++ ((List.replicate 32 (0 : UInt8)).map V8 ++ (([VI 0] : List Value)))) H (i := 1) rfl rfl rfl cs54 (by first | (simp [V8, Value.oneCell']; done) | (simp only [List.all_append, List.all_cons, List.all_nil, List.all_map]; simp [Value.oneCell', Function.comp_def])) (by simp only [List.length_append, List.length_map, List.length_cons, List.length_nil, (show (List.replicate 32 (0 : UInt8)).length = 32 from (List.length_replicate ..))]) (by simp only [List.length_append, List.length_map, List.length_cons, List.length_nil, (show (List.replicate 32 (0 : UInt8)).length = 32 from (List.length_replicate ..))]) (fun w H => ?_))
        replace H : Hp _ w _ ([_, .blk b10 (([.string ⟨(([] : List UInt8)).toArray⟩, VI (((s.l).getD q 0).toNat : Int)] : List Value) ++ ((List.replicate 32 (0 : UInt8)).map V8 ++ (([VI 0] : List Value)))) 54]) := H
        first | refine l_end ?_ | refine l_nil ?_
        repeat refine c_seq ?_
        refine c_region ?_
        refine l_op (o_val (r_mv) ?_)
        refine l_op (o_val (r_mv) ?_)
        refine l_op (o_val (r_bin (a := (q : Int)) (b := 1) rfl rfl (fun _ => b_add (by omega) (by omega))) ?_)
        refine l_op (o_val (r_slS (s := s) (q + 1) s.len s.cap (lv := some (VI ((q : Int) + 1))) (hv := none) (mv := none) rfl el32 rfl rfl rfl (fun w => by exact sbl (q + 1) (by omega) (by (try simp only [Sl.cut]); omega) w)) ?_)
        refine l_op (o_callR Try.func43 rfl rfl rfl (takeText1_ret _ (Sl.cut s (q + 1) s.len s.cap) ((hs.up H (fun _ => apart_nil _)).cut (l := q + 1) (h := s.len) (m := s.cap) (by omega) (by (try simp only [Sl.cut]); omega) (by omega) (by (try simp only [Sl.cut]); omega)) (by (try simp only [Sl.cut]); omega)) ?_)
        rintro _ w ⟨a11, c12, t13, k14, e15, rfl, hto16, hkk17, Hc⟩
        replace H : Hp _ w _ ([_, _, .own a11 t13.length c12 ((t13).map V8) 5 1]) := H.call Hc
        clear Hc
        have hkk17n : k14 ≤ (((s.l).drop (q + 1)).take (s.len - (q + 1))).length := hkk17
        try simp only [List.length_take, List.length_drop] at hkk17n
        refine l_op (o_val (r_mv) ?_)
        refine l_op (o_val (r_ext rfl rfl) ?_)
        refine l_op (o_val (r_ext rfl rfl) ?_)
        refine l_op (o_val (r_ext rfl rfl) ?_)
        refine l_op (o_val (r_as) ?_)
        refine l_op (o_val (r_as) ?_)
        refine l_op (o_val (r_as) ?_)
        first | refine l_end ?_ | refine l_nil ?_
        rw [cut_l4 hs] at hto16
        repeat refine c_seq ?_
        refine c_region ?_
        refine l_op (o_val (r_mv) ?_)
        refine l_op (o_val (r_bin (a := (q : Int)) (b := 1) rfl rfl (fun _ => b_add (by omega) (by omega))) ?_)
        refine l_op (o_val (r_mv) ?_)
        refine l_op (o_val (r_bin (a := (q : Int) + 1) (b := (k14 : Int)) rfl rfl (fun _ => b_add (by omega) (by omega))) ?_)
        refine l_op (o_val (r_as) ?_)
        first | refine l_end ?_ | refine l_nil ?_
        repeat refine c_seq ?_
        refine c_region ?_
        refine l_op (o_val (r_mv) ?_)
        refine l_op (o_val (r_bin (a := e15) (b := 0) rfl rfl (fun _ => b_neq)) ?_)
        refine l_op (o_val (r_mv) ?_)
        by_cases hc18 : e15 ≠ 0
        ·
         refine l_no rfl rfl (by exact congrArg Value.bool (decide_eq_true hc18)) rfl ?_
         refine l_no rfl rfl (by exact congrArg Value.bool (decide_eq_true hc18)) rfl ?_
         refine l_no rfl rfl (by exact congrArg Value.bool (decide_eq_true hc18)) rfl ?_
         refine l_no rfl rfl (by exact congrArg Value.bool (decide_eq_true hc18)) rfl ?_
         refine l_no rfl rfl (by exact congrArg Value.bool (decide_eq_true hc18)) rfl ?_
         refine l_op (o_val (r_pick (b := true) (congrArg Value.bool (decide_eq_true hc18))) ?_)
         first | refine l_end ?_ | refine l_nil ?_
         repeat refine c_seq ?_
         refine c_yes rfl ?_
         repeat refine c_seq ?_
         refine c_region ?_
         refine l_op (o_val (r_as) ?_)
         refine l_op (o_val (r_as) ?_)
         first | refine l_end ?_ | refine l_nil ?_
         refine c_ret ?_
         try dsimp only [Exit.then, Exit.inBlock]
         refine e_retN (vs := [.slice none 0 0, VI 4]) _ Try.results28 rfl (resT (v := .slice none 0 0) rfl (resT (v := VI 4) rfl (resZ))) ?_
         refine ⟨_, rfl, ?_⟩
         refine ⟨none, 0, [], 4, rfl, .inr ⟨rfl, rfl, ?_⟩, (H.sub (List.nil_sublist _)).nilEnd 54 35⟩
         exact take_no3 hcut hfit (by omega) (item_no1 hto16 (by omega) (by rw [List.length_drop]; omega))
        ·
         refine l_yes rfl rfl (by exact congrArg Value.bool (decide_eq_false hc18)) (o_val (r_mv) ?_)
         refine l_yes rfl rfl (by exact congrArg Value.bool (decide_eq_false hc18)) (o_val (r_bin (a := ((q : Int) + 1) + (k14 : Int)) (b := 32) rfl rfl (fun _ => b_add (by omega) (by omega))) ?_)
         refine l_yes rfl rfl (by exact congrArg Value.bool (decide_eq_false hc18)) (o_val (r_mv) ?_)
         refine l_yes rfl rfl (by exact congrArg Value.bool (decide_eq_false hc18)) (o_val (r_lens el32 rfl) ?_)
         refine l_yes rfl rfl (by exact congrArg Value.bool (decide_eq_false hc18)) (o_val (r_bin (a := (((q : Int) + 1) + (k14 : Int)) + 32) (b := (s.len : Int)) rfl rfl (fun _ => b_gtr)) ?_)
         refine l_op (o_val (r_pick (b := false) (congrArg Value.bool (decide_eq_false hc18))) ?_)
         first | refine l_end ?_ | refine l_nil ?_
         by_cases hc19 : (s.len : Int) < (((q : Int) + 1) + (k14 : Int)) + 32
         ·
          repeat refine c_seq ?_
          refine c_yes (by exact congrArg Value.bool (decide_eq_true hc19)) ?_
          repeat refine c_seq ?_
          refine c_region ?_
          refine l_op (o_val (r_as) ?_)
          refine l_op (o_val (r_as) ?_)
          first | refine l_end ?_ | refine l_nil ?_
          refine c_ret ?_
          try dsimp only [Exit.then, Exit.inBlock]
          refine e_retN (vs := [.slice none 0 0, VI 4]) _ Try.results28 rfl (resT (v := .slice none 0 0) rfl (resT (v := VI 4) rfl (resZ))) ?_
          refine ⟨_, rfl, ?_⟩
          have he0 : e15 = 0 := by omega
          subst he0
          exact ⟨none, 0, [], 4, rfl, .inr ⟨rfl, rfl, take_no3 hcut hfit (by omega) (item_no2 hto16 (by rw [List.length_drop]; omega) (by rw [List.length_drop]; omega))⟩, (H.sub (List.nil_sublist _)).nilEnd 54 35⟩
         ·
          repeat refine c_seq ?_
          refine c_no (by exact congrArg Value.bool (decide_eq_false hc19)) ?_
          refine c_skip ?_
          have he0 : e15 = 0 := by omega
          subst he0
          repeat refine c_seq ?_
          refine wp_held (fun w => Hp w0 w [] [.own a l.length c ((l).flatMap itE) 54 35, .own a11 t13.length c12 ((t13).map V8) 5 1]) mixed ?_
          replace H := H.drew
          have HS := H.sub (.cons_cons _ (.cons _ (.cons_cons _ (List.nil_sublist _))))
          refine t_take 0 rfl (by kernel_rfl) (by kernel_rfl) (by kernel_rfl) (fun _ _ _ h => h) (fun w HS => r_mv) HS ?_
          refine t_take 1 rfl (by kernel_rfl) (by kernel_rfl) (by kernel_rfl) (fun _ _ _ h => h) (fun w HS => r_b2S (s := ⟨hd a11, t13.length, c12, t13⟩) Try.underlying32 Try.underlying5 Try.underlying9 rfl (HS.slOwn (i := 1) rfl)) HS ?_
          refine t_take 2 rfl (by kernel_rfl) (by kernel_rfl) (by kernel_rfl) (fun _ _ _ h => h) (fun w HS => r_mv) HS ?_
          refine t_take 3 rfl (by kernel_rfl) (by kernel_rfl) (by kernel_rfl) (fun _ _ _ h => h) (fun w HS => r_mv) HS ?_
          refine t_take 4 rfl (by kernel_rfl) (by kernel_rfl) (by kernel_rfl) (fun _ _ _ h => h) (fun w HS => r_mv) HS ?_
          refine t_take 5 rfl (by kernel_rfl) (by kernel_rfl) (by kernel_rfl) (fun _ _ _ h => h) (fun w HS => r_bin (a := ((q : Int) + 1) + (k14 : Int)) (b := 32) rfl rfl (fun _ => b_add (by omega) (by omega))) HS ?_
          refine t_take 6 rfl (by kernel_rfl) (by kernel_rfl) (by kernel_rfl) (fun _ _ _ h => h) (fun w HS => r_slS (s := s) ((q + 1) + k14) (((q + 1) + k14) + 32) s.cap (lv := some (VI (((q : Int) + 1) + (k14 : Int)))) (hv := some (VI ((((q : Int) + 1) + (k14 : Int)) + 32))) (mv := none) rfl el32 rfl rfl rfl (fun w => by exact sblh ((q + 1) + k14) (((q + 1) + k14) + 32) (by omega) (by omega) (by (try simp only [Sl.cut]); omega) (by (try simp only [Sl.cut]); omega) w)) HS ?_
          refine t_take 7 rfl (by kernel_rfl) (by kernel_rfl) (by kernel_rfl) (fun _ _ _ h => h) (fun w HS => r_sap Try.underlying29 rfl (by (try simp only [Sl.cut]); omega)) HS ?_
          have ah22 := (((hs.up HS (fun _ => apart_nil _)).cut (l := (q + 1) + k14) (h := ((q + 1) + k14) + 32) (m := s.cap) (by omega) (by (try simp only [Sl.cut]); omega) (by omega) (by (try simp only [Sl.cut]); omega))).addr (by (try simp only [Sl.cut]); omega)
          obtain ⟨ab20, ao21, ah22⟩ := ah22
          refine t_take 8 rfl (by kernel_rfl) (by kernel_rfl) (by kernel_rfl) (fun _ _ _ h => h) (fun w HS => r_ldSA (s := (Sl.cut s ((q + 1) + k14) (((q + 1) + k14) + 32) s.cap)) (k := 32) ((hs.up HS (fun _ => apart_nil _)).cut (l := (q + 1) + k14) (h := ((q + 1) + k14) + 32) (m := s.cap) (by omega) (by (try simp only [Sl.cut]); omega) (by omega) (by (try simp only [Sl.cut]); omega)) ah22 rfl rt29 (by decide) (by (try simp only [Sl.cut]); omega)) HS ?_
          refine t_take 9 rfl (by kernel_rfl) (by kernel_rfl) (by kernel_rfl) (fun _ _ _ h => h) (fun w HS => r_fa rfl fo54_0) HS ?_
          refine t_step 10 rfl (by kernel_rfl) (o_s1 (u := .string ⟨(t13).toArray⟩) H (i := 1) rfl rfl rfl cs9 rfl (show Cut3 (([.string ⟨(([] : List UInt8)).toArray⟩, VI (((s.l).getD q 0).toNat : Int)] : List Value) ++ ((List.replicate 32 (0 : UInt8)).map V8 ++ (([VI 0] : List Value)))) (([] : List Value)) (([.string ⟨(([] : List UInt8)).toArray⟩] : List Value)) (([VI (((s.l).getD q 0).toNat : Int)] : List Value) ++ ((List.replicate 32 (0 : UInt8)).map V8 ++ (([VI 0] : List Value)))) 0 1 from ⟨(show ([.string ⟨(([] : List UInt8)).toArray⟩, VI (((s.l).getD q 0).toNat : Int)] : List Value) ++ ((List.replicate 32 (0 : UInt8)).map V8 ++ (([VI 0] : List Value))) = ([] : List Value) ++ ((([.string ⟨(([] : List UInt8)).toArray⟩] : List Value)) ++ (([VI (((s.l).getD q 0).toNat : Int)] : List Value) ++ ((List.replicate 32 (0 : UInt8)).map V8 ++ (([VI 0] : List Value))))) from by simp only [List.cons_append, List.nil_append]), (by rfl), (by rfl)⟩) (fun w H => ?_))
          rw [show ([] : List Value) ++ (([.string ⟨(t13).toArray⟩] : List Value) ++ (([VI (((s.l).getD q 0).toNat : Int)] : List Value) ++ ((List.replicate 32 (0 : UInt8)).map V8 ++ (([VI 0] : List Value))))) = ([.string ⟨(t13).toArray⟩, VI (((s.l).getD q 0).toNat : Int)] : List Value) ++ ((List.replicate 32 (0 : UInt8)).map V8 ++ (([VI 0] : List Value))) from by simp only [List.cons_append, List.nil_append]] at H
          replace H : Hp _ w _ ([_, .blk b10 (([.string ⟨(t13).toArray⟩, VI (((s.l).getD q 0).toNat : Int)] : List Value) ++ ((List.replicate 32 (0 : UInt8)).map V8 ++ (([VI 0] : List Value)))) 54, _]) := H
          refine ⟨H.sub (.cons_cons _ (.cons _ (.cons_cons _ (List.nil_sublist _)))), ?_⟩
          replace HS := H.sub (.cons_cons _ (.cons _ (.cons_cons _ (List.nil_sublist _))))
          refine t_take 11 rfl (by kernel_rfl) (by kernel_rfl) (by kernel_rfl) (fun _ _ _ h => h) (fun w HS => r_fa rfl fo54_2) HS ?_
          refine t_step 12 rfl (by kernel_rfl) (o_sk (V := ((((s.l).drop ((q + 1) + k14)).take (((q + 1) + k14) + 32 - ((q + 1) + k14))).take 32).map V8) H (i := 1) rfl rfl rfl cs29 (by first | (simp [Value.oneCell']; done) | (simp only [List.all_map]; simp [Value.oneCell', Function.comp_def])) (by simp only [List.length_map, (show ((((s.l).drop ((q + 1) + k14)).take (((q + 1) + k14) + 32 - ((q + 1) + k14))).take 32).length = 32 from (by simp only [List.length_take, List.length_drop]; omega))]) (show Cut3 (([.string ⟨(t13).toArray⟩, VI (((s.l).getD q 0).toNat : Int)] : List Value) ++ ((List.replicate 32 (0 : UInt8)).map V8 ++ (([VI 0] : List Value)))) (([.string ⟨(t13).toArray⟩, VI (((s.l).getD q 0).toNat : Int)] : List Value)) ((List.replicate 32 (0 : UInt8)).map V8) (([VI 0] : List Value)) 2 32 from ⟨(show ([.string ⟨(t13).toArray⟩, VI (((s.l).getD q 0).toNat : Int)] : List Value) ++ ((List.replicate 32 (0 : UInt8)).map V8 ++ (([VI 0] : List Value))) = ([.string ⟨(t13).toArray⟩, VI (((s.l).getD q 0).toNat : Int)] : List Value) ++ (((List.replicate 32 (0 : UInt8)).map V8) ++ (([VI 0] : List Value))) from by simp only [List.cons_append, List.nil_append]), (by rfl), (by simp only [List.length_map, (show (List.replicate 32 (0 : UInt8)).length = 32 from (List.length_replicate ..))])⟩) (fun w H => ?_))
          rw [show ([.string ⟨(t13).toArray⟩, VI (((s.l).getD q 0).toNat : Int)] : List Value) ++ ((((((s.l).drop ((q + 1) + k14)).take (((q + 1) + k14) + 32 - ((q + 1) + k14))).take 32).map V8) ++ (([VI 0] : List Value))) = ([.string ⟨(t13).toArray⟩, VI (((s.l).getD q 0).toNat : Int)] : List Value) ++ (((((s.l).drop ((q + 1) + k14)).take (((q + 1) + k14) + 32 - ((q + 1) + k14))).take 32).map V8 ++ (([VI 0] : List Value))) from by simp only [List.cons_append, List.nil_append]] at H
          replace H : Hp _ w _ ([_, .blk b10 (([.string ⟨(t13).toArray⟩, VI (((s.l).getD q 0).toNat : Int)] : List Value) ++ (((((s.l).drop ((q + 1) + k14)).take (((q + 1) + k14) + 32 - ((q + 1) + k14))).take 32).map V8 ++ (([VI 0] : List Value)))) 54, _]) := H
          refine ⟨H.sub (.cons_cons _ (.cons _ (.cons_cons _ (List.nil_sublist _)))), ?_⟩
          replace HS := H.sub (.cons_cons _ (.cons _ (.cons_cons _ (List.nil_sublist _))))
          refine t_done (by kernel_rfl) ?_
          clear HS
          repeat refine c_seq ?_
          refine c_region ?_
          refine l_op (o_val (r_mv) ?_)
          refine l_op (o_val (r_mv) ?_)
          refine l_op (o_val (r_bin (a := ((q : Int) + 1) + (k14 : Int)) (b := 32) rfl rfl (fun _ => b_add (by omega) (by omega))) ?_)
          refine l_op (o_val (r_slS (s := s) (((q + 1) + k14) + 32) s.len s.cap (lv := some (VI ((((q : Int) + 1) + (k14 : Int)) + 32))) (hv := none) (mv := none) rfl el32 rfl rfl rfl (fun w => by exact sbl (((q + 1) + k14) + 32) (by omega) (by (try simp only [Sl.cut]); omega) w)) ?_)
          refine l_op (o_callR Try.func44 rfl rfl rfl (takeCount1_ret _ (Sl.cut s (((q + 1) + k14) + 32) s.len s.cap) ((hs.up H (fun _ => apart_nil _)).cut (l := ((q + 1) + k14) + 32) (h := s.len) (m := s.cap) (by omega) (by (try simp only [Sl.cut]); omega) (by omega) (by (try simp only [Sl.cut]); omega)) (by (try simp only [Sl.cut]); omega)) ?_)
          rintro _ w ⟨x23, k24, e25, rfl, hco26, hkk27, Hc⟩
          replace H : Hp _ w _ ([_, _, _]) := H.call Hc
          clear Hc
          have hkk27n : k24 ≤ (((s.l).drop (((q + 1) + k14) + 32)).take (s.len - (((q + 1) + k14) + 32))).length := hkk27
          try simp only [List.length_take, List.length_drop] at hkk27n
          refine l_op (o_val (r_mv) ?_)
          refine l_op (o_val (r_ext rfl rfl) ?_)
          refine l_op (o_val (r_ext rfl rfl) ?_)
          refine l_op (o_val (r_ext rfl rfl) ?_)
          refine l_op (o_val (r_as) ?_)
          refine l_op (o_val (r_as) ?_)
          refine l_op (o_val (r_as) ?_)
          first | refine l_end ?_ | refine l_nil ?_
          repeat refine c_seq ?_
          refine c_region ?_
          refine l_op (o_val (r_mv) ?_)
          refine l_op (o_val (r_bin (a := e25) (b := 0) rfl rfl (fun _ => b_neq)) ?_)
          refine l_op (o_val (r_mv) ?_)
          by_cases hc28 : e25 ≠ 0
          ·
           refine l_no rfl rfl (by exact congrArg Value.bool (decide_eq_true hc28)) rfl ?_
           refine l_no rfl rfl (by exact congrArg Value.bool (decide_eq_true hc28)) rfl ?_
           refine l_op (o_val (r_pick (b := true) (congrArg Value.bool (decide_eq_true hc28))) ?_)
           first | refine l_end ?_ | refine l_nil ?_
           repeat refine c_seq ?_
           refine c_yes rfl ?_
           repeat refine c_seq ?_
           refine c_region ?_
           refine l_op (o_val (r_as) ?_)
           refine l_op (o_val (r_as) ?_)
           first | refine l_end ?_ | refine l_nil ?_
           refine c_ret ?_
           try dsimp only [Exit.then, Exit.inBlock]
           refine e_retN (vs := [.slice none 0 0, VI 4]) _ Try.results28 rfl (resT (v := .slice none 0 0) rfl (resT (v := VI 4) rfl (resZ))) ?_
           refine ⟨_, rfl, ?_⟩
           rw [show q + 1 + k14 + 32 = q + (1 + k14 + 32) by omega, cut_l4 hs] at hco26
           exact ⟨none, 0, [], 4, rfl, .inr ⟨rfl, rfl, take_no3 hcut hfit (by omega) (item_no3 hto16 (by rw [List.length_drop]; omega) (by rw [List.length_drop]; omega) hco26 (by omega))⟩, (H.sub (List.nil_sublist _)).nilEnd 54 35⟩
          ·
           refine l_yes rfl rfl (by exact congrArg Value.bool (decide_eq_false hc28)) (o_val (r_mv) ?_)
           refine l_yes rfl rfl (by exact congrArg Value.bool (decide_eq_false hc28)) (o_val (r_bin (a := (x23.toNat : Int)) (b := 9223372036854775807) rfl rfl (fun _ => b_gtr)) ?_)
           refine l_op (o_val (r_pick (b := false) (congrArg Value.bool (decide_eq_false hc28))) ?_)
           first | refine l_end ?_ | refine l_nil ?_
           by_cases hc29 : 9223372036854775807 < (x23.toNat : Int)
           ·
            repeat refine c_seq ?_
            refine c_yes (by exact congrArg Value.bool (decide_eq_true hc29)) ?_
            repeat refine c_seq ?_
            refine c_region ?_
            refine l_op (o_val (r_as) ?_)
            refine l_op (o_val (r_as) ?_)
            first | refine l_end ?_ | refine l_nil ?_
            refine c_ret ?_
            try dsimp only [Exit.then, Exit.inBlock]
            refine e_retN (vs := [.slice none 0 0, VI 4]) _ Try.results28 rfl (resT (v := .slice none 0 0) rfl (resT (v := VI 4) rfl (resZ))) ?_
            refine ⟨_, rfl, ?_⟩
            rw [show q + 1 + k14 + 32 = q + (1 + k14 + 32) by omega, cut_l4 hs] at hco26
            exact ⟨none, 0, [], 4, rfl, .inr ⟨rfl, rfl, take_no3 hcut hfit (by omega) (item_no3 hto16 (by rw [List.length_drop]; omega) (by rw [List.length_drop]; omega) hco26 (by omega))⟩, (H.sub (List.nil_sublist _)).nilEnd 54 35⟩
           ·
            repeat refine c_seq ?_
            refine c_no (by exact congrArg Value.bool (decide_eq_false hc29)) ?_
            refine c_skip ?_
            repeat refine c_seq ?_
            refine c_region ?_
            refine l_op (o_val (r_mv) ?_)
            refine l_op (o_val (r_conv Try.underlying91 Try.underlying2 rfl (w_i64_64 (by omega))) ?_)
            refine l_op (o_val (r_fa rfl fo54_3) ?_)
            refine l_op (o_s1 (u := VI (x23.toNat : Int)) H (i := 1) rfl rfl rfl cs2 rfl (show Cut3 (([.string ⟨(t13).toArray⟩, VI (((s.l).getD q 0).toNat : Int)] : List Value) ++ (((((s.l).drop ((q + 1) + k14)).take (((q + 1) + k14) + 32 - ((q + 1) + k14))).take 32).map V8 ++ (([VI 0] : List Value)))) (([.string ⟨(t13).toArray⟩, VI (((s.l).getD q 0).toNat : Int)] : List Value) ++ (((((s.l).drop ((q + 1) + k14)).take (((q + 1) + k14) + 32 - ((q + 1) + k14))).take 32).map V8)) (([VI 0] : List Value)) (([] : List Value)) 34 1 from ⟨(show ([.string ⟨(t13).toArray⟩, VI (((s.l).getD q 0).toNat : Int)] : List Value) ++ (((((s.l).drop ((q + 1) + k14)).take (((q + 1) + k14) + 32 - ((q + 1) + k14))).take 32).map V8 ++ (([VI 0] : List Value))) = (([.string ⟨(t13).toArray⟩, VI (((s.l).getD q 0).toNat : Int)] : List Value) ++ (((((s.l).drop ((q + 1) + k14)).take (((q + 1) + k14) + 32 - ((q + 1) + k14))).take 32).map V8)) ++ ((([VI 0] : List Value)) ++ (([] : List Value))) from by simp only [List.cons_append, List.nil_append]), (by simp only [List.length_append, List.length_map, List.length_cons, List.length_nil, (show ((((s.l).drop ((q + 1) + k14)).take (((q + 1) + k14) + 32 - ((q + 1) + k14))).take 32).length = 32 from (by simp only [List.length_take, List.length_drop]; omega))]), (by rfl)⟩) (fun w H => ?_))
            rw [show (([.string ⟨(t13).toArray⟩, VI (((s.l).getD q 0).toNat : Int)] : List Value) ++ (((((s.l).drop ((q + 1) + k14)).take (((q + 1) + k14) + 32 - ((q + 1) + k14))).take 32).map V8)) ++ (([VI (x23.toNat : Int)] : List Value) ++ (([] : List Value))) = ([.string ⟨(t13).toArray⟩, VI (((s.l).getD q 0).toNat : Int)] : List Value) ++ (((((s.l).drop ((q + 1) + k14)).take (((q + 1) + k14) + 32 - ((q + 1) + k14))).take 32).map V8 ++ (([VI (x23.toNat : Int)] : List Value))) from by simp only [List.cons_append, List.nil_append]] at H
            replace H : Hp _ w _ ([_, .blk b10 (([.string ⟨(t13).toArray⟩, VI (((s.l).getD q 0).toNat : Int)] : List Value) ++ (((((s.l).drop ((q + 1) + k14)).take (((q + 1) + k14) + 32 - ((q + 1) + k14))).take 32).map V8 ++ (([VI (x23.toNat : Int)] : List Value)))) 54, _]) := H
            first | refine l_end ?_ | refine l_nil ?_
            repeat refine c_seq ?_
            refine c_region ?_
            refine l_op (o_val (r_mv) ?_)
            refine l_op (o_val (r_bin (a := ((q : Int) + 1) + (k14 : Int)) (b := 32) rfl rfl (fun _ => b_add (by omega) (by omega))) ?_)
            refine l_op (o_val (r_mv) ?_)
            refine l_op (o_val (r_bin (a := (((q : Int) + 1) + (k14 : Int)) + 32) (b := (k24 : Int)) rfl rfl (fun _ => b_add (by omega) (by omega))) ?_)
            refine l_op (o_val (r_as) ?_)
            first | refine l_end ?_ | refine l_nil ?_
            repeat refine c_seq ?_
            refine c_region ?_
            refine l_op (o_val (r_mv) ?_)
            refine l_op (o_val (r_ldA (C := ([.string ⟨(t13).toArray⟩, VI (((s.l).getD q 0).toNat : Int)] : List Value) ++ (((((s.l).drop ((q + 1) + k14)).take (((q + 1) + k14) + 32 - ((q + 1) + k14))).take 32).map V8 ++ (([VI (x23.toNat : Int)] : List Value)))) H (i := 1) rfl rfl rt54 (by simp only [List.length_append, List.length_map, List.length_cons, List.length_nil, (show ((((s.l).drop ((q + 1) + k14)).take (((q + 1) + k14) + 32 - ((q + 1) + k14))).take 32).length = 32 from (by simp only [List.length_take, List.length_drop]; omega))])) ?_)
            refine l_op (o_bslG1 (enc := itE) ((⟨t13, (((s.l).getD q 0).toNat : Int), (⟨(((s.l).drop ((q + 1) + k14)).take (((q + 1) + k14) + 32 - ((q + 1) + k14))).take 32, (show ((((s.l).drop ((q + 1) + k14)).take (((q + 1) + k14) + 32 - ((q + 1) + k14))).take 32).length = 32 from (by simp only [List.length_take, List.length_drop]; omega))⟩ : Id32), (x23.toNat : Int)⟩ : It)) H sl52 zc54 (by rfl) (by decide) (by decide) rfl (itE_len _) (fun b30 w H hb30 => ?_))
            replace H : Hp _ w _ ([_, _, _, .own (some b30) 1 1 (([(⟨t13, (((s.l).getD q 0).toNat : Int), (⟨(((s.l).drop ((q + 1) + k14)).take (((q + 1) + k14) + 32 - ((q + 1) + k14))).take 32, (show ((((s.l).drop ((q + 1) + k14)).take (((q + 1) + k14) + 32 - ((q + 1) + k14))).take 32).length = 32 from (by simp only [List.length_take, List.length_drop]; omega))⟩ : Id32), (x23.toNat : Int)⟩ : It)]).flatMap itE) 54 35]) := H
            have hl1 : (l ++ ([(⟨t13, (((s.l).getD q 0).toNat : Int), (⟨(((s.l).drop ((q + 1) + k14)).take (((q + 1) + k14) + 32 - ((q + 1) + k14))).take 32, (show ((((s.l).drop ((q + 1) + k14)).take (((q + 1) + k14) + 32 - ((q + 1) + k14))).take 32).length = 32 from (by simp only [List.length_take, List.length_drop]; omega))⟩ : Id32), (x23.toNat : Int)⟩ : It)])).length = l.length + 1 := by rw [List.length_append]; rfl
            refine l_op (o_appG (enc := itE) (s := ⟨hd (some b30), 1, 1, [(⟨t13, (((s.l).getD q 0).toNat : Int), (⟨(((s.l).drop ((q + 1) + k14)).take (((q + 1) + k14) + 32 - ((q + 1) + k14))).take 32, (show ((((s.l).drop ((q + 1) + k14)).take (((q + 1) + k14) + 32 - ((q + 1) + k14))).take 32).length = 32 from (by simp only [List.length_take, List.length_drop]; omega))⟩ : Id32), (x23.toNat : Int)⟩ : It)]⟩) (l' := l ++ ([(⟨t13, (((s.l).getD q 0).toNat : Int), (⟨(((s.l).drop ((q + 1) + k14)).take (((q + 1) + k14) + 32 - ((q + 1) + k14))).take 32, (show ((((s.l).drop ((q + 1) + k14)).take (((q + 1) + k14) + 32 - ((q + 1) + k14))).take 32).length = 32 from (by simp only [List.length_take, List.length_drop]; omega))⟩ : Id32), (x23.toNat : Int)⟩ : It)])) (len' := (l ++ ([(⟨t13, (((s.l).getD q 0).toNat : Int), (⟨(((s.l).drop ((q + 1) + k14)).take (((q + 1) + k14) + 32 - ((q + 1) + k14))).take 32, (show ((((s.l).drop ((q + 1) + k14)).take (((q + 1) + k14) + 32 - ((q + 1) + k14))).take 32).length = 32 from (by simp only [List.length_take, List.length_drop]; omega))⟩ : Id32), (x23.toNat : Int)⟩ : It)])).length) rfl (by rw [List.length_append]; rfl) H (i := 0) rfl sl52 Try.underlying52 rfl rfl (H.glOwn (i := 3) rfl (by decide) (fun c _ => itE_len c)) (by decide) (fun c _ => itE_all c) (by omega) (by decide) (fun a31 c32 w H => ?_))
            replace H : Hp _ w _ ([.own a31 ((l ++ ([(⟨t13, (((s.l).getD q 0).toNat : Int), (⟨(((s.l).drop ((q + 1) + k14)).take (((q + 1) + k14) + 32 - ((q + 1) + k14))).take 32, (show ((((s.l).drop ((q + 1) + k14)).take (((q + 1) + k14) + 32 - ((q + 1) + k14))).take 32).length = 32 from (by simp only [List.length_take, List.length_drop]; omega))⟩ : Id32), (x23.toNat : Int)⟩ : It)])).length) c32 ((l ++ ([(⟨t13, (((s.l).getD q 0).toNat : Int), (⟨(((s.l).drop ((q + 1) + k14)).take (((q + 1) + k14) + 32 - ((q + 1) + k14))).take 32, (show ((((s.l).drop ((q + 1) + k14)).take (((q + 1) + k14) + 32 - ((q + 1) + k14))).take 32).length = 32 from (by simp only [List.length_take, List.length_drop]; omega))⟩ : Id32), (x23.toNat : Int)⟩ : It)])).flatMap itE) 54 35, _, _, _]) := H
            refine l_op (o_val (r_as) ?_)
            first | refine l_end ?_ | refine l_nil ?_
            repeat refine c_seq ?_
            refine c_region ?_
            refine l_op (o_val (r_mv) ?_)
            refine l_op (o_val (r_bin (a := (i : Int)) (b := 1) rfl rfl (fun _ => b_add (by omega) (by omega))) ?_)
            refine l_op (o_val (r_as) ?_)
            first | refine l_end ?_ | refine l_nil ?_
            have he2 : e25 = 0 := by omega
            subst he2
            rw [show q + 1 + k14 + 32 = q + (1 + k14 + 32) by omega, cut_l4 hs] at hco26
            have hy := item_yes (o := (⟨(((s.l).drop ((q + 1) + k14)).take (((q + 1) + k14) + 32 - ((q + 1) + k14))).take 32, (show ((((s.l).drop ((q + 1) + k14)).take (((q + 1) + k14) + 32 - ((q + 1) + k14))).take 32).length = 32 from (by simp only [List.length_take, List.length_drop]; omega))⟩ : Id32)) hto16 (by rw [List.length_drop]; omega) (by rw [List.drop_drop, show q + (1 + k14) = q + 1 + k14 by omega]; first | rfl | (simp only [List.take_take]; congr 1; omega)) hco26 (by omega)
            rw [getD_drop, List.drop_drop] at hy
            refine round_end (i + 1, q + 1 + k14 + 32 + k24, l ++ ([(⟨t13, (((s.l).getD q 0).toNat : Int), (⟨(((s.l).drop ((q + 1) + k14)).take (((q + 1) + k14) + 32 - ((q + 1) + k14))).take 32, (show ((((s.l).drop ((q + 1) + k14)).take (((q + 1) + k14) + 32 - ((q + 1) + k14))).take 32).length = 32 from (by simp only [List.length_take, List.length_drop]; omega))⟩ : Id32), (x23.toNat : Int)⟩ : It)]), a31, c32) ?_ ?_ ?_
            · exact ⟨rfl, rfl, show VI (((((q : Int) + 1) + (k14 : Int)) + 32) + (k24 : Int)) = VI ((q + 1 + k14 + 32 + k24 : Nat) : Int) from congrArg VI (by omega), show VI ((i : Int) + 1) = VI ((i + 1 : Nat) : Int) from congrArg VI (by omega), trivial⟩
            · refine ⟨?_, ?_⟩
              · try dsimp only
                exact ⟨by rw [List.length_append]; exact congrArg (· + 1) hli, by omega, fun y hy_ => (List.mem_append.1 hy_).elim (hfit y) (fun hy_ => by rw [List.mem_singleton.1 hy_]; exact hy.1), by rw [List.flatMap_append, List.append_assoc, List.flatMap_cons, List.flatMap_nil, List.append_nil, show q + 1 + k14 + 32 + k24 = q + (1 + k14 + 32 + k24) by omega, ← hy.2]; exact hcut, by omega, by omega⟩
              · exact H.sub (.cons_cons _ (List.nil_sublist _))
            · show ((s.l).getD 2 0).toNat - (i + 1 : Nat) < ((s.l).getD 2 0).toNat - i; omega
      ·
       repeat refine c_seq ?_
       refine c_no (by exact congrArg Value.bool (decide_eq_false hc8)) ?_
       refine c_exit ?_
       have hfits : ∀ x ∈ l, x.name.length ≤ 65536 ∧ x.size ≤ 9223372036854775807 := fun x hx => ⟨(hfit x hx).2.1, (hfit x hx).2.2⟩
       repeat refine c_seq ?_
       refine c_region ?_
       refine l_op (o_val (r_mv) ?_)
       refine l_op (o_callR Try.func37 rfl rfl rfl (fbytes15_ret _ ⟨hd a, l.length, c, l⟩ (H.glOwn (i := 0) rfl (by decide) (fun c _ => itE_len c)) hfits) ?_)
       rintro _ w ⟨a33, c34, t35, e36, rfl, hby37, Hc⟩
       replace H : Hp _ w _ ([_, .own a33 t35.length c34 ((t35).map V8) 5 1]) := H.call Hc
       clear Hc
       refine l_op (o_val (r_mv) ?_)
       refine l_op (o_val (r_ext rfl rfl) ?_)
       refine l_op (o_val (r_ext rfl rfl) ?_)
       refine l_op (o_val (r_as) ?_)
       refine l_op (o_val (r_as) ?_)
       first | refine l_end ?_ | refine l_nil ?_
       repeat refine c_seq ?_
       refine c_region ?_
       refine l_op (o_val (r_mv) ?_)
       refine l_op (o_val (r_bin (a := e36) (b := 0) rfl rfl (fun _ => b_neq)) ?_)
       refine l_op (o_val (r_mv) ?_)
       by_cases hc38 : e36 ≠ 0
       ·
        refine l_no rfl rfl (by exact congrArg Value.bool (decide_eq_true hc38)) rfl ?_
        refine l_no rfl rfl (by exact congrArg Value.bool (decide_eq_true hc38)) rfl ?_
        refine l_no rfl rfl (by exact congrArg Value.bool (decide_eq_true hc38)) rfl ?_
        refine l_no rfl rfl (by exact congrArg Value.bool (decide_eq_true hc38)) rfl ?_
        refine l_no rfl rfl (by exact congrArg Value.bool (decide_eq_true hc38)) rfl ?_
        refine l_op (o_val (r_pick (b := true) (congrArg Value.bool (decide_eq_true hc38))) ?_)
        first | refine l_end ?_ | refine l_nil ?_
        repeat refine c_seq ?_
        refine c_yes rfl ?_
        repeat refine c_seq ?_
        refine c_region ?_
        refine l_op (o_val (r_as) ?_)
        refine l_op (o_val (r_as) ?_)
        first | refine l_end ?_ | refine l_nil ?_
        refine c_ret ?_
        try dsimp only [Exit.then, Exit.inBlock]
        refine e_retN (vs := [.slice none 0 0, VI 4]) _ Try.results28 rfl (resT (v := .slice none 0 0) rfl (resT (v := VI 4) rfl (resZ))) ?_
        refine ⟨_, rfl, ?_⟩
        refine ⟨none, 0, [], 4, rfl, .inr ⟨rfl, rfl, ?_⟩, (H.sub (List.nil_sublist _)).nilEnd 54 35⟩
        exact (take15_end hcut hfit (by omega) hby37).2 (by rintro ⟨h1, h2⟩; first | omega | contradiction | exact absurd h2 (by assumption))
       ·
        refine l_yes rfl rfl (by exact congrArg Value.bool (decide_eq_false hc38)) (o_val (r_mv) ?_)
        refine l_yes rfl rfl (by exact congrArg Value.bool (decide_eq_false hc38)) (o_val (r_b2S (s := ⟨hd a33, t35.length, c34, t35⟩) Try.underlying32 Try.underlying5 Try.underlying9 rfl (H.slOwn (i := 1) rfl)) ?_)
        refine l_yes rfl rfl (by exact congrArg Value.bool (decide_eq_false hc38)) (o_val (r_mv) ?_)
        refine l_yes rfl rfl (by exact congrArg Value.bool (decide_eq_false hc38)) (o_val (r_b2S (s := s) Try.underlying32 Try.underlying5 Try.underlying9 rfl (hs.up H (fun _ => apart_nil _))) ?_)
        refine l_yes rfl rfl (by exact congrArg Value.bool (decide_eq_false hc38)) (o_val (r_strne (a := t35) (b := s.l) rfl rfl) ?_)
        refine l_op (o_val (r_pick (b := false) (congrArg Value.bool (decide_eq_false hc38))) ?_)
        first | refine l_end ?_ | refine l_nil ?_
        by_cases hc39 : t35 = s.l
        ·
         repeat refine c_seq ?_
         refine c_no (by exact congrArg Value.bool (congrArg not (decide_eq_true hc39))) ?_
         refine c_skip ?_
         repeat refine c_seq ?_
         refine c_region ?_
         refine l_op (o_val (r_mv) ?_)
         refine l_op (o_val (r_as) ?_)
         refine l_op (o_val (r_as) ?_)
         first | refine l_end ?_ | refine l_nil ?_
         refine c_ret ?_
         try dsimp only [Exit.then, Exit.inBlock]
         refine e_retN (vs := [.slice (hd a) l.length c, VI 0]) _ Try.results28 rfl (resT (v := .slice (hd a) l.length c) rfl (resT (v := VI 0) rfl (resZ))) ?_
         refine ⟨_, rfl, ?_⟩
         exact ⟨_, _, _, 0, rfl, .inl ⟨rfl, (take15_end hcut hfit (by omega) hby37).1 ⟨by omega, by assumption⟩⟩, H.sub (.cons_cons _ (List.nil_sublist _))⟩
        ·
         repeat refine c_seq ?_
         refine c_yes (by exact congrArg Value.bool (congrArg not (decide_eq_false hc39))) ?_
         repeat refine c_seq ?_
         refine c_region ?_
         refine l_op (o_val (r_as) ?_)
         refine l_op (o_val (r_as) ?_)
         first | refine l_end ?_ | refine l_nil ?_
         refine c_ret ?_
         try dsimp only [Exit.then, Exit.inBlock]
         refine e_retN (vs := [.slice none 0 0, VI 4]) _ Try.results28 rfl (resT (v := .slice none 0 0) rfl (resT (v := VI 4) rfl (resZ))) ?_
         refine ⟨_, rfl, ?_⟩
         refine ⟨none, 0, [], 4, rfl, .inr ⟨rfl, rfl, ?_⟩, (H.sub (List.nil_sublist _)).nilEnd 54 35⟩
         exact (take15_end hcut hfit (by omega) hby37).2 (by rintro ⟨h1, h2⟩; first | omega | contradiction | exact absurd h2 (by assumption))
end Go.Proofs.Ytomjbabllcmodaa
namespace Go.Proofs.Ytomjbabllcmodaa
open Go
set_option maxRecDepth 100000
theorem alikeIDs_ret (w0 : World) (r u : Gl Id32) (hr : r.ok idE 32 w0) (hu : u.ok idE 32 w0) :
    Ret Try.prog 12 [r.v, u.v] w0 fun v w' => v = .bool (decide (r.l = u.l)) ∧ Hp w0 w' [] [] := by
  refine ret_mk Try.func12 rfl Try.ntmps12 (by simp) ?_
  have H := Hp.refl w0 []
  have hrl := hr.ln
  have hul := hu.ln
  have hrx := hr.mx
  have hrm := hr.le
  have hmL : maxLen = 9223372036854775807 := rfl
  repeat refine c_seq ?_
  refine c_region ?_
  refine l_op (o_val (r_as) ?_)
  first | refine l_end ?_ | refine l_nil ?_
  repeat refine c_seq ?_
  refine c_region ?_
  refine l_op (o_val (r_mv) ?_)
  refine l_op (o_val (r_lens el23 rfl) ?_)
  refine l_op (o_val (r_mv) ?_)
  refine l_op (o_val (r_lens el23 rfl) ?_)
  refine l_op (o_val (r_bin (a := (r.len : Int)) (b := (u.len : Int)) rfl rfl (fun _ => b_neq)) ?_)
  first | refine l_end ?_ | refine l_nil ?_
  by_cases hc1 : (r.len : Int) ≠ (u.len : Int)
  ·
   repeat refine c_seq ?_
   refine c_yes (by exact congrArg Value.bool (decide_eq_true hc1)) ?_
   repeat refine c_seq ?_
   refine c_region ?_
   refine l_op (o_val (r_as) ?_)
   first | refine l_end ?_ | refine l_nil ?_
   refine c_ret ?_
   try dsimp only [Exit.then, Exit.inBlock]
   refine e_ret1 (v := .bool false) Try.results12 rfl ?_
   refine ⟨_, rfl, ?_⟩
   exact ⟨congrArg Value.bool (decide_eq_false (fun h => by have := congrArg List.length h; omega)).symm, H⟩
  ·
   repeat refine c_seq ?_
   refine c_no (by exact congrArg Value.bool (decide_eq_false hc1)) ?_
   refine c_skip ?_
   repeat refine c_seq ?_
   refine c_region ?_
   refine l_op (o_val (r_as) ?_)
   first | refine l_end ?_ | refine l_nil ?_
   repeat refine c_seq ?_
   refine c_block ?_
   repeat refine c_seq ?_
   refine c_loop (fun (i : Nat) => [(0, r.v), (1, u.v), (5, VI (i : Int))])
     (fun (i : Nat) w => (i ≤ r.len ∧ r.l.take i = u.l.take i) ∧ Hp w0 w [] ([]))
     (fun (i : Nat) => r.len - i) 0 ⟨rfl, rfl, rfl, trivial⟩ ⟨⟨Nat.zero_le _, rfl⟩, H⟩ ?_
   clear H
   rintro i τ w ⟨⟨hil, hta⟩, H⟩
   repeat refine c_seq ?_
   refine c_region ?_
   refine l_op (o_val (r_mv) ?_)
   refine l_op (o_val (r_mv) ?_)
   refine l_op (o_val (r_lens el23 rfl) ?_)
   refine l_op (o_val (r_bin (a := (i : Int)) (b := (r.len : Int)) rfl rfl (fun _ => b_lss)) ?_)
   first | refine l_end ?_ | refine l_nil ?_
   by_cases hc2 : (i : Int) < (r.len : Int)
   ·
    repeat refine c_seq ?_
    refine c_yes (by exact congrArg Value.bool (decide_eq_true hc2)) ?_
    refine c_skip ?_
    repeat refine c_seq ?_
    refine c_block ?_
    repeat refine c_seq ?_
    refine c_still mixed (by kernel_rfl) ?_
    replace H := H.drew
    refine s_op (r_mv) ?_
    refine s_op (r_mv) ?_
    have ah5 := ((hr.up H)).addr (by decide) (by first | omega | (dsimp only; omega))
    obtain ⟨ab3, ao4, ah5⟩ := ah5
    refine s_op (r_isN i rfl rfl el23 ah5 (by omega) (by (try simp only [Sl.cut]); omega)) ?_
    have he7 : ∃ c, r.l[i]? = some c := ⟨_, List.getElem?_eq_getElem (by have := ((hr.up H)).ln; (try dsimp only at this ⊢); omega)⟩
    obtain ⟨e6, he7⟩ := he7
    have hez8 := ((hr.up H)).sz e6 (List.mem_of_getElem? he7)
    refine s_op (r_ldRow (s := r) (k := i) (hr.up H) ah5 rfl rt29 (by decide) he7) ?_
    refine s_op (r_mv) ?_
    refine s_op (r_mv) ?_
    have ah11 := ((hu.up H)).addr (by decide) (by first | omega | (dsimp only; omega))
    obtain ⟨ab9, ao10, ah11⟩ := ah11
    refine s_op (r_isN i rfl rfl el23 ah11 (by omega) (by (try simp only [Sl.cut]); omega)) ?_
    have he13 : ∃ c, u.l[i]? = some c := ⟨_, List.getElem?_eq_getElem (by have := ((hu.up H)).ln; (try dsimp only at this ⊢); omega)⟩
    obtain ⟨e12, he13⟩ := he13
    have hez14 := ((hu.up H)).sz e12 (List.mem_of_getElem? he13)
    refine s_op (r_ldRow (s := u) (k := i) (hu.up H) ah11 rfl rt29 (by decide) he13) ?_
    refine s_op (r_nea (a := e6.1) (b := e12.1) Try.underlying29 Try.underlying5 cs5 rfl rfl (show (e6.1).length = 32 from e6.2) (show (e12.1).length = 32 from e12.2)) ?_
    refine s_nil ?_
    by_cases hc15 : e6.1 = e12.1
    ·
     repeat refine c_seq ?_
     refine c_no (by exact congrArg Value.bool (congrArg not (decide_eq_true hc15))) ?_
     refine c_skip ?_
     repeat refine c_seq ?_
     refine c_region ?_
     refine l_op (o_val (r_mv) ?_)
     refine l_op (o_val (r_bin (a := (i : Int)) (b := 1) rfl rfl (fun _ => b_add (by omega) (by omega))) ?_)
     refine l_op (o_val (r_as) ?_)
     first | refine l_end ?_ | refine l_nil ?_
     have heq : e6.1 = e12.1 := by first | assumption | exact Decidable.not_not.1 (by assumption) | exact of_decide_eq_true (by simpa using (decide_eq_true hc15))
     refine round_end (i + 1) ?_ ?_ ?_
     · exact ⟨rfl, rfl, show VI ((i : Int) + 1) = VI ((i + 1 : Nat) : Int) from congrArg VI (by omega), trivial⟩
     · refine ⟨?_, ?_⟩
       · try dsimp only
         exact ⟨by omega, by rw [take_snocG he7, take_snocG he13, hta, Subtype.ext heq]⟩
       · exact H
     · show r.len - (i + 1 : Nat) < r.len - i; omega
    ·
     repeat refine c_seq ?_
     refine c_yes (by exact congrArg Value.bool (congrArg not (decide_eq_false hc15))) ?_
     repeat refine c_seq ?_
     refine c_region ?_
     refine l_op (o_val (r_as) ?_)
     first | refine l_end ?_ | refine l_nil ?_
     refine c_ret ?_
     try dsimp only [Exit.then, Exit.inBlock]
     refine e_ret1 (v := .bool false) Try.results12 rfl ?_
     refine ⟨_, rfl, ?_⟩
     exact ⟨congrArg Value.bool (decide_eq_false (fun h => by have e1 := he7; rw [h, he13] at e1; have e2 := Option.some.inj e1; subst e2; first | contradiction | simp_all)).symm, H⟩
   ·
    repeat refine c_seq ?_
    refine c_no (by exact congrArg Value.bool (decide_eq_false hc2)) ?_
    refine c_exit ?_
    repeat refine c_seq ?_
    refine c_region ?_
    refine l_op (o_val (r_as) ?_)
    first | refine l_end ?_ | refine l_nil ?_
    refine c_ret ?_
    try dsimp only [Exit.then, Exit.inBlock]
    refine e_ret1 (v := .bool true) Try.results12 rfl ?_
    refine ⟨_, rfl, ?_⟩
    exact ⟨congrArg Value.bool (decide_eq_true (by rw [List.take_of_length_le (by omega), List.take_of_length_le (by omega)] at hta; exact hta)).symm, H⟩
theorem less_ret (w0 : World) (x y : Id32) :
    Ret Try.prog 45 [.agg ((x.1).map V8).toArray, .agg ((y.1).map V8).toArray] w0 fun v w' => v = .bool (decide (x.1 < y.1)) ∧ Hp w0 w' [] [] := by
  refine ret_mk Try.func45 rfl Try.ntmps45 (by simp) ?_
  have H := Hp.refl w0 []
  repeat refine c_seq ?_
  refine c_region ?_
  refine l_op (o_box (v := .agg ((x.1).map V8).toArray) H rfl (fun b1 w H hb1 => ?_))
  replace H : Hp _ w _ ([.blk b1 ((x.1).map V8) 29]) := H
  refine l_op (o_box (v := .agg ((y.1).map V8).toArray) H rfl (fun b2 w H hb2 => ?_))
  replace H : Hp _ w _ ([_, .blk b2 ((y.1).map V8) 29]) := H
  refine l_op (o_val (r_as) ?_)
  first | refine l_end ?_ | refine l_nil ?_
  repeat refine c_seq ?_
  refine c_still mixed (by kernel_rfl) ?_
  replace H := H.drew
  refine s_op (r_slA (h := 32) (m := 32) (lv := none) (hv := none) (mv := none) rfl ar29 rfl rfl rfl (fun w => sbn w)) ?_
  refine s_op (r_b2S (s := (⟨some ⟨b1, 0, none⟩, 32, 32, x.1⟩ : Sl)) Try.underlying32 Try.underlying5 Try.underlying9 rfl (H.slBlkA (i := 0) rfl 32 (show (x.1).length = 32 from x.2) (by decide))) ?_
  refine s_op (r_slA (h := 32) (m := 32) (lv := none) (hv := none) (mv := none) rfl ar29 rfl rfl rfl (fun w => sbn w)) ?_
  refine s_op (r_b2S (s := (⟨some ⟨b2, 0, none⟩, 32, 32, y.1⟩ : Sl)) Try.underlying32 Try.underlying5 Try.underlying9 rfl (H.slBlkA (i := 1) rfl 32 (show (y.1).length = 32 from y.2) (by decide))) ?_
  refine s_op (r_strlt (a := x.1) (b := y.1) rfl rfl) ?_
  refine s_op (r_as) ?_
  refine s_nil ?_
  refine c_ret ?_
  try dsimp only [Exit.then, Exit.inBlock]
  refine e_ret1 (v := .bool (Op.bytesLess x.1 y.1)) Try.results45 rfl ?_
  refine ⟨_, rfl, ?_⟩
  exact ⟨by rw [bl_lt], H.sub (List.nil_sublist _)⟩
theorem find17_ret (w0 : World) (g : Gl Ob) (hg : g.ok obE 33 w0) (hgm : g.len ≤ 65536) (k : Id32) :
    Ret Try.prog 16 [g.v, .agg ((k.1).map V8).toArray] w0 fun v w' => ∃ i, FindR g.l k i ∧ v = VI i ∧ Hp w0 w' [] [] := by
  refine ret_mk Try.func16 rfl Try.ntmps16 (by simp) ?_
  have H := Hp.refl w0 []
  have hgl := hg.ln
  repeat refine c_seq ?_
  refine c_region ?_
  refine l_op (o_box (v := .agg ((k.1).map V8).toArray) H rfl (fun b1 w H hb1 => ?_))
  replace H : Hp _ w _ ([.blk b1 ((k.1).map V8) 29]) := H
  refine l_op (o_val (r_as) ?_)
  first | refine l_end ?_ | refine l_nil ?_
  repeat refine c_seq ?_
  refine c_region ?_
  refine l_op (o_val (r_as) ?_)
  first | refine l_end ?_ | refine l_nil ?_
  repeat refine c_seq ?_
  refine c_block ?_
  repeat refine c_seq ?_
  refine c_loop (fun (i : Nat) => [(0, g.v), (3, .pointer (some ⟨b1, 0, none⟩)), (5, VI (i : Int))])
    (fun (i : Nat) w => (i ≤ g.len ∧ ∀ m, m < i → ∀ o, g.l[m]? = some o → o.of ≠ k) ∧ Hp w0 w [] ([.blk b1 ((k.1).map V8) 29]))
    (fun (i : Nat) => g.len - i) 0 ⟨rfl, rfl, rfl, trivial⟩ ⟨⟨Nat.zero_le _, fun m hm => absurd hm (by omega)⟩, H⟩ ?_
  clear H
  rintro i τ w ⟨⟨hil, hno⟩, H⟩
  repeat refine c_seq ?_
  refine c_region ?_
  refine l_op (o_val (r_mv) ?_)
  refine l_op (o_val (r_mv) ?_)
  refine l_op (o_val (r_lens el22 rfl) ?_)
  refine l_op (o_val (r_bin (a := (i : Int)) (b := (g.len : Int)) rfl rfl (fun _ => b_lss)) ?_)
  first | refine l_end ?_ | refine l_nil ?_
  by_cases hc2 : (i : Int) < (g.len : Int)
  ·
   repeat refine c_seq ?_
   refine c_yes (by exact congrArg Value.bool (decide_eq_true hc2)) ?_
   refine c_skip ?_
   repeat refine c_seq ?_
   refine c_block ?_
   repeat refine c_seq ?_
   refine c_still mixed (by kernel_rfl) ?_
   replace H := H.drew
   refine s_op (r_mv) ?_
   refine s_op (r_mv) ?_
   have ah5 := ((hg.up H)).addr (by decide) (by first | omega | (dsimp only; omega))
   obtain ⟨ab3, ao4, ah5⟩ := ah5
   refine s_op (r_isN i rfl rfl el22 ah5 (by omega) (by (try simp only [Sl.cut]); omega)) ?_
   refine s_op (r_fa rfl fo34_0) ?_
   have he7 : ∃ c, g.l[i]? = some c := ⟨_, List.getElem?_eq_getElem (by have := ((hg.up H)).ln; (try dsimp only at this ⊢); omega)⟩
   obtain ⟨e6, he7⟩ := he7
   have hez8 := ((hg.up H)).sz e6 (List.mem_of_getElem? he7)
   refine s_op (r_gk (s := g) (j := i) (hg.up H) ah5 rfl rt29 (by decide) he7 (show Cut3 (obE e6) (([] : List Value)) ((e6.of.1).map V8) (([e6.data.v] : List Value)) 0 32 from ⟨(show (e6.of.1).map V8 ++ (([e6.data.v] : List Value)) = ([] : List Value) ++ (((e6.of.1).map V8) ++ (([e6.data.v] : List Value))) from by simp only [List.nil_append]), (by rfl), (by simp only [List.length_map, (show (e6.of.1).length = 32 from e6.of.2)])⟩)) ?_
   refine s_op (r_ldAA (l := k.1) H (i := 0) rfl rfl rt29 (show (k.1).length = 32 from k.2)) ?_
   refine s_op (r_eqa (a := e6.of.1) (b := k.1) Try.underlying29 Try.underlying5 cs5 rfl rfl (show (e6.of.1).length = 32 from e6.of.2) (show (k.1).length = 32 from k.2)) ?_
   refine s_nil ?_
   by_cases hc9 : e6.of.1 = k.1
   ·
    repeat refine c_seq ?_
    refine c_yes (by exact congrArg Value.bool (decide_eq_true hc9)) ?_
    repeat refine c_seq ?_
    refine c_region ?_
    refine l_op (o_val (r_mv) ?_)
    refine l_op (o_val (r_as) ?_)
    first | refine l_end ?_ | refine l_nil ?_
    refine c_ret ?_
    try dsimp only [Exit.then, Exit.inBlock]
    refine e_ret1 (v := VI (i : Int)) Try.results16 rfl ?_
    refine ⟨_, rfl, ?_⟩
    have hof : e6.of = k := Subtype.ext (by assumption)
    exact ⟨_, .inr ⟨i, e6, rfl, he7, hof, by rw [← hof]; exact lookS_first he7 fun m hm o ho => by rw [hof]; exact hno m hm o ho⟩, rfl, H.sub (List.nil_sublist _)⟩
   ·
    repeat refine c_seq ?_
    refine c_no (by exact congrArg Value.bool (decide_eq_false hc9)) ?_
    refine c_skip ?_
    repeat refine c_seq ?_
    refine c_region ?_
    refine l_op (o_val (r_mv) ?_)
    refine l_op (o_val (r_bin (a := (i : Int)) (b := 1) rfl rfl (fun _ => b_add (by omega) (by omega))) ?_)
    refine l_op (o_val (r_as) ?_)
    first | refine l_end ?_ | refine l_nil ?_
    have hat : ∀ o, g.l[i]? = some o → o.of ≠ k := fun o ho e => by
      rw [he7] at ho; cases ho
      exact absurd (congrArg Subtype.val e) (by assumption)
    refine round_end (i + 1) ?_ ?_ ?_
    · exact ⟨rfl, rfl, show VI ((i : Int) + 1) = VI ((i + 1 : Nat) : Int) from congrArg VI (by omega), trivial⟩
    · refine ⟨?_, ?_⟩
      · try dsimp only
        exact ⟨by omega, fun m hm => (Nat.lt_or_ge m i).elim (hno m) (fun h => (show i = m by omega) ▸ hat)⟩
      · exact H
    · show g.len - (i + 1 : Nat) < g.len - i; omega
  ·
   repeat refine c_seq ?_
   refine c_no (by exact congrArg Value.bool (decide_eq_false hc2)) ?_
   refine c_exit ?_
   repeat refine c_seq ?_
   refine c_region ?_
   refine l_op (o_val (r_as) ?_)
   first | refine l_end ?_ | refine l_nil ?_
   refine c_ret ?_
   try dsimp only [Exit.then, Exit.inBlock]
   refine e_ret1 (v := VI (-1)) Try.results16 rfl ?_
   refine ⟨_, rfl, ?_⟩
   exact ⟨_, .inl ⟨rfl, lookS_none fun m hm => hno m (by omega)⟩, rfl, H.sub (List.nil_sublist _)⟩
theorem get_drop {α : Type} {l : List α} {i : Nat} {x : α} (h : l[i]? = some x) : l.drop i = x :: l.drop (i + 1) := by
  obtain ⟨h1, h2⟩ := List.getElem?_eq_some_iff.1 h
  rw [List.drop_eq_getElem_cons h1, h2]
theorem ris_split {l : List Id32} (h : RisA l) (i : Nat) : RisA (l.take i) ∧ RisA (l.drop i) ∧ ∀ x ∈ l.take i, ∀ y ∈ l.drop i, x.1 < y.1 := by
  have := h
  rw [← List.take_append_drop i l] at this
  exact List.pairwise_append.1 this
theorem with_above {l : List Id32} {k : Id32} {i : Nat} (h : RisA l) (hi : l.length ≤ i ∨ ∃ e, l[i]? = some e ∧ k.1 < e.1) : ∀ x ∈ l.drop i, k.1 < x.1 := fun x hx => by
  rcases hi with hi | ⟨e, he, hk⟩
  · rw [List.drop_eq_nil_of_le hi] at hx; cases hx
  · have h2 := (ris_split h i).2.1
    rw [get_drop he] at h2 hx
    rcases List.mem_cons.1 hx with rfl | hx
    · exact hk
    · exact lt_tr hk ((List.pairwise_cons.1 h2).1 x hx)
theorem with_new {l : List Id32} {k : Id32} {i : Nat} (h : RisA l) (hb : ∀ x ∈ l.take i, x.1 < k.1) (hi : l.length ≤ i ∨ ∃ e, l[i]? = some e ∧ k.1 < e.1) : k ∉ l ∧ RisA ((l.take i ++ [k]) ++ l.drop i) ∧ (∀ x, x ∈ (l.take i ++ [k]) ++ l.drop i ↔ x = k ∨ x ∈ l) := by
  have ha := with_above h hi
  refine ⟨fun hk => ?_, ?_, fun x => ?_⟩
  · rw [← List.take_append_drop i l] at hk
    rcases List.mem_append.1 hk with hk | hk
    · exact lt_irr _ (hb k hk)
    · exact lt_irr _ (ha k hk)
  · rw [RisA, List.pairwise_append]
    refine ⟨List.pairwise_append.2 ⟨(ris_split h i).1, List.pairwise_singleton _ _, fun x hx y hy => by rw [List.mem_singleton.1 hy]; exact hb x hx⟩, (ris_split h i).2.1, fun x hx y hy => ?_⟩
    rcases mem_last hx with hx | rfl
    · exact (ris_split h i).2.2 x hx y hy
    · exact ha y hy
  · have := @List.mem_append _ x (l.take i) (l.drop i)
    rw [List.take_append_drop] at this
    rw [List.mem_append, List.mem_append, List.mem_singleton, this]
    constructor
    · rintro ((h | h) | h)
      · exact .inr (.inl h)
      · exact .inl h
      · exact .inr (.inr h)
    · rintro (h | h | h)
      · exact .inl (.inr h)
      · exact .inl (.inl h)
      · exact .inr h
theorem with_in (w0 : World) (r : Gl Id32) (hr : r.ok idE 32 w0) (k : Id32) (hris : RisA r.l) (hrm : r.len ≤ 16777216) (hk : k ∈ r.l) :
    Ret Try.prog 29 [r.v, .agg ((k.1).map V8).toArray] w0 fun v w' => v = r.v ∧ Hp w0 w' [] [] := by
  refine ret_mk Try.func29 rfl Try.ntmps29 (by simp) ?_
  have H := Hp.refl w0 []
  have hrl := hr.ln
  have hrc := hr.le
  repeat refine c_seq ?_
  refine c_region ?_
  refine l_op (o_box (v := .agg ((k.1).map V8).toArray) H rfl (fun b1 w H hb1 => ?_))
  replace H : Hp _ w _ ([.blk b1 ((k.1).map V8) 29]) := H
  refine l_op (o_val (r_as) ?_)
  first | refine l_end ?_ | refine l_nil ?_
  repeat refine c_seq ?_
  refine c_region ?_
  refine l_op (o_val (r_as) ?_)
  first | refine l_end ?_ | refine l_nil ?_
  repeat refine c_seq ?_
  refine c_block ?_
  repeat refine c_seq ?_
  refine c_loop (fun (i : Nat) => [(0, r.v), (3, .pointer (some ⟨b1, 0, none⟩)), (5, VI (i : Int))])
    (fun (i : Nat) w => (i ≤ r.len ∧ ∀ x ∈ r.l.take i, x.1 < k.1) ∧ Hp w0 w [] ([.blk b1 ((k.1).map V8) 29]))
    (fun (i : Nat) => r.len - i) 0 ⟨rfl, rfl, rfl, trivial⟩ ⟨⟨Nat.zero_le _, fun x hx => (by rw [List.take_zero] at hx; cases hx)⟩, H⟩ ?_
  clear H
  rintro i τ w ⟨⟨hil, hb⟩, H⟩
  repeat refine c_seq ?_
  refine wp_held (fun w => Hp w0 w [] [.blk b1 ((k.1).map V8) 29]) mixed ?_
  replace H := H.drew
  have HS := H
  refine t_take 0 rfl (by kernel_rfl) (by kernel_rfl) (by kernel_rfl) (fun _ _ _ h => h) (fun w HS => r_mv) HS ?_
  refine t_take 1 rfl (by kernel_rfl) (by kernel_rfl) (by kernel_rfl) (fun _ _ _ h => h) (fun w HS => r_mv) HS ?_
  refine t_take 2 rfl (by kernel_rfl) (by kernel_rfl) (by kernel_rfl) (fun _ _ _ h => h) (fun w HS => r_lens el23 rfl) HS ?_
  refine t_take 3 rfl (by kernel_rfl) (by kernel_rfl) (by kernel_rfl) (fun _ _ _ h => h) (fun w HS => r_bin (a := (i : Int)) (b := (r.len : Int)) rfl rfl (fun _ => b_lss)) HS ?_
  refine t_take 4 rfl (by kernel_rfl) (by kernel_rfl) (by kernel_rfl) (fun _ _ _ h => h) (fun w HS => r_mv) HS ?_
  by_cases hc2 : (i : Int) < (r.len : Int)
  ·
   refine t_takeg 5 rfl (by kernel_rfl) (by kernel_rfl) (by kernel_rfl) (fun _ _ _ h => h) (yielded_mk _ _ _ rfl _ rfl (by exact congrArg Value.bool (decide_eq_true hc2))) (fun w HS => r_mv) HS ?_
   refine t_takeg 6 rfl (by kernel_rfl) (by kernel_rfl) (by kernel_rfl) (fun _ _ _ h => h) (yielded_mk _ _ _ rfl _ rfl (by exact congrArg Value.bool (decide_eq_true hc2))) (fun w HS => r_mv) HS ?_
   have ah5 := ((hr.up HS)).addr (by decide) (by first | omega | (dsimp only; omega))
   obtain ⟨ab3, ao4, ah5⟩ := ah5
   refine t_takeg 7 rfl (by kernel_rfl) (by kernel_rfl) (by kernel_rfl) (fun _ _ _ h => h) (yielded_mk _ _ _ rfl _ rfl (by exact congrArg Value.bool (decide_eq_true hc2))) (fun w HS => r_isN i rfl rfl el23 ah5 (by omega) (by (try simp only [Sl.cut]); omega)) HS ?_
   have he7 : ∃ c, r.l[i]? = some c := ⟨_, List.getElem?_eq_getElem (by have := ((hr.up HS)).ln; (try dsimp only at this ⊢); omega)⟩
   obtain ⟨e6, he7⟩ := he7
   have hez8 := ((hr.up HS)).sz e6 (List.mem_of_getElem? he7)
   refine t_takeg 8 rfl (by kernel_rfl) (by kernel_rfl) (by kernel_rfl) (fun _ _ _ h => h) (yielded_mk _ _ _ rfl _ rfl (by exact congrArg Value.bool (decide_eq_true hc2))) (fun w HS => r_ldRow (s := r) (k := i) (hr.up HS) ah5 rfl rt29 (by decide) he7) HS ?_
   refine t_takeg 9 rfl (by kernel_rfl) (by kernel_rfl) (by kernel_rfl) (fun _ _ _ h => h) (yielded_mk _ _ _ rfl _ rfl (by exact congrArg Value.bool (decide_eq_true hc2))) (fun w HS => r_ldAA (l := k.1) HS (i := 0) rfl rfl rt29 (show (k.1).length = 32 from k.2)) HS ?_
   refine t_stepg 10 rfl (by kernel_rfl) (yielded_mk _ _ _ rfl _ rfl (by exact congrArg Value.bool (decide_eq_true hc2))) (o_callR Try.func45 rfl rfl rfl (less_ret _ e6 k) ?_)
   rintro _ w ⟨rfl, Hc⟩
   replace H : Hp _ w _ ([_]) := H.call Hc
   clear Hc
   refine ⟨H, ?_⟩
   replace HS := H
   refine t_take 11 rfl (by kernel_rfl) (by kernel_rfl) (by kernel_rfl) (fun _ _ _ h => h) (fun w HS => r_pick (b := true) (congrArg Value.bool (decide_eq_true hc2))) HS ?_
   refine t_done (by kernel_rfl) ?_
   clear HS
   by_cases hc9 : e6.1 < k.1
   ·
    repeat refine c_seq ?_
    refine c_yes (by exact congrArg Value.bool (decide_eq_true hc9)) ?_
    refine c_skip ?_
    repeat refine c_seq ?_
    refine c_block ?_
    repeat refine c_seq ?_
    refine c_region ?_
    refine l_op (o_val (r_mv) ?_)
    refine l_op (o_val (r_bin (a := (i : Int)) (b := 1) rfl rfl (fun _ => b_add (by omega) (by omega))) ?_)
    refine l_op (o_val (r_as) ?_)
    first | refine l_end ?_ | refine l_nil ?_
    refine round_end (i + 1) ?_ ?_ ?_
    · exact ⟨rfl, rfl, show VI ((i : Int) + 1) = VI ((i + 1 : Nat) : Int) from congrArg VI (by omega), trivial⟩
    · refine ⟨?_, ?_⟩
      · try dsimp only
        exact ⟨by omega, fun x hx => by rw [take_snocG he7] at hx; exact (mem_last hx).elim (hb x) (fun e => by rw [e]; assumption)⟩
      · exact H
    · show r.len - (i + 1 : Nat) < r.len - i; omega
   ·
    repeat refine c_seq ?_
    refine c_no (by exact congrArg Value.bool (decide_eq_false hc9)) ?_
    refine c_exit ?_
    repeat refine c_seq ?_
    refine c_still mixed (by kernel_rfl) ?_
    replace H := H.drew
    refine s_op (r_mv) ?_
    refine s_op (r_mv) ?_
    refine s_op (r_lens el23 rfl) ?_
    refine s_op (r_bin (a := (i : Int)) (b := (r.len : Int)) rfl rfl (fun _ => b_lss)) ?_
    refine s_op (r_mv) ?_
    refine s_yes rfl rfl (by exact congrArg Value.bool (decide_eq_true hc2)) (r_mv) ?_
    refine s_yes rfl rfl (by exact congrArg Value.bool (decide_eq_true hc2)) (r_mv) ?_
    refine s_yes rfl rfl (by exact congrArg Value.bool (decide_eq_true hc2)) (r_isN i rfl rfl el23 ah5 (by omega) (by (try simp only [Sl.cut]); omega)) ?_
    refine s_yes rfl rfl (by exact congrArg Value.bool (decide_eq_true hc2)) (r_ldRow (s := r) (k := i) (hr.up H) ah5 rfl rt29 (by decide) he7) ?_
    refine s_yes rfl rfl (by exact congrArg Value.bool (decide_eq_true hc2)) (r_ldAA (l := k.1) H (i := 0) rfl rfl rt29 (show (k.1).length = 32 from k.2)) ?_
    refine s_yes rfl rfl (by exact congrArg Value.bool (decide_eq_true hc2)) (r_eqa (a := e6.1) (b := k.1) Try.underlying29 Try.underlying5 cs5 rfl rfl (show (e6.1).length = 32 from e6.2) (show (k.1).length = 32 from k.2)) ?_
    refine s_op (r_pick (b := true) (congrArg Value.bool (decide_eq_true hc2))) ?_
    refine s_nil ?_
    by_cases hc10 : e6.1 = k.1
    ·
     repeat refine c_seq ?_
     refine c_yes (by exact congrArg Value.bool (decide_eq_true hc10)) ?_
     repeat refine c_seq ?_
     refine c_region ?_
     refine l_op (o_val (r_mv) ?_)
     refine l_op (o_val (r_as) ?_)
     first | refine l_end ?_ | refine l_nil ?_
     refine c_ret ?_
     try dsimp only [Exit.then, Exit.inBlock]
     refine e_ret1 (v := r.v) Try.results29 rfl ?_
     refine ⟨_, rfl, ?_⟩
     exact ⟨rfl, H.sub (List.nil_sublist _)⟩
    ·
     repeat refine c_seq ?_
     refine c_no (by exact congrArg Value.bool (decide_eq_false hc10)) ?_
     refine c_skip ?_
     repeat refine c_seq ?_
     refine wp_held (fun w => Hp w0 w [] [.blk b1 ((k.1).map V8) 29]) mixed ?_
     replace H := H.drew
     have HS := H
     refine t_take 1 rfl (by kernel_rfl) (by kernel_rfl) (by kernel_rfl) (fun _ _ _ h => h) (fun w HS => r_mv) HS ?_
     refine t_take 2 rfl (by kernel_rfl) (by kernel_rfl) (by kernel_rfl) (fun _ _ _ h => h) (fun w HS => r_mv) HS ?_
     refine t_take 3 rfl (by kernel_rfl) (by kernel_rfl) (by kernel_rfl) (fun _ _ _ h => h) (fun w HS => r_slG (s := r) 0 i r.cap (lv := none) (hv := some (VI (i : Int))) (mv := none) rfl el23 rfl rfl rfl (fun w => by exact sbh i (by omega) (by (try simp only [Sl.cut]); omega) w)) HS ?_
     refine t_take 5 rfl (by kernel_rfl) (by kernel_rfl) (by kernel_rfl) (fun _ _ _ h => h) (fun w HS => r_ldAA (l := k.1) HS (i := 0) rfl rfl rt29 (show (k.1).length = 32 from k.2)) HS ?_
     refine t_take 8 rfl (by kernel_rfl) (by kernel_rfl) (by kernel_rfl) (fun _ _ _ h => h) (fun w HS => r_mv) HS ?_
     refine t_take 9 rfl (by kernel_rfl) (by kernel_rfl) (by kernel_rfl) (fun _ _ _ h => h) (fun w HS => r_mv) HS ?_
     refine t_take 10 rfl (by kernel_rfl) (by kernel_rfl) (by kernel_rfl) (fun _ _ _ h => h) (fun w HS => r_slG (s := r) i r.len r.cap (lv := some (VI (i : Int))) (hv := none) (mv := none) rfl el23 rfl rfl rfl (fun w => by exact sbl i (by omega) (by (try simp only [Sl.cut]); omega) w)) HS ?_
     refine t_all [0, 6] (by kernel_rfl) (by simp) (all_cons (w_op 0 rfl ?_) (all_cons (w_op 6 rfl ?_) (all_nil)))
     ·
      refine (o_bslG0 (α := Id32) (enc := idE) H sl23 zc29 (by decide) (fun b11 w H hb11 => ?_))
      replace H : Hp _ w _ ([_, .own (some b11) 0 0 ((([] : List Id32)).flatMap idE) 29 32]) := H
      refine ⟨H.sub (.cons_cons _ (List.nil_sublist _)), ?_⟩
      replace HS := H.sub (.cons_cons _ (List.nil_sublist _))
      refine t_all [4, 6] (by kernel_rfl) (by simp) (all_cons (w_op 4 rfl ?_) (all_cons (w_op 6 rfl ?_) (all_nil)))
      ·
       refine (o_appG (enc := idE) (s := (Gl.cut r 32 0 i r.cap)) (l' := ((r.l).drop 0).take (i)) (len' := i) rfl (Nat.zero_add _) H (i := 1) rfl sl23 Try.underlying23 rfl rfl ((hr.up H).cut (l := 0) (h := i) (m := r.cap) (by omega) (by (try simp only [Sl.cut]); omega) (by omega) (by (try simp only [Sl.cut]); omega)) (by decide) (fun c _ => idE_all c) (by omega) (by decide) (fun a12 c13 w H => ?_))
       replace H : Hp _ w _ ([_, .own a12 i c13 ((((r.l).drop 0).take (i)).flatMap idE) 29 32]) := H
       refine ⟨H.sub (.cons_cons _ (List.nil_sublist _)), ?_⟩
       replace HS := H.sub (.cons_cons _ (List.nil_sublist _))
       refine t_step 6 rfl (by kernel_rfl) (o_bslG1 (enc := idE) (k) H sl23 zc29 (by rfl) (by decide) (by decide) rfl (idE_len _) (fun b14 w H hb14 => ?_))
       replace H : Hp _ w _ ([_, _, .own (some b14) 1 1 (([k]).flatMap idE) 29 32]) := H
       refine ⟨H.sub (.cons_cons _ (List.nil_sublist _)), ?_⟩
       replace HS := H.sub (.cons_cons _ (List.nil_sublist _))
       refine t_step 7 rfl (by kernel_rfl) (o_appG (enc := idE) (s := ⟨hd (some b14), 1, 1, [k]⟩) (l' := ((r.l).drop 0).take (i) ++ ([k])) (len' := i + 1) rfl rfl H (i := 1) rfl sl23 Try.underlying23 rfl rfl (H.glOwn (i := 2) rfl (by decide) (fun c _ => idE_len c)) (by decide) (fun c _ => idE_all c) (by omega) (by decide) (fun a15 c16 w H => ?_))
       replace H : Hp _ w _ ([_, .own a15 (i + 1) c16 ((((r.l).drop 0).take (i) ++ ([k])).flatMap idE) 29 32, _]) := H
       refine ⟨H.sub (.cons_cons _ (List.nil_sublist _)), ?_⟩
       replace HS := H.sub (.cons_cons _ (List.nil_sublist _))
       refine t_step 11 rfl (by kernel_rfl) (o_appG (enc := idE) (s := (Gl.cut r 32 i r.len r.cap)) (l' := ((r.l).drop 0).take (i) ++ ([k]) ++ (((r.l).drop i).take (r.len - i))) (len' := i + 1 + (r.len - i)) rfl rfl H (i := 1) rfl sl23 Try.underlying23 rfl rfl ((hr.up H).cut (l := i) (h := r.len) (m := r.cap) (by omega) (by (try simp only [Sl.cut]); omega) (by omega) (by (try simp only [Sl.cut]); omega)) (by decide) (fun c _ => idE_all c) (by omega) (by decide) (fun a17 c18 w H => ?_))
       replace H : Hp _ w _ ([_, .own a17 (i + 1 + (r.len - i)) c18 ((((r.l).drop 0).take (i) ++ ([k]) ++ (((r.l).drop i).take (r.len - i))).flatMap idE) 29 32, _]) := H
       refine ⟨H.sub (.cons_cons _ (List.nil_sublist _)), ?_⟩
       replace HS := H.sub (.cons_cons _ (List.nil_sublist _))
       refine t_take 12 rfl (by kernel_rfl) (by kernel_rfl) (by kernel_rfl) (fun _ _ _ h => h) (fun w HS => r_as) HS ?_
       refine t_done (by kernel_rfl) ?_
       clear HS
       refine c_ret ?_
       try dsimp only [Exit.then, Exit.inBlock]
       refine e_ret1 (v := .slice (hd a17) (i + 1 + (r.len - i)) c18) Try.results29 rfl ?_
       refine ⟨_, rfl, ?_⟩
       exact absurd hk (with_new hris hb (.inr ⟨e6, he7, Decidable.byContradiction fun hn => absurd (lt_tot (by assumption) hn) (by assumption)⟩)).1
      ·
       refine (o_bslG1 (enc := idE) (k) H sl23 zc29 (by rfl) (by decide) (by decide) rfl (idE_len _) (fun b19 w H hb19 => ?_))
       replace H : Hp _ w _ ([_, _, .own (some b19) 1 1 (([k]).flatMap idE) 29 32]) := H
       refine ⟨H.sub (.cons_cons _ (List.nil_sublist _)), ?_⟩
       replace HS := H.sub (.cons_cons _ (List.nil_sublist _))
       refine t_step 4 rfl (by kernel_rfl) (o_appG (enc := idE) (s := (Gl.cut r 32 0 i r.cap)) (l' := ((r.l).drop 0).take (i)) (len' := i) rfl (Nat.zero_add _) H (i := 1) rfl sl23 Try.underlying23 rfl rfl ((hr.up H).cut (l := 0) (h := i) (m := r.cap) (by omega) (by (try simp only [Sl.cut]); omega) (by omega) (by (try simp only [Sl.cut]); omega)) (by decide) (fun c _ => idE_all c) (by omega) (by decide) (fun a20 c21 w H => ?_))
       replace H : Hp _ w _ ([_, .own a20 i c21 ((((r.l).drop 0).take (i)).flatMap idE) 29 32, _]) := H
       refine ⟨H.sub (.cons_cons _ (List.nil_sublist _)), ?_⟩
       replace HS := H.sub (.cons_cons _ (List.nil_sublist _))
       refine t_step 7 rfl (by kernel_rfl) (o_appG (enc := idE) (s := ⟨hd (some b19), 1, 1, [k]⟩) (l' := ((r.l).drop 0).take (i) ++ ([k])) (len' := i + 1) rfl rfl H (i := 1) rfl sl23 Try.underlying23 rfl rfl (H.glOwn (i := 2) rfl (by decide) (fun c _ => idE_len c)) (by decide) (fun c _ => idE_all c) (by omega) (by decide) (fun a22 c23 w H => ?_))
       replace H : Hp _ w _ ([_, .own a22 (i + 1) c23 ((((r.l).drop 0).take (i) ++ ([k])).flatMap idE) 29 32, _]) := H
       refine ⟨H.sub (.cons_cons _ (List.nil_sublist _)), ?_⟩
       replace HS := H.sub (.cons_cons _ (List.nil_sublist _))
       refine t_step 11 rfl (by kernel_rfl) (o_appG (enc := idE) (s := (Gl.cut r 32 i r.len r.cap)) (l' := ((r.l).drop 0).take (i) ++ ([k]) ++ (((r.l).drop i).take (r.len - i))) (len' := i + 1 + (r.len - i)) rfl rfl H (i := 1) rfl sl23 Try.underlying23 rfl rfl ((hr.up H).cut (l := i) (h := r.len) (m := r.cap) (by omega) (by (try simp only [Sl.cut]); omega) (by omega) (by (try simp only [Sl.cut]); omega)) (by decide) (fun c _ => idE_all c) (by omega) (by decide) (fun a24 c25 w H => ?_))
       replace H : Hp _ w _ ([_, .own a24 (i + 1 + (r.len - i)) c25 ((((r.l).drop 0).take (i) ++ ([k]) ++ (((r.l).drop i).take (r.len - i))).flatMap idE) 29 32, _]) := H
       refine ⟨H.sub (.cons_cons _ (List.nil_sublist _)), ?_⟩
       replace HS := H.sub (.cons_cons _ (List.nil_sublist _))
       refine t_take 12 rfl (by kernel_rfl) (by kernel_rfl) (by kernel_rfl) (fun _ _ _ h => h) (fun w HS => r_as) HS ?_
       refine t_done (by kernel_rfl) ?_
       clear HS
       refine c_ret ?_
       try dsimp only [Exit.then, Exit.inBlock]
       refine e_ret1 (v := .slice (hd a24) (i + 1 + (r.len - i)) c25) Try.results29 rfl ?_
       refine ⟨_, rfl, ?_⟩
       exact absurd hk (with_new hris hb (.inr ⟨e6, he7, Decidable.byContradiction fun hn => absurd (lt_tot (by assumption) hn) (by assumption)⟩)).1
     ·
      refine (o_bslG1 (enc := idE) (k) H sl23 zc29 (by rfl) (by decide) (by decide) rfl (idE_len _) (fun b26 w H hb26 => ?_))
      replace H : Hp _ w _ ([_, .own (some b26) 1 1 (([k]).flatMap idE) 29 32]) := H
      refine ⟨H.sub (.cons_cons _ (List.nil_sublist _)), ?_⟩
      replace HS := H.sub (.cons_cons _ (List.nil_sublist _))
      refine t_step 0 rfl (by kernel_rfl) (o_bslG0 (α := Id32) (enc := idE) H sl23 zc29 (by decide) (fun b27 w H hb27 => ?_))
      replace H : Hp _ w _ ([_, _, .own (some b27) 0 0 ((([] : List Id32)).flatMap idE) 29 32]) := H
      refine ⟨H.sub (.cons_cons _ (List.nil_sublist _)), ?_⟩
      replace HS := H.sub (.cons_cons _ (List.nil_sublist _))
      refine t_step 4 rfl (by kernel_rfl) (o_appG (enc := idE) (s := (Gl.cut r 32 0 i r.cap)) (l' := ((r.l).drop 0).take (i)) (len' := i) rfl (Nat.zero_add _) H (i := 2) rfl sl23 Try.underlying23 rfl rfl ((hr.up H).cut (l := 0) (h := i) (m := r.cap) (by omega) (by (try simp only [Sl.cut]); omega) (by omega) (by (try simp only [Sl.cut]); omega)) (by decide) (fun c _ => idE_all c) (by omega) (by decide) (fun a28 c29 w H => ?_))
      replace H : Hp _ w _ ([_, _, .own a28 i c29 ((((r.l).drop 0).take (i)).flatMap idE) 29 32]) := H
      refine ⟨H.sub (.cons_cons _ (List.nil_sublist _)), ?_⟩
      replace HS := H.sub (.cons_cons _ (List.nil_sublist _))
      refine t_step 7 rfl (by kernel_rfl) (o_appG (enc := idE) (s := ⟨hd (some b26), 1, 1, [k]⟩) (l' := ((r.l).drop 0).take (i) ++ ([k])) (len' := i + 1) rfl rfl H (i := 2) rfl sl23 Try.underlying23 rfl rfl (H.glOwn (i := 1) rfl (by decide) (fun c _ => idE_len c)) (by decide) (fun c _ => idE_all c) (by omega) (by decide) (fun a30 c31 w H => ?_))
      replace H : Hp _ w _ ([_, _, .own a30 (i + 1) c31 ((((r.l).drop 0).take (i) ++ ([k])).flatMap idE) 29 32]) := H
      refine ⟨H.sub (.cons_cons _ (List.nil_sublist _)), ?_⟩
      replace HS := H.sub (.cons_cons _ (List.nil_sublist _))
      refine t_step 11 rfl (by kernel_rfl) (o_appG (enc := idE) (s := (Gl.cut r 32 i r.len r.cap)) (l' := ((r.l).drop 0).take (i) ++ ([k]) ++ (((r.l).drop i).take (r.len - i))) (len' := i + 1 + (r.len - i)) rfl rfl H (i := 2) rfl sl23 Try.underlying23 rfl rfl ((hr.up H).cut (l := i) (h := r.len) (m := r.cap) (by omega) (by (try simp only [Sl.cut]); omega) (by omega) (by (try simp only [Sl.cut]); omega)) (by decide) (fun c _ => idE_all c) (by omega) (by decide) (fun a32 c33 w H => ?_))
      replace H : Hp _ w _ ([_, _, .own a32 (i + 1 + (r.len - i)) c33 ((((r.l).drop 0).take (i) ++ ([k]) ++ (((r.l).drop i).take (r.len - i))).flatMap idE) 29 32]) := H
      refine ⟨H.sub (.cons_cons _ (List.nil_sublist _)), ?_⟩
      replace HS := H.sub (.cons_cons _ (List.nil_sublist _))
      refine t_take 12 rfl (by kernel_rfl) (by kernel_rfl) (by kernel_rfl) (fun _ _ _ h => h) (fun w HS => r_as) HS ?_
      refine t_done (by kernel_rfl) ?_
      clear HS
      refine c_ret ?_
      try dsimp only [Exit.then, Exit.inBlock]
      refine e_ret1 (v := .slice (hd a32) (i + 1 + (r.len - i)) c33) Try.results29 rfl ?_
      refine ⟨_, rfl, ?_⟩
      exact absurd hk (with_new hris hb (.inr ⟨e6, he7, Decidable.byContradiction fun hn => absurd (lt_tot (by assumption) hn) (by assumption)⟩)).1
  ·
   refine t_no 5 rfl (by kernel_rfl) (by kernel_rfl) (by kernel_rfl) (fun _ _ _ h => h) (yielded_mk _ _ _ rfl _ rfl (by exact congrArg Value.bool (decide_eq_false hc2))) rfl HS ?_
   refine t_no 6 rfl (by kernel_rfl) (by kernel_rfl) (by kernel_rfl) (fun _ _ _ h => h) (yielded_mk _ _ _ rfl _ rfl (by exact congrArg Value.bool (decide_eq_false hc2))) rfl HS ?_
   refine t_no 7 rfl (by kernel_rfl) (by kernel_rfl) (by kernel_rfl) (fun _ _ _ h => h) (yielded_mk _ _ _ rfl _ rfl (by exact congrArg Value.bool (decide_eq_false hc2))) rfl HS ?_
   refine t_no 8 rfl (by kernel_rfl) (by kernel_rfl) (by kernel_rfl) (fun _ _ _ h => h) (yielded_mk _ _ _ rfl _ rfl (by exact congrArg Value.bool (decide_eq_false hc2))) rfl HS ?_
   refine t_no 9 rfl (by kernel_rfl) (by kernel_rfl) (by kernel_rfl) (fun _ _ _ h => h) (yielded_mk _ _ _ rfl _ rfl (by exact congrArg Value.bool (decide_eq_false hc2))) rfl HS ?_
   refine t_no 10 rfl (by kernel_rfl) (by kernel_rfl) (by kernel_rfl) (fun _ _ _ h => h) (yielded_mk _ _ _ rfl _ rfl (by exact congrArg Value.bool (decide_eq_false hc2))) rfl HS ?_
   refine t_take 11 rfl (by kernel_rfl) (by kernel_rfl) (by kernel_rfl) (fun _ _ _ h => h) (fun w HS => r_pick (b := false) (congrArg Value.bool (decide_eq_false hc2))) HS ?_
   refine t_done (by kernel_rfl) ?_
   clear HS
   repeat refine c_seq ?_
   refine c_no rfl ?_
   refine c_exit ?_
   repeat refine c_seq ?_
   refine c_still mixed (by kernel_rfl) ?_
   replace H := H.drew
   refine s_op (r_mv) ?_
   refine s_op (r_mv) ?_
   refine s_op (r_lens el23 rfl) ?_
   refine s_op (r_bin (a := (i : Int)) (b := (r.len : Int)) rfl rfl (fun _ => b_lss)) ?_
   refine s_op (r_mv) ?_
   refine s_no rfl rfl (by exact congrArg Value.bool (decide_eq_false hc2)) rfl ?_
   refine s_no rfl rfl (by exact congrArg Value.bool (decide_eq_false hc2)) rfl ?_
   refine s_no rfl rfl (by exact congrArg Value.bool (decide_eq_false hc2)) rfl ?_
   refine s_no rfl rfl (by exact congrArg Value.bool (decide_eq_false hc2)) rfl ?_
   refine s_no rfl rfl (by exact congrArg Value.bool (decide_eq_false hc2)) rfl ?_
   refine s_no rfl rfl (by exact congrArg Value.bool (decide_eq_false hc2)) rfl ?_
   refine s_op (r_pick (b := false) (congrArg Value.bool (decide_eq_false hc2))) ?_
   refine s_nil ?_
   repeat refine c_seq ?_
   refine c_no rfl ?_
   refine c_skip ?_
   repeat refine c_seq ?_
   refine wp_held (fun w => Hp w0 w [] [.blk b1 ((k.1).map V8) 29]) mixed ?_
   replace H := H.drew
   have HS := H
   refine t_take 1 rfl (by kernel_rfl) (by kernel_rfl) (by kernel_rfl) (fun _ _ _ h => h) (fun w HS => r_mv) HS ?_
   refine t_take 2 rfl (by kernel_rfl) (by kernel_rfl) (by kernel_rfl) (fun _ _ _ h => h) (fun w HS => r_mv) HS ?_
   refine t_take 3 rfl (by kernel_rfl) (by kernel_rfl) (by kernel_rfl) (fun _ _ _ h => h) (fun w HS => r_slG (s := r) 0 i r.cap (lv := none) (hv := some (VI (i : Int))) (mv := none) rfl el23 rfl rfl rfl (fun w => by exact sbh i (by omega) (by (try simp only [Sl.cut]); omega) w)) HS ?_
   refine t_take 5 rfl (by kernel_rfl) (by kernel_rfl) (by kernel_rfl) (fun _ _ _ h => h) (fun w HS => r_ldAA (l := k.1) HS (i := 0) rfl rfl rt29 (show (k.1).length = 32 from k.2)) HS ?_
   refine t_take 8 rfl (by kernel_rfl) (by kernel_rfl) (by kernel_rfl) (fun _ _ _ h => h) (fun w HS => r_mv) HS ?_
   refine t_take 9 rfl (by kernel_rfl) (by kernel_rfl) (by kernel_rfl) (fun _ _ _ h => h) (fun w HS => r_mv) HS ?_
   refine t_take 10 rfl (by kernel_rfl) (by kernel_rfl) (by kernel_rfl) (fun _ _ _ h => h) (fun w HS => r_slG (s := r) i r.len r.cap (lv := some (VI (i : Int))) (hv := none) (mv := none) rfl el23 rfl rfl rfl (fun w => by exact sbl i (by omega) (by (try simp only [Sl.cut]); omega) w)) HS ?_
   refine t_all [0, 6] (by kernel_rfl) (by simp) (all_cons (w_op 0 rfl ?_) (all_cons (w_op 6 rfl ?_) (all_nil)))
   ·
    refine (o_bslG0 (α := Id32) (enc := idE) H sl23 zc29 (by decide) (fun b34 w H hb34 => ?_))
    replace H : Hp _ w _ ([_, .own (some b34) 0 0 ((([] : List Id32)).flatMap idE) 29 32]) := H
    refine ⟨H.sub (.cons_cons _ (List.nil_sublist _)), ?_⟩
    replace HS := H.sub (.cons_cons _ (List.nil_sublist _))
    refine t_all [4, 6] (by kernel_rfl) (by simp) (all_cons (w_op 4 rfl ?_) (all_cons (w_op 6 rfl ?_) (all_nil)))
    ·
     refine (o_appG (enc := idE) (s := (Gl.cut r 32 0 i r.cap)) (l' := ((r.l).drop 0).take (i)) (len' := i) rfl (Nat.zero_add _) H (i := 1) rfl sl23 Try.underlying23 rfl rfl ((hr.up H).cut (l := 0) (h := i) (m := r.cap) (by omega) (by (try simp only [Sl.cut]); omega) (by omega) (by (try simp only [Sl.cut]); omega)) (by decide) (fun c _ => idE_all c) (by omega) (by decide) (fun a35 c36 w H => ?_))
     replace H : Hp _ w _ ([_, .own a35 i c36 ((((r.l).drop 0).take (i)).flatMap idE) 29 32]) := H
     refine ⟨H.sub (.cons_cons _ (List.nil_sublist _)), ?_⟩
     replace HS := H.sub (.cons_cons _ (List.nil_sublist _))
     refine t_step 6 rfl (by kernel_rfl) (o_bslG1 (enc := idE) (k) H sl23 zc29 (by rfl) (by decide) (by decide) rfl (idE_len _) (fun b37 w H hb37 => ?_))
     replace H : Hp _ w _ ([_, _, .own (some b37) 1 1 (([k]).flatMap idE) 29 32]) := H
     refine ⟨H.sub (.cons_cons _ (List.nil_sublist _)), ?_⟩
     replace HS := H.sub (.cons_cons _ (List.nil_sublist _))
     refine t_step 7 rfl (by kernel_rfl) (o_appG (enc := idE) (s := ⟨hd (some b37), 1, 1, [k]⟩) (l' := ((r.l).drop 0).take (i) ++ ([k])) (len' := i + 1) rfl rfl H (i := 1) rfl sl23 Try.underlying23 rfl rfl (H.glOwn (i := 2) rfl (by decide) (fun c _ => idE_len c)) (by decide) (fun c _ => idE_all c) (by omega) (by decide) (fun a38 c39 w H => ?_))
     replace H : Hp _ w _ ([_, .own a38 (i + 1) c39 ((((r.l).drop 0).take (i) ++ ([k])).flatMap idE) 29 32, _]) := H
     refine ⟨H.sub (.cons_cons _ (List.nil_sublist _)), ?_⟩
     replace HS := H.sub (.cons_cons _ (List.nil_sublist _))
     refine t_step 11 rfl (by kernel_rfl) (o_appG (enc := idE) (s := (Gl.cut r 32 i r.len r.cap)) (l' := ((r.l).drop 0).take (i) ++ ([k]) ++ (((r.l).drop i).take (r.len - i))) (len' := i + 1 + (r.len - i)) rfl rfl H (i := 1) rfl sl23 Try.underlying23 rfl rfl ((hr.up H).cut (l := i) (h := r.len) (m := r.cap) (by omega) (by (try simp only [Sl.cut]); omega) (by omega) (by (try simp only [Sl.cut]); omega)) (by decide) (fun c _ => idE_all c) (by omega) (by decide) (fun a40 c41 w H => ?_))
     replace H : Hp _ w _ ([_, .own a40 (i + 1 + (r.len - i)) c41 ((((r.l).drop 0).take (i) ++ ([k]) ++ (((r.l).drop i).take (r.len - i))).flatMap idE) 29 32, _]) := H
     refine ⟨H.sub (.cons_cons _ (List.nil_sublist _)), ?_⟩
     replace HS := H.sub (.cons_cons _ (List.nil_sublist _))
     refine t_take 12 rfl (by kernel_rfl) (by kernel_rfl) (by kernel_rfl) (fun _ _ _ h => h) (fun w HS => r_as) HS ?_
     refine t_done (by kernel_rfl) ?_
     clear HS
     refine c_ret ?_
     try dsimp only [Exit.then, Exit.inBlock]
     refine e_ret1 (v := .slice (hd a40) (i + 1 + (r.len - i)) c41) Try.results29 rfl ?_
     refine ⟨_, rfl, ?_⟩
     exact absurd hk (with_new hris hb (.inl (by omega))).1
    ·
     refine (o_bslG1 (enc := idE) (k) H sl23 zc29 (by rfl) (by decide) (by decide) rfl (idE_len _) (fun b42 w H hb42 => ?_))
     replace H : Hp _ w _ ([_, _, .own (some b42) 1 1 (([k]).flatMap idE) 29 32]) := H
     refine ⟨H.sub (.cons_cons _ (List.nil_sublist _)), ?_⟩
     replace HS := H.sub (.cons_cons _ (List.nil_sublist _))
     refine t_step 4 rfl (by kernel_rfl) (o_appG (enc := idE) (s := (Gl.cut r 32 0 i r.cap)) (l' := ((r.l).drop 0).take (i)) (len' := i) rfl (Nat.zero_add _) H (i := 1) rfl sl23 Try.underlying23 rfl rfl ((hr.up H).cut (l := 0) (h := i) (m := r.cap) (by omega) (by (try simp only [Sl.cut]); omega) (by omega) (by (try simp only [Sl.cut]); omega)) (by decide) (fun c _ => idE_all c) (by omega) (by decide) (fun a43 c44 w H => ?_))
     replace H : Hp _ w _ ([_, .own a43 i c44 ((((r.l).drop 0).take (i)).flatMap idE) 29 32, _]) := H
     refine ⟨H.sub (.cons_cons _ (List.nil_sublist _)), ?_⟩
     replace HS := H.sub (.cons_cons _ (List.nil_sublist _))
     refine t_step 7 rfl (by kernel_rfl) (o_appG (enc := idE) (s := ⟨hd (some b42), 1, 1, [k]⟩) (l' := ((r.l).drop 0).take (i) ++ ([k])) (len' := i + 1) rfl rfl H (i := 1) rfl sl23 Try.underlying23 rfl rfl (H.glOwn (i := 2) rfl (by decide) (fun c _ => idE_len c)) (by decide) (fun c _ => idE_all c) (by omega) (by decide) (fun a45 c46 w H => ?_))
     replace H : Hp _ w _ ([_, .own a45 (i + 1) c46 ((((r.l).drop 0).take (i) ++ ([k])).flatMap idE) 29 32, _]) := H
     refine ⟨H.sub (.cons_cons _ (List.nil_sublist _)), ?_⟩
     replace HS := H.sub (.cons_cons _ (List.nil_sublist _))
     refine t_step 11 rfl (by kernel_rfl) (o_appG (enc := idE) (s := (Gl.cut r 32 i r.len r.cap)) (l' := ((r.l).drop 0).take (i) ++ ([k]) ++ (((r.l).drop i).take (r.len - i))) (len' := i + 1 + (r.len - i)) rfl rfl H (i := 1) rfl sl23 Try.underlying23 rfl rfl ((hr.up H).cut (l := i) (h := r.len) (m := r.cap) (by omega) (by (try simp only [Sl.cut]); omega) (by omega) (by (try simp only [Sl.cut]); omega)) (by decide) (fun c _ => idE_all c) (by omega) (by decide) (fun a47 c48 w H => ?_))
     replace H : Hp _ w _ ([_, .own a47 (i + 1 + (r.len - i)) c48 ((((r.l).drop 0).take (i) ++ ([k]) ++ (((r.l).drop i).take (r.len - i))).flatMap idE) 29 32, _]) := H
     refine ⟨H.sub (.cons_cons _ (List.nil_sublist _)), ?_⟩
     replace HS := H.sub (.cons_cons _ (List.nil_sublist _))
     refine t_take 12 rfl (by kernel_rfl) (by kernel_rfl) (by kernel_rfl) (fun _ _ _ h => h) (fun w HS => r_as) HS ?_
     refine t_done (by kernel_rfl) ?_
     clear HS
     refine c_ret ?_
     try dsimp only [Exit.then, Exit.inBlock]
     refine e_ret1 (v := .slice (hd a47) (i + 1 + (r.len - i)) c48) Try.results29 rfl ?_
     refine ⟨_, rfl, ?_⟩
     exact absurd hk (with_new hris hb (.inl (by omega))).1
   ·
    refine (o_bslG1 (enc := idE) (k) H sl23 zc29 (by rfl) (by decide) (by decide) rfl (idE_len _) (fun b49 w H hb49 => ?_))
    replace H : Hp _ w _ ([_, .own (some b49) 1 1 (([k]).flatMap idE) 29 32]) := H
    refine ⟨H.sub (.cons_cons _ (List.nil_sublist _)), ?_⟩
    replace HS := H.sub (.cons_cons _ (List.nil_sublist _))
    refine t_step 0 rfl (by kernel_rfl) (o_bslG0 (α := Id32) (enc := idE) H sl23 zc29 (by decide) (fun b50 w H hb50 => ?_))
    replace H : Hp _ w _ ([_, _, .own (some b50) 0 0 ((([] : List Id32)).flatMap idE) 29 32]) := H
    refine ⟨H.sub (.cons_cons _ (List.nil_sublist _)), ?_⟩
    replace HS := H.sub (.cons_cons _ (List.nil_sublist _))
    refine t_step 4 rfl (by kernel_rfl) (o_appG (enc := idE) (s := (Gl.cut r 32 0 i r.cap)) (l' := ((r.l).drop 0).take (i)) (len' := i) rfl (Nat.zero_add _) H (i := 2) rfl sl23 Try.underlying23 rfl rfl ((hr.up H).cut (l := 0) (h := i) (m := r.cap) (by omega) (by (try simp only [Sl.cut]); omega) (by omega) (by (try simp only [Sl.cut]); omega)) (by decide) (fun c _ => idE_all c) (by omega) (by decide) (fun a51 c52 w H => ?_))
    replace H : Hp _ w _ ([_, _, .own a51 i c52 ((((r.l).drop 0).take (i)).flatMap idE) 29 32]) := H
    refine ⟨H.sub (.cons_cons _ (List.nil_sublist _)), ?_⟩
    replace HS := H.sub (.cons_cons _ (List.nil_sublist _))
    refine t_step 7 rfl (by kernel_rfl) (o_appG (enc := idE) (s := ⟨hd (some b49), 1, 1, [k]⟩) (l' := ((r.l).drop 0).take (i) ++ ([k])) (len' := i + 1) rfl rfl H (i := 2) rfl sl23 Try.underlying23 rfl rfl (H.glOwn (i := 1) rfl (by decide) (fun c _ => idE_len c)) (by decide) (fun c _ => idE_all c) (by omega) (by decide) (fun a53 c54 w H => ?_))
    replace H : Hp _ w _ ([_, _, .own a53 (i + 1) c54 ((((r.l).drop 0).take (i) ++ ([k])).flatMap idE) 29 32]) := H
    refine ⟨H.sub (.cons_cons _ (List.nil_sublist _)), ?_⟩
    replace HS := H.sub (.cons_cons _ (List.nil_sublist _))
    refine t_step 11 rfl (by kernel_rfl) (o_appG (enc := idE) (s := (Gl.cut r 32 i r.len r.cap)) (l' := ((r.l).drop 0).take (i) ++ ([k]) ++ (((r.l).drop i).take (r.len - i))) (len' := i + 1 + (r.len - i)) rfl rfl H (i := 2) rfl sl23 Try.underlying23 rfl rfl ((hr.up H).cut (l := i) (h := r.len) (m := r.cap) (by omega) (by (try simp only [Sl.cut]); omega) (by omega) (by (try simp only [Sl.cut]); omega)) (by decide) (fun c _ => idE_all c) (by omega) (by decide) (fun a55 c56 w H => ?_))
    replace H : Hp _ w _ ([_, _, .own a55 (i + 1 + (r.len - i)) c56 ((((r.l).drop 0).take (i) ++ ([k]) ++ (((r.l).drop i).take (r.len - i))).flatMap idE) 29 32]) := H
    refine ⟨H.sub (.cons_cons _ (List.nil_sublist _)), ?_⟩
    replace HS := H.sub (.cons_cons _ (List.nil_sublist _))
    refine t_take 12 rfl (by kernel_rfl) (by kernel_rfl) (by kernel_rfl) (fun _ _ _ h => h) (fun w HS => r_as) HS ?_
    refine t_done (by kernel_rfl) ?_
    clear HS
    refine c_ret ?_
    try dsimp only [Exit.then, Exit.inBlock]
    refine e_ret1 (v := .slice (hd a55) (i + 1 + (r.len - i)) c56) Try.results29 rfl ?_
    refine ⟨_, rfl, ?_⟩
    exact absurd hk (with_new hris hb (.inl (by omega))).1
theorem with_out (w0 : World) (r : Gl Id32) (hr : r.ok idE 32 w0) (k : Id32) (hris : RisA r.l) (hrm : r.len ≤ 16777216) (hk : k ∉ r.l) :
    Ret Try.prog 29 [r.v, .agg ((k.1).map V8).toArray] w0 fun v w' => ∃ a c R, (RisA R ∧ (∀ x, x ∈ R ↔ x = k ∨ x ∈ r.l) ∧ R.length = r.len + 1) ∧ v = .slice (hd a) R.length c ∧ Hp w0 w' [] [.own a R.length c (R.flatMap idE) 29 32] := by
  refine ret_mk Try.func29 rfl Try.ntmps29 (by simp) ?_
  have H := Hp.refl w0 []
  have hrl := hr.ln
  have hrc := hr.le
  repeat refine c_seq ?_
  refine c_region ?_
  refine l_op (o_box (v := .agg ((k.1).map V8).toArray) H rfl (fun b1 w H hb1 => ?_))
  replace H : Hp _ w _ ([.blk b1 ((k.1).map V8) 29]) := H
  refine l_op (o_val (r_as) ?_)
  first | refine l_end ?_ | refine l_nil ?_
  repeat refine c_seq ?_
  refine c_region ?_
  refine l_op (o_val (r_as) ?_)
  first | refine l_end ?_ | refine l_nil ?_
  repeat refine c_seq ?_
  refine c_block ?_
  repeat refine c_seq ?_
  refine c_loop (fun (i : Nat) => [(0, r.v), (3, .pointer (some ⟨b1, 0, none⟩)), (5, VI (i : Int))])
    (fun (i : Nat) w => (i ≤ r.len ∧ ∀ x ∈ r.l.take i, x.1 < k.1) ∧ Hp w0 w [] ([.blk b1 ((k.1).map V8) 29]))
    (fun (i : Nat) => r.len - i) 0 ⟨rfl, rfl, rfl, trivial⟩ ⟨⟨Nat.zero_le _, fun x hx => (by rw [List.take_zero] at hx; cases hx)⟩, H⟩ ?_
  clear H
  rintro i τ w ⟨⟨hil, hb⟩, H⟩
  repeat refine c_seq ?_
  refine wp_held (fun w => Hp w0 w [] [.blk b1 ((k.1).map V8) 29]) mixed ?_
  replace H := H.drew
  have HS := H
  refine t_take 0 rfl (by kernel_rfl) (by kernel_rfl) (by kernel_rfl) (fun _ _ _ h => h) (fun w HS => r_mv) HS ?_
  refine t_take 1 rfl (by kernel_rfl) (by kernel_rfl) (by kernel_rfl) (fun _ _ _ h => h) (fun w HS => r_mv) HS ?_
  refine t_take 2 rfl (by kernel_rfl) (by kernel_rfl) (by kernel_rfl) (fun _ _ _ h => h) (fun w HS => r_lens el23 rfl) HS ?_
  refine t_take 3 rfl (by kernel_rfl) (by kernel_rfl) (by kernel_rfl) (fun _ _ _ h => h) (fun w HS => r_bin (a := (i : Int)) (b := (r.len : Int)) rfl rfl (fun _ => b_lss)) HS ?_
  refine t_take 4 rfl (by kernel_rfl) (by kernel_rfl) (by kernel_rfl) (fun _ _ _ h => h) (fun w HS => r_mv) HS ?_
  by_cases hc2 : (i : Int) < (r.len : Int)
  ·
   refine t_takeg 5 rfl (by kernel_rfl) (by kernel_rfl) (by kernel_rfl) (fun _ _ _ h => h) (yielded_mk _ _ _ rfl _ rfl (by exact congrArg Value.bool (decide_eq_true hc2))) (fun w HS => r_mv) HS ?_
   refine t_takeg 6 rfl (by kernel_rfl) (by kernel_rfl) (by kernel_rfl) (fun _ _ _ h => h) (yielded_mk _ _ _ rfl _ rfl (by exact congrArg Value.bool (decide_eq_true hc2))) (fun w HS => r_mv) HS ?_
   have ah5 := ((hr.up HS)).addr (by decide) (by first | omega | (dsimp only; omega))
   obtain ⟨ab3, ao4, ah5⟩ := ah5
   refine t_takeg 7 rfl (by kernel_rfl) (by kernel_rfl) (by kernel_rfl) (fun _ _ _ h => h) (yielded_mk _ _ _ rfl _ rfl (by exact congrArg Value.bool (decide_eq_true hc2))) (fun w HS => r_isN i rfl rfl el23 ah5 (by omega) (by (try simp only [Sl.cut]); omega)) HS ?_
   have he7 : ∃ c, r.l[i]? = some c := ⟨_, List.getElem?_eq_getElem (by have := ((hr.up HS)).ln; (try dsimp only at this ⊢); omega)⟩
   obtain ⟨e6, he7⟩ := he7
   have hez8 := ((hr.up HS)).sz e6 (List.mem_of_getElem? he7)
   refine t_takeg 8 rfl (by kernel_rfl) (by kernel_rfl) (by kernel_rfl) (fun _ _ _ h => h) (yielded_mk _ _ _ rfl _ rfl (by exact congrArg Value.bool (decide_eq_true hc2))) (fun w HS => r_ldRow (s := r) (k := i) (hr.up HS) ah5 rfl rt29 (by decide) he7) HS ?_
   refine t_takeg 9 rfl (by kernel_rfl) (by kernel_rfl) (by kernel_rfl) (fun _ _ _ h => h) (yielded_mk _ _ _ rfl _ rfl (by exact congrArg Value.bool (decide_eq_true hc2))) (fun w HS => r_ldAA (l := k.1) HS (i := 0) rfl rfl rt29 (show (k.1).length = 32 from k.2)) HS ?_
   refine t_stepg 10 rfl (by kernel_rfl) (yielded_mk _ _ _ rfl _ rfl (by exact congrArg Value.bool (decide_eq_true hc2))) (o_callR Try.func45 rfl rfl rfl (less_ret _ e6 k) ?_)
   rintro _ w ⟨rfl, Hc⟩
   replace H : Hp _ w _ ([_]) := H.call Hc
   clear Hc
   refine ⟨H, ?_⟩
   replace HS := H
   refine t_take 11 rfl (by kernel_rfl) (by kernel_rfl) (by kernel_rfl) (fun _ _ _ h => h) (fun w HS => r_pick (b := true) (congrArg Value.bool (decide_eq_true hc2))) HS ?_
   refine t_done (by kernel_rfl) ?_
   clear HS
   by_cases hc9 : e6.1 < k.1
   ·
    repeat refine c_seq ?_
    refine c_yes (by exact congrArg Value.bool (decide_eq_true hc9)) ?_
    refine c_skip ?_
    repeat refine c_seq ?_
    refine c_block ?_
    repeat refine c_seq ?_
    refine c_region ?_
    refine l_op (o_val (r_mv) ?_)
    refine l_op (o_val (r_bin (a := (i : Int)) (b := 1) rfl rfl (fun _ => b_add (by omega) (by omega))) ?_)
    refine l_op (o_val (r_as) ?_)
    first | refine l_end ?_ | refine l_nil ?_
    refine round_end (i + 1) ?_ ?_ ?_
    · exact ⟨rfl, rfl, show VI ((i : Int) + 1) = VI ((i + 1 : Nat) : Int) from congrArg VI (by omega), trivial⟩
    · refine ⟨?_, ?_⟩
      · try dsimp only
        exact ⟨by omega, fun x hx => by rw [take_snocG he7] at hx; exact (mem_last hx).elim (hb x) (fun e => by rw [e]; assumption)⟩
      · exact H
    · show r.len - (i + 1 : Nat) < r.len - i; omega
   ·
    repeat refine c_seq ?_
    refine c_no (by exact congrArg Value.bool (decide_eq_false hc9)) ?_
    refine c_exit ?_
    repeat refine c_seq ?_
    refine c_still mixed (by kernel_rfl) ?_
    replace H := H.drew
    refine s_op (r_mv) ?_
    refine s_op (r_mv) ?_
    refine s_op (r_lens el23 rfl) ?_
    refine s_op (r_bin (a := (i : Int)) (b := (r.len : Int)) rfl rfl (fun _ => b_lss)) ?_
    refine s_op (r_mv) ?_
    refine s_yes rfl rfl (by exact congrArg Value.bool (decide_eq_true hc2)) (r_mv) ?_
    refine s_yes rfl rfl (by exact congrArg Value.bool (decide_eq_true hc2)) (r_mv) ?_
    refine s_yes rfl rfl (by exact congrArg Value.bool (decide_eq_true hc2)) (r_isN i rfl rfl el23 ah5 (by omega) (by (try simp only [Sl.cut]); omega)) ?_
    refine s_yes rfl rfl (by exact congrArg Value.bool (decide_eq_true hc2)) (r_ldRow (s := r) (k := i) (hr.up H) ah5 rfl rt29 (by decide) he7) ?_
    refine s_yes rfl rfl (by exact congrArg Value.bool (decide_eq_true hc2)) (r_ldAA (l := k.1) H (i := 0) rfl rfl rt29 (show (k.1).length = 32 from k.2)) ?_
    refine s_yes rfl rfl (by exact congrArg Value.bool (decide_eq_true hc2)) (r_eqa (a := e6.1) (b := k.1) Try.underlying29 Try.underlying5 cs5 rfl rfl (show (e6.1).length = 32 from e6.2) (show (k.1).length = 32 from k.2)) ?_
    refine s_op (r_pick (b := true) (congrArg Value.bool (decide_eq_true hc2))) ?_
    refine s_nil ?_
    by_cases hc10 : e6.1 = k.1
    ·
     repeat refine c_seq ?_
     refine c_yes (by exact congrArg Value.bool (decide_eq_true hc10)) ?_
     repeat refine c_seq ?_
     refine c_region ?_
     refine l_op (o_val (r_mv) ?_)
     refine l_op (o_val (r_as) ?_)
     first | refine l_end ?_ | refine l_nil ?_
     refine c_ret ?_
     try dsimp only [Exit.then, Exit.inBlock]
     refine e_ret1 (v := r.v) Try.results29 rfl ?_
     refine ⟨_, rfl, ?_⟩
     have hek : e6 = k := Subtype.ext (by assumption)
     exact absurd (by rw [← hek]; exact List.mem_of_getElem? he7) hk
    ·
     repeat refine c_seq ?_
     refine c_no (by exact congrArg Value.bool (decide_eq_false hc10)) ?_
     refine c_skip ?_
     repeat refine c_seq ?_
     refine wp_held (fun w => Hp w0 w [] [.blk b1 ((k.1).map V8) 29]) mixed ?_
     replace H := H.drew
     have HS := H
     refine t_take 1 rfl (by kernel_rfl) (by kernel_rfl) (by kernel_rfl) (fun _ _ _ h => h) (fun w HS => r_mv) HS ?_
     refine t_take 2 rfl (by kernel_rfl) (by kernel_rfl) (by kernel_rfl) (fun _ _ _ h => h) (fun w HS => r_mv) HS ?_
     refine t_take 3 rfl (by kernel_rfl) (by kernel_rfl) (by kernel_rfl) (fun _ _ _ h => h) (fun w HS => r_slG (s := r) 0 i r.cap (lv := none) (hv := some (VI (i : Int))) (mv := none) rfl el23 rfl rfl rfl (fun w => by exact sbh i (by omega) (by (try simp only [Sl.cut]); omega) w)) HS ?_
     refine t_take 5 rfl (by kernel_rfl) (by kernel_rfl) (by kernel_rfl) (fun _ _ _ h => h) (fun w HS => r_ldAA (l := k.1) HS (i := 0) rfl rfl rt29 (show (k.1).length = 32 from k.2)) HS ?_
     refine t_take 8 rfl (by kernel_rfl) (by kernel_rfl) (by kernel_rfl) (fun _ _ _ h => h) (fun w HS => r_mv) HS ?_
     refine t_take 9 rfl (by kernel_rfl) (by kernel_rfl) (by kernel_rfl) (fun _ _ _ h => h) (fun w HS => r_mv) HS ?_
     refine t_take 10 rfl (by kernel_rfl) (by kernel_rfl) (by kernel_rfl) (fun _ _ _ h => h) (fun w HS => r_slG (s := r) i r.len r.cap (lv := some (VI (i : Int))) (hv := none) (mv := none) rfl el23 rfl rfl rfl (fun w => by exact sbl i (by omega) (by (try simp only [Sl.cut]); omega) w)) HS ?_
     refine t_all [0, 6] (by kernel_rfl) (by simp) (all_cons (w_op 0 rfl ?_) (all_cons (w_op 6 rfl ?_) (all_nil)))
     ·
      refine (o_bslG0 (α := Id32) (enc := idE) H sl23 zc29 (by decide) (fun b11 w H hb11 => ?_))
      replace H : Hp _ w _ ([_, .own (some b11) 0 0 ((([] : List Id32)).flatMap idE) 29 32]) := H
      refine ⟨H.sub (.cons_cons _ (List.nil_sublist _)), ?_⟩
      replace HS := H.sub (.cons_cons _ (List.nil_sublist _))
      refine t_all [4, 6] (by kernel_rfl) (by simp) (all_cons (w_op 4 rfl ?_) (all_cons (w_op 6 rfl ?_) (all_nil)))
      ·
       refine (o_appG (enc := idE) (s := (Gl.cut r 32 0 i r.cap)) (l' := ((r.l).drop 0).take (i)) (len' := i) rfl (Nat.zero_add _) H (i := 1) rfl sl23 Try.underlying23 rfl rfl ((hr.up H).cut (l := 0) (h := i) (m := r.cap) (by omega) (by (try simp only [Sl.cut]); omega) (by omega) (by (try simp only [Sl.cut]); omega)) (by decide) (fun c _ => idE_all c) (by omega) (by decide) (fun a12 c13 w H => ?_))
       replace H : Hp _ w _ ([_, .own a12 i c13 ((((r.l).drop 0).take (i)).flatMap idE) 29 32]) := H
       refine ⟨H.sub (.cons_cons _ (List.nil_sublist _)), ?_⟩
       replace HS := H.sub (.cons_cons _ (List.nil_sublist _))
       refine t_step 6 rfl (by kernel_rfl) (o_bslG1 (enc := idE) (k) H sl23 zc29 (by rfl) (by decide) (by decide) rfl (idE_len _) (fun b14 w H hb14 => ?_))
       replace H : Hp _ w _ ([_, _, .own (some b14) 1 1 (([k]).flatMap idE) 29 32]) := H
       refine ⟨H.sub (.cons_cons _ (List.nil_sublist _)), ?_⟩
       replace HS := H.sub (.cons_cons _ (List.nil_sublist _))
       refine t_step 7 rfl (by kernel_rfl) (o_appG (enc := idE) (s := ⟨hd (some b14), 1, 1, [k]⟩) (l' := ((r.l).drop 0).take (i) ++ ([k])) (len' := i + 1) rfl rfl H (i := 1) rfl sl23 Try.underlying23 rfl rfl (H.glOwn (i := 2) rfl (by decide) (fun c _ => idE_len c)) (by decide) (fun c _ => idE_all c) (by omega) (by decide) (fun a15 c16 w H => ?_))
       replace H : Hp _ w _ ([_, .own a15 (i + 1) c16 ((((r.l).drop 0).take (i) ++ ([k])).flatMap idE) 29 32, _]) := H
       refine ⟨H.sub (.cons_cons _ (List.nil_sublist _)), ?_⟩
       replace HS := H.sub (.cons_cons _ (List.nil_sublist _))
       refine t_step 11 rfl (by kernel_rfl) (o_appG (enc := idE) (s := (Gl.cut r 32 i r.len r.cap)) (l' := ((r.l).drop 0).take (i) ++ ([k]) ++ (((r.l).drop i).take (r.len - i))) (len' := i + 1 + (r.len - i)) rfl rfl H (i := 1) rfl sl23 Try.underlying23 rfl rfl ((hr.up H).cut (l := i) (h := r.len) (m := r.cap) (by omega) (by (try simp only [Sl.cut]); omega) (by omega) (by (try simp only [Sl.cut]); omega)) (by decide) (fun c _ => idE_all c) (by omega) (by decide) (fun a17 c18 w H => ?_))
       replace H : Hp _ w _ ([_, .own a17 (i + 1 + (r.len - i)) c18 ((((r.l).drop 0).take (i) ++ ([k]) ++ (((r.l).drop i).take (r.len - i))).flatMap idE) 29 32, _]) := H
       refine ⟨H.sub (.cons_cons _ (List.nil_sublist _)), ?_⟩
       replace HS := H.sub (.cons_cons _ (List.nil_sublist _))
       refine t_take 12 rfl (by kernel_rfl) (by kernel_rfl) (by kernel_rfl) (fun _ _ _ h => h) (fun w HS => r_as) HS ?_
       refine t_done (by kernel_rfl) ?_
       clear HS
       refine c_ret ?_
       try dsimp only [Exit.then, Exit.inBlock]
       refine e_ret1 (v := .slice (hd a17) (i + 1 + (r.len - i)) c18) Try.results29 rfl ?_
       refine ⟨_, rfl, ?_⟩
       obtain ⟨_, hn1, hn2⟩ := with_new hris hb (.inr ⟨e6, he7, Decidable.byContradiction fun hn => absurd (lt_tot (by assumption) hn) (by assumption)⟩)
       have hll : i + 1 + (r.len - i) = ((r.l.take i ++ [k]) ++ r.l.drop i).length := by simp only [List.length_append, List.length_take, List.length_drop, List.length_singleton]; omega
       have hlx : ((r.l).drop 0).take (i) ++ ([k]) ++ (((r.l).drop i).take (r.len - i)) = (r.l.take i ++ [k]) ++ r.l.drop i := by
         simp only [List.drop_zero]
         congr 1
         rw [List.take_of_length_le (by rw [List.length_drop]; omega)]
       rw [hlx, hll] at H
       rw [hll]
       exact ⟨_, _, _, ⟨hn1, hn2, by simp only [List.length_append, List.length_take, List.length_drop, List.length_singleton]; omega⟩, rfl, H.sub (.cons _ (.cons_cons _ (List.nil_sublist _)))⟩
      ·
       refine (o_bslG1 (enc := idE) (k) H sl23 zc29 (by rfl) (by decide) (by decide) rfl (idE_len _) (fun b19 w H hb19 => ?_))
       replace H : Hp _ w _ ([_, _, .own (some b19) 1 1 (([k]).flatMap idE) 29 32]) := H
       refine ⟨H.sub (.cons_cons _ (List.nil_sublist _)), ?_⟩
       replace HS := H.sub (.cons_cons _ (List.nil_sublist _))
       refine t_step 4 rfl (by kernel_rfl) (o_appG (enc := idE) (s := (Gl.cut r 32 0 i r.cap)) (l' := ((r.l).drop 0).take (i)) (len' := i) rfl (Nat.zero_add _) H (i := 1) rfl sl23 Try.underlying23 rfl rfl ((hr.up H).cut (l := 0) (h := i) (m := r.cap) (by omega) (by (try simp only [Sl.cut]); omega) (by omega) (by (try simp only [Sl.cut]); omega)) (by decide) (fun c _ => idE_all c) (by omega) (by decide) (fun a20 c21 w H => ?_))
       replace H : Hp _ w _ ([_, .own a20 i c21 ((((r.l).drop 0).take (i)).flatMap idE) 29 32, _]) := H
       refine ⟨H.sub (.cons_cons _ (List.nil_sublist _)), ?_⟩
       replace HS := H.sub (.cons_cons _ (List.nil_sublist _))
       refine t_step 7 rfl (by kernel_rfl) (o_appG (enc := idE) (s := ⟨hd (some b19), 1, 1, [k]⟩) (l' := ((r.l).drop 0).take (i) ++ ([k])) (len' := i + 1) rfl rfl H (i := 1) rfl sl23 Try.underlying23 rfl rfl (H.glOwn (i := 2) rfl (by decide) (fun c _ => idE_len c)) (by decide) (fun c _ => idE_all c) (by omega) (by decide) (fun a22 c23 w H => ?_))
       replace H : Hp _ w _ ([_, .own a22 (i + 1) c23 ((((r.l).drop 0).take (i) ++ ([k])).flatMap idE) 29 32, _]) := H
       refine ⟨H.sub (.cons_cons _ (List.nil_sublist _)), ?_⟩
       replace HS := H.sub (.cons_cons _ (List.nil_sublist _))
       refine t_step 11 rfl (by kernel_rfl) (o_appG (enc := idE) (s := (Gl.cut r 32 i r.len r.cap)) (l' := ((r.l).drop 0).take (i) ++ ([k]) ++ (((r.l).drop i).take (r.len - i))) (len' := i + 1 + (r.len - i)) rfl rfl H (i := 1) rfl sl23 Try.underlying23 rfl rfl ((hr.up H).cut (l := i) (h := r.len) (m := r.cap) (by omega) (by (try simp only [Sl.cut]); omega) (by omega) (by (try simp only [Sl.cut]); omega)) (by decide) (fun c _ => idE_all c) (by omega) (by decide) (fun a24 c25 w H => ?_))
       replace H : Hp _ w _ ([_, .own a24 (i + 1 + (r.len - i)) c25 ((((r.l).drop 0).take (i) ++ ([k]) ++ (((r.l).drop i).take (r.len - i))).flatMap idE) 29 32, _]) := H
       refine ⟨H.sub (.cons_cons _ (List.nil_sublist _)), ?_⟩
       replace HS := H.sub (.cons_cons _ (List.nil_sublist _))
       refine t_take 12 rfl (by kernel_rfl) (by kernel_rfl) (by kernel_rfl) (fun _ _ _ h => h) (fun w HS => r_as) HS ?_
       refine t_done (by kernel_rfl) ?_
       clear HS
       refine c_ret ?_
       try dsimp only [Exit.then, Exit.inBlock]
       refine e_ret1 (v := .slice (hd a24) (i + 1 + (r.len - i)) c25) Try.results29 rfl ?_
       refine ⟨_, rfl, ?_⟩
       obtain ⟨_, hn1, hn2⟩ := with_new hris hb (.inr ⟨e6, he7, Decidable.byContradiction fun hn => absurd (lt_tot (by assumption) hn) (by assumption)⟩)
       have hll : i + 1 + (r.len - i) = ((r.l.take i ++ [k]) ++ r.l.drop i).length := by simp only [List.length_append, List.length_take, List.length_drop, List.length_singleton]; omega
       have hlx : ((r.l).drop 0).take (i) ++ ([k]) ++ (((r.l).drop i).take (r.len - i)) = (r.l.take i ++ [k]) ++ r.l.drop i := by
         simp only [List.drop_zero]
         congr 1
         rw [List.take_of_length_le (by rw [List.length_drop]; omega)]
       rw [hlx, hll] at H
       rw [hll]
       exact ⟨_, _, _, ⟨hn1, hn2, by simp only [List.length_append, List.length_take, List.length_drop, List.length_singleton]; omega⟩, rfl, H.sub (.cons _ (.cons_cons _ (List.nil_sublist _)))⟩
     ·
      refine (o_bslG1 (enc := idE) (k) H sl23 zc29 (by rfl) (by decide) (by decide) rfl (idE_len _) (fun b26 w H hb26 => ?_))
      replace H : Hp _ w _ ([_, .own (some b26) 1 1 (([k]).flatMap idE) 29 32]) := H
      refine ⟨H.sub (.cons_cons _ (List.nil_sublist _)), ?_⟩
      replace HS := H.sub (.cons_cons _ (List.nil_sublist _))
      refine t_step 0 rfl (by kernel_rfl) (o_bslG0 (α := Id32) (enc := idE) H sl23 zc29 (by decide) (fun b27 w H hb27 => ?_))
      replace H : Hp _ w _ ([_, _, .own (some b27) 0 0 ((([] : List Id32)).flatMap idE) 29 32]) := H
      refine ⟨H.sub (.cons_cons _ (List.nil_sublist _)), ?_⟩
      replace HS := H.sub (.cons_cons _ (List.nil_sublist _))
      refine t_step 4 rfl (by kernel_rfl) (o_appG (enc := idE) (s := (Gl.cut r 32 0 i r.cap)) (l' := ((r.l).drop 0).take (i)) (len' := i) rfl (Nat.zero_add _) H (i := 2) rfl sl23 Try.underlying23 rfl rfl ((hr.up H).cut (l := 0) (h := i) (m := r.cap) (by omega) (by (try simp only [Sl.cut]); omega) (by omega) (by (try simp only [Sl.cut]); omega)) (by decide) (fun c _ => idE_all c) (by omega) (by decide) (fun a28 c29 w H => ?_))
      replace H : Hp _ w _ ([_, _, .own a28 i c29 ((((r.l).drop 0).take (i)).flatMap idE) 29 32]) := H
      refine ⟨H.sub (.cons_cons _ (List.nil_sublist _)), ?_⟩
      replace HS := H.sub (.cons_cons _ (List.nil_sublist _))
      refine t_step 7 rfl (by kernel_rfl) (o_appG (enc := idE) (s := ⟨hd (some b26), 1, 1, [k]⟩) (l' := ((r.l).drop 0).take (i) ++ ([k])) (len' := i + 1) rfl rfl H (i := 2) rfl sl23 Try.underlying23 rfl rfl (H.glOwn (i := 1) rfl (by decide) (fun c _ => idE_len c)) (by decide) (fun c _ => idE_all c) (by omega) (by decide) (fun a30 c31 w H => ?_))
      replace H : Hp _ w _ ([_, _, .own a30 (i + 1) c31 ((((r.l).drop 0).take (i) ++ ([k])).flatMap idE) 29 32]) := H
      refine ⟨H.sub (.cons_cons _ (List.nil_sublist _)), ?_⟩
      replace HS := H.sub (.cons_cons _ (List.nil_sublist _))
      refine t_step 11 rfl (by kernel_rfl) (o_appG (enc := idE) (s := (Gl.cut r 32 i r.len r.cap)) (l' := ((r.l).drop 0).take (i) ++ ([k]) ++ (((r.l).drop i).take (r.len - i))) (len' := i + 1 + (r.len - i)) rfl rfl H (i := 2) rfl sl23 Try.underlying23 rfl rfl ((hr.up H).cut (l := i) (h := r.len) (m := r.cap) (by omega) (by (try simp only [Sl.cut]); omega) (by omega) (by (try simp only [Sl.cut]); omega)) (by decide) (fun c _ => idE_all c) (by omega) (by decide) (fun a32 c33 w H => ?_))
      replace H : Hp _ w _ ([_, _, .own a32 (i + 1 + (r.len - i)) c33 ((((r.l).drop 0).take (i) ++ ([k]) ++ (((r.l).drop i).take (r.len - i))).flatMap idE) 29 32]) := H
      refine ⟨H.sub (.cons_cons _ (List.nil_sublist _)), ?_⟩
      replace HS := H.sub (.cons_cons _ (List.nil_sublist _))
      refine t_take 12 rfl (by kernel_rfl) (by kernel_rfl) (by kernel_rfl) (fun _ _ _ h => h) (fun w HS => r_as) HS ?_
      refine t_done (by kernel_rfl) ?_
      clear HS
      refine c_ret ?_
      try dsimp only [Exit.then, Exit.inBlock]
      refine e_ret1 (v := .slice (hd a32) (i + 1 + (r.len - i)) c33) Try.results29 rfl ?_
      refine ⟨_, rfl, ?_⟩
      obtain ⟨_, hn1, hn2⟩ := with_new hris hb (.inr ⟨e6, he7, Decidable.byContradiction fun hn => absurd (lt_tot (by assumption) hn) (by assumption)⟩)
      have hll : i + 1 + (r.len - i) = ((r.l.take i ++ [k]) ++ r.l.drop i).length := by simp only [List.length_append, List.length_take, List.length_drop, List.length_singleton]; omega
      have hlx : ((r.l).drop 0).take (i) ++ ([k]) ++ (((r.l).drop i).take (r.len - i)) = (r.l.take i ++ [k]) ++ r.l.drop i := by
        simp only [List.drop_zero]
        congr 1
        rw [List.take_of_length_le (by rw [List.length_drop]; omega)]
      rw [hlx, hll] at H
      rw [hll]
      exact ⟨_, _, _, ⟨hn1, hn2, by simp only [List.length_append, List.length_take, List.length_drop, List.length_singleton]; omega⟩, rfl, H.sub (.cons _ (.cons _ (.cons_cons _ (List.nil_sublist _))))⟩
  ·
   refine t_no 5 rfl (by kernel_rfl) (by kernel_rfl) (by kernel_rfl) (fun _ _ _ h => h) (yielded_mk _ _ _ rfl _ rfl (by exact congrArg Value.bool (decide_eq_false hc2))) rfl HS ?_
   refine t_no 6 rfl (by kernel_rfl) (by kernel_rfl) (by kernel_rfl) (fun _ _ _ h => h) (yielded_mk _ _ _ rfl _ rfl (by exact congrArg Value.bool (decide_eq_false hc2))) rfl HS ?_
   refine t_no 7 rfl (by kernel_rfl) (by kernel_rfl) (by kernel_rfl) (fun _ _ _ h => h) (yielded_mk _ _ _ rfl _ rfl (by exact congrArg Value.bool (decide_eq_false hc2))) rfl HS ?_
   refine t_no 8 rfl (by kernel_rfl) (by kernel_rfl) (by kernel_rfl) (fun _ _ _ h => h) (yielded_mk _ _ _ rfl _ rfl (by exact congrArg Value.bool (decide_eq_false hc2))) rfl HS ?_
   refine t_no 9 rfl (by kernel_rfl) (by kernel_rfl) (by kernel_rfl) (fun _ _ _ h => h) (yielded_mk _ _ _ rfl _ rfl (by exact congrArg Value.bool (decide_eq_false hc2))) rfl HS ?_
   refine t_no 10 rfl (by kernel_rfl) (by kernel_rfl) (by kernel_rfl) (fun _ _ _ h => h) (yielded_mk _ _ _ rfl _ rfl (by exact congrArg Value.bool (decide_eq_false hc2))) rfl HS ?_
   refine t_take 11 rfl (by kernel_rfl) (by kernel_rfl) (by kernel_rfl) (fun _ _ _ h => h) (fun w HS => r_pick (b := false) (congrArg Value.bool (decide_eq_false hc2))) HS ?_
   refine t_done (by kernel_rfl) ?_
   clear HS
   repeat refine c_seq ?_
   refine c_no rfl ?_
   refine c_exit ?_
   repeat refine c_seq ?_
   refine c_still mixed (by kernel_rfl) ?_
   replace H := H.drew
   refine s_op (r_mv) ?_
   refine s_op (r_mv) ?_
   refine s_op (r_lens el23 rfl) ?_
   refine s_op (r_bin (a := (i : Int)) (b := (r.len : Int)) rfl rfl (fun _ => b_lss)) ?_
   refine s_op (r_mv) ?_
   refine s_no rfl rfl (by exact congrArg Value.bool (decide_eq_false hc2)) rfl ?_
   refine s_no rfl rfl (by exact congrArg Value.bool (decide_eq_false hc2)) rfl ?_
   refine s_no rfl rfl (by exact congrArg Value.bool (decide_eq_false hc2)) rfl ?_
   refine s_no rfl rfl (by exact congrArg Value.bool (decide_eq_false hc2)) rfl ?_
   refine s_no rfl rfl (by exact congrArg Value.bool (decide_eq_false hc2)) rfl ?_
   refine s_no rfl rfl (by exact congrArg Value.bool (decide_eq_false hc2)) rfl ?_
   refine s_op (r_pick (b := false) (congrArg Value.bool (decide_eq_false hc2))) ?_
   refine s_nil ?_
   repeat refine c_seq ?_
   refine c_no rfl ?_
   refine c_skip ?_
   repeat refine c_seq ?_
   refine wp_held (fun w => Hp w0 w [] [.blk b1 ((k.1).map V8) 29]) mixed ?_
   replace H := H.drew
   have HS := H
   refine t_take 1 rfl (by kernel_rfl) (by kernel_rfl) (by kernel_rfl) (fun _ _ _ h => h) (fun w HS => r_mv) HS ?_
   refine t_take 2 rfl (by kernel_rfl) (by kernel_rfl) (by kernel_rfl) (fun _ _ _ h => h) (fun w HS => r_mv) HS ?_
   refine t_take 3 rfl (by kernel_rfl) (by kernel_rfl) (by kernel_rfl) (fun _ _ _ h => h) (fun w HS => r_slG (s := r) 0 i r.cap (lv := none) (hv := some (VI (i : Int))) (mv := none) rfl el23 rfl rfl rfl (fun w => by exact sbh i (by omega) (by (try simp only [Sl.cut]); omega) w)) HS ?_
   refine t_take 5 rfl (by kernel_rfl) (by kernel_rfl) (by kernel_rfl) (fun _ _ _ h => h) (fun w HS => r_ldAA (l := k.1) HS (i := 0) rfl rfl rt29 (show (k.1).length = 32 from k.2)) HS ?_
   refine t_take 8 rfl (by kernel_rfl) (by kernel_rfl) (by kernel_rfl) (fun _ _ _ h => h) (fun w HS => r_mv) HS ?_
   refine t_take 9 rfl (by kernel_rfl) (by kernel_rfl) (by kernel_rfl) (fun _ _ _ h => h) (fun w HS => r_mv) HS ?_
   refine t_take 10 rfl (by kernel_rfl) (by kernel_rfl) (by kernel_rfl) (fun _ _ _ h => h) (fun w HS => r_slG (s := r) i r.len r.cap (lv := some (VI (i : Int))) (hv := none) (mv := none) rfl el23 rfl rfl rfl (fun w => by exact sbl i (by omega) (by (try simp only [Sl.cut]); omega) w)) HS ?_
   refine t_all [0, 6] (by kernel_rfl) (by simp) (all_cons (w_op 0 rfl ?_) (all_cons (w_op 6 rfl ?_) (all_nil)))
   ·
    refine (o_bslG0 (α := Id32) (enc := idE) H sl23 zc29 (by decide) (fun b34 w H hb34 => ?_))
    replace H : Hp _ w _ ([_, .own (some b34) 0 0 ((([] : List Id32)).flatMap idE) 29 32]) := H
    refine ⟨H.sub (.cons_cons _ (List.nil_sublist _)), ?_⟩
    replace HS := H.sub (.cons_cons _ (List.nil_sublist _))
    refine t_all [4, 6] (by kernel_rfl) (by simp) (all_cons (w_op 4 rfl ?_) (all_cons (w_op 6 rfl ?_) (all_nil)))
    ·
     refine (o_appG (enc := idE) (s := (Gl.cut r 32 0 i r.cap)) (l' := ((r.l).drop 0).take (i)) (len' := i) rfl (Nat.zero_add _) H (i := 1) rfl sl23 Try.underlying23 rfl rfl ((hr.up H).cut (l := 0) (h := i) (m := r.cap) (by omega) (by (try simp only [Sl.cut]); omega) (by omega) (by (try simp only [Sl.cut]); omega)) (by decide) (fun c _ => idE_all c) (by omega) (by decide) (fun a35 c36 w H => ?_))
     replace H : Hp _ w _ ([_, .own a35 i c36 ((((r.l).drop 0).take (i)).flatMap idE) 29 32]) := H
     refine ⟨H.sub (.cons_cons _ (List.nil_sublist _)), ?_⟩
     replace HS := H.sub (.cons_cons _ (List.nil_sublist _))
     refine t_step 6 rfl (by kernel_rfl) (o_bslG1 (enc := idE) (k) H sl23 zc29 (by rfl) (by decide) (by decide) rfl (idE_len _) (fun b37 w H hb37 => ?_))
     replace H : Hp _ w _ ([_, _, .own (some b37) 1 1 (([k]).flatMap idE) 29 32]) := H
     refine ⟨H.sub (.cons_cons _ (List.nil_sublist _)), ?_⟩
     replace HS := H.sub (.cons_cons _ (List.nil_sublist _))
     refine t_step 7 rfl (by kernel_rfl) (o_appG (enc := idE) (s := ⟨hd (some b37), 1, 1, [k]⟩) (l' := ((r.l).drop 0).take (i) ++ ([k])) (len' := i + 1) rfl rfl H (i := 1) rfl sl23 Try.underlying23 rfl rfl (H.glOwn (i := 2) rfl (by decide) (fun c _ => idE_len c)) (by decide) (fun c _ => idE_all c) (by omega) (by decide) (fun a38 c39 w H => ?_))
     replace H : Hp _ w _ ([_, .own a38 (i + 1) c39 ((((r.l).drop 0).take (i) ++ ([k])).flatMap idE) 29 32, _]) := H
     refine ⟨H.sub (.cons_cons _ (List.nil_sublist _)), ?_⟩
     replace HS := H.sub (.cons_cons _ (List.nil_sublist _))
     refine t_step 11 rfl (by kernel_rfl) (o_appG (enc := idE) (s := (Gl.cut r 32 i r.len r.cap)) (l' := ((r.l).drop 0).take (i) ++ ([k]) ++ (((r.l).drop i).take (r.len - i))) (len' := i + 1 + (r.len - i)) rfl rfl H (i := 1) rfl sl23 Try.underlying23 rfl rfl ((hr.up H).cut (l := i) (h := r.len) (m := r.cap) (by omega) (by (try simp only [Sl.cut]); omega) (by omega) (by (try simp only [Sl.cut]); omega)) (by decide) (fun c _ => idE_all c) (by omega) (by decide) (fun a40 c41 w H => ?_))
     replace H : Hp _ w _ ([_, .own a40 (i + 1 + (r.len - i)) c41 ((((r.l).drop 0).take (i) ++ ([k]) ++ (((r.l).drop i).take (r.len - i))).flatMap idE) 29 32, _]) := H
     refine ⟨H.sub (.cons_cons _ (List.nil_sublist _)), ?_⟩
     replace HS := H.sub (.cons_cons _ (List.nil_sublist _))
     refine t_take 12 rfl (by kernel_rfl) (by kernel_rfl) (by kernel_rfl) (fun _ _ _ h => h) (fun w HS => r_as) HS ?_
     refine t_done (by kernel_rfl) ?_
     clear HS
     refine c_ret ?_
     try dsimp only [Exit.then, Exit.inBlock]
     refine e_ret1 (v := .slice (hd a40) (i + 1 + (r.len - i)) c41) Try.results29 rfl ?_
     refine ⟨_, rfl, ?_⟩
     obtain ⟨_, hn1, hn2⟩ := with_new hris hb (.inl (by omega))
     have hll : i + 1 + (r.len - i) = ((r.l.take i ++ [k]) ++ r.l.drop i).length := by simp only [List.length_append, List.length_take, List.length_drop, List.length_singleton]; omega
     have hlx : ((r.l).drop 0).take (i) ++ ([k]) ++ (((r.l).drop i).take (r.len - i)) = (r.l.take i ++ [k]) ++ r.l.drop i := by
       simp only [List.drop_zero]
       congr 1
       rw [List.take_of_length_le (by rw [List.length_drop]; omega)]
     rw [hlx, hll] at H
     rw [hll]
     exact ⟨_, _, _, ⟨hn1, hn2, by simp only [List.length_append, List.length_take, List.length_drop, List.length_singleton]; omega⟩, rfl, H.sub (.cons _ (.cons_cons _ (List.nil_sublist _)))⟩
    ·
     refine (o_bslG1 (enc := idE) (k) H sl23 zc29 (by rfl) (by decide) (by decide) rfl (idE_len _) (fun b42 w H hb42 => ?_))
     replace H : Hp _ w _ ([_, _, .own (some b42) 1 1 (([k]).flatMap idE) 29 32]) := H
     refine ⟨H.sub (.cons_cons _ (List.nil_sublist _)), ?_⟩
     replace HS := H.sub (.cons_cons _ (List.nil_sublist _))
     refine t_step 4 rfl (by kernel_rfl) (o_appG (enc := idE) (s := (Gl.cut r 32 0 i r.cap)) (l' := ((r.l).drop 0).take (i)) (len' := i) rfl (Nat.zero_add _) H (i := 1) rfl sl23 Try.underlying23 rfl rfl ((hr.up H).cut (l := 0) (h := i) (m := r.cap) (by omega) (by (try simp only [Sl.cut]); omega) (by omega) (by (try simp only [Sl.cut]); omega)) (by decide) (fun c _ => idE_all c) (by omega) (by decide) (fun a43 c44 w H => ?_))
     replace H : Hp _ w _ ([_, .own a43 i c44 ((((r.l).drop 0).take (i)).flatMap idE) 29 32, _]) := H
     refine ⟨H.sub (.cons_cons _ (List.nil_sublist _)), ?_⟩
     replace HS := H.sub (.cons_cons _ (List.nil_sublist _))
     refine t_step 7 rfl (by kernel_rfl) (o_appG (enc := idE) (s := ⟨hd (some b42), 1, 1, [k]⟩) (l' := ((r.l).drop 0).take (i) ++ ([k])) (len' := i + 1) rfl rfl H (i := 1) rfl sl23 Try.underlying23 rfl rfl (H.glOwn (i := 2) rfl (by decide) (fun c _ => idE_len c)) (by decide) (fun c _ => idE_all c) (by omega) (by decide) (fun a45 c46 w H => ?_))
     replace H : Hp _ w _ ([_, .own a45 (i + 1) c46 ((((r.l).drop 0).take (i) ++ ([k])).flatMap idE) 29 32, _]) := H
     refine ⟨H.sub (.cons_cons _ (List.nil_sublist _)), ?_⟩
     replace HS := H.sub (.cons_cons _ (List.nil_sublist _))
     refine t_step 11 rfl (by kernel_rfl) (o_appG (enc := idE) (s := (Gl.cut r 32 i r.len r.cap)) (l' := ((r.l).drop 0).take (i) ++ ([k]) ++ (((r.l).drop i).take (r.len - i))) (len' := i + 1 + (r.len - i)) rfl rfl H (i := 1) rfl sl23 Try.underlying23 rfl rfl ((hr.up H).cut (l := i) (h := r.len) (m := r.cap) (by omega) (by (try simp only [Sl.cut]); omega) (by omega) (by (try simp only [Sl.cut]); omega)) (by decide) (fun c _ => idE_all c) (by omega) (by decide) (fun a47 c48 w H => ?_))
     replace H : Hp _ w _ ([_, .own a47 (i + 1 + (r.len - i)) c48 ((((r.l).drop 0).take (i) ++ ([k]) ++ (((r.l).drop i).take (r.len - i))).flatMap idE) 29 32, _]) := H
     refine ⟨H.sub (.cons_cons _ (List.nil_sublist _)), ?_⟩
     replace HS := H.sub (.cons_cons _ (List.nil_sublist _))
     refine t_take 12 rfl (by kernel_rfl) (by kernel_rfl) (by kernel_rfl) (fun _ _ _ h => h) (fun w HS => r_as) HS ?_
     refine t_done (by kernel_rfl) ?_
     clear HS
     refine c_ret ?_
     try dsimp only [Exit.then, Exit.inBlock]
     refine e_ret1 (v := .slice (hd a47) (i + 1 + (r.len - i)) c48) Try.results29 rfl ?_
     refine ⟨_, rfl, ?_⟩
     obtain ⟨_, hn1, hn2⟩ := with_new hris hb (.inl (by omega))
     have hll : i + 1 + (r.len - i) = ((r.l.take i ++ [k]) ++ r.l.drop i).length := by simp only [List.length_append, List.length_take, List.length_drop, List.length_singleton]; omega
     have hlx : ((r.l).drop 0).take (i) ++ ([k]) ++ (((r.l).drop i).take (r.len - i)) = (r.l.take i ++ [k]) ++ r.l.drop i := by
       simp only [List.drop_zero]
       congr 1
       rw [List.take_of_length_le (by rw [List.length_drop]; omega)]
     rw [hlx, hll] at H
     rw [hll]
     exact ⟨_, _, _, ⟨hn1, hn2, by simp only [List.length_append, List.length_take, List.length_drop, List.length_singleton]; omega⟩, rfl, H.sub (.cons _ (.cons_cons _ (List.nil_sublist _)))⟩
   ·
    refine (o_bslG1 (enc := idE) (k) H sl23 zc29 (by rfl) (by decide) (by decide) rfl (idE_len _) (fun b49 w H hb49 => ?_))
    replace H : Hp _ w _ ([_, .own (some b49) 1 1 (([k]).flatMap idE) 29 32]) := H
    refine ⟨H.sub (.cons_cons _ (List.nil_sublist _)), ?_⟩
    replace HS := H.sub (.cons_cons _ (List.nil_sublist _))
    refine t_step 0 rfl (by kernel_rfl) (o_bslG0 (α := Id32) (enc := idE) H sl23 zc29 (by decide) (fun b50 w H hb50 => ?_))
    replace H : Hp _ w _ ([_, _, .own (some b50) 0 0 ((([] : List Id32)).flatMap idE) 29 32]) := H
    refine ⟨H.sub (.cons_cons _ (List.nil_sublist _)), ?_⟩
    replace HS := H.sub (.cons_cons _ (List.nil_sublist _))
    refine t_step 4 rfl (by kernel_rfl) (o_appG (enc := idE) (s := (Gl.cut r 32 0 i r.cap)) (l' := ((r.l).drop 0).take (i)) (len' := i) rfl (Nat.zero_add _) H (i := 2) rfl sl23 Try.underlying23 rfl rfl ((hr.up H).cut (l := 0) (h := i) (m := r.cap) (by omega) (by (try simp only [Sl.cut]); omega) (by omega) (by (try simp only [Sl.cut]); omega)) (by decide) (fun c _ => idE_all c) (by omega) (by decide) (fun a51 c52 w H => ?_))
    replace H : Hp _ w _ ([_, _, .own a51 i c52 ((((r.l).drop 0).take (i)).flatMap idE) 29 32]) := H
    refine ⟨H.sub (.cons_cons _ (List.nil_sublist _)), ?_⟩
    replace HS := H.sub (.cons_cons _ (List.nil_sublist _))
    refine t_step 7 rfl (by kernel_rfl) (o_appG (enc := idE) (s := ⟨hd (some b49), 1, 1, [k]⟩) (l' := ((r.l).drop 0).take (i) ++ ([k])) (len' := i + 1) rfl rfl H (i := 2) rfl sl23 Try.underlying23 rfl rfl (H.glOwn (i := 1) rfl (by decide) (fun c _ => idE_len c)) (by decide) (fun c _ => idE_all c) (by omega) (by decide) (fun a53 c54 w H => ?_))
    replace H : Hp _ w _ ([_, _, .own a53 (i + 1) c54 ((((r.l).drop 0).take (i) ++ ([k])).flatMap idE) 29 32]) := H
    refine ⟨H.sub (.cons_cons _ (List.nil_sublist _)), ?_⟩
    replace HS := H.sub (.cons_cons _ (List.nil_sublist _))
    refine t_step 11 rfl (by kernel_rfl) (o_appG (enc := idE) (s := (Gl.cut r 32 i r.len r.cap)) (l' := ((r.l).drop 0).take (i) ++ ([k]) ++ (((r.l).drop i).take (r.len - i))) (len' := i + 1 + (r.len - i)) rfl rfl H (i := 2) rfl sl23 Try.underlying23 rfl rfl ((hr.up H).cut (l := i) (h := r.len) (m := r.cap) (by omega) (by (try simp only [Sl.cut]); omega) (by omega) (by (try simp only [Sl.cut]); omega)) (by decide) (fun c _ => idE_all c) (by omega) (by decide) (fun a55 c56 w H => ?_))
    replace H : Hp _ w _ ([_, _, .own a55 (i + 1 + (r.len - i)) c56 ((((r.l).drop 0).take (i) ++ ([k]) ++ (((r.l).drop i).take (r.len - i))).flatMap idE) 29 32]) := H
    refine ⟨H.sub (.cons_cons _ (List.nil_sublist _)), ?_⟩
    replace HS := H.sub (.cons_cons _ (List.nil_sublist _))
    refine t_take 12 rfl (by kernel_rfl) (by kernel_rfl) (by kernel_rfl) (fun _ _ _ h => h) (fun w HS => r_as) HS ?_
    refine t_done (by kernel_rfl) ?_
    clear HS
    refine c_ret ?_
    try dsimp only [Exit.then, Exit.inBlock]
    refine e_ret1 (v := .slice (hd a55) (i + 1 + (r.len - i)) c56) Try.results29 rfl ?_
    refine ⟨_, rfl, ?_⟩
    obtain ⟨_, hn1, hn2⟩ := with_new hris hb (.inl (by omega))
    have hll : i + 1 + (r.len - i) = ((r.l.take i ++ [k]) ++ r.l.drop i).length := by simp only [List.length_append, List.length_take, List.length_drop, List.length_singleton]; omega
    have hlx : ((r.l).drop 0).take (i) ++ ([k]) ++ (((r.l).drop i).take (r.len - i)) = (r.l.take i ++ [k]) ++ r.l.drop i := by
      simp only [List.drop_zero]
      congr 1
      rw [List.take_of_length_le (by rw [List.length_drop]; omega)]
    rw [hlx, hll] at H
    rw [hll]
    exact ⟨_, _, _, ⟨hn1, hn2, by simp only [List.length_append, List.length_take, List.length_drop, List.length_singleton]; omega⟩, rfl, H.sub (.cons _ (.cons _ (.cons_cons _ (List.nil_sublist _))))⟩
end Go.Proofs.Ytomjbabllcmodaa
namespace Go.Proofs.Ytomjbabllcmodaa
open Go
set_option maxRecDepth 100000
def OutM (l : List Ob) (h : List Bool) (i : Nat) (R : List Id32) : Prop := RisA R ∧ (∀ x, x ∈ R ↔ ∃ j : Nat, j < i ∧ ∃ o : Ob, h[j]? = some true ∧ l[j]? = some o ∧ o.of = x) ∧ R.length ≤ i
theorem OutM.start {l : List Ob} {h : List Bool} : OutM l h 0 [] := ⟨List.Pairwise.nil, fun x => ⟨fun hx => (by cases hx), fun ⟨j, hj, _⟩ => by omega⟩, Nat.le_refl _⟩
theorem OutM.skip {l : List Ob} {h : List Bool} {i : Nat} {R : List Id32} (H : OutM l h i R) (hi : h[i]? ≠ some true ∨ ∃ o : Ob, l[i]? = some o ∧ o.of ∈ R) : OutM l h (i + 1) R := by
  refine ⟨H.1, fun x => ?_, by have := H.2.2; omega⟩
  rw [H.2.1]
  constructor
  · rintro ⟨j, h1, h2⟩; exact ⟨j, by omega, h2⟩
  · rintro ⟨j, h1, o, h2, h3, h4⟩
    by_cases e : j = i
    · subst e
      rcases hi with hi | ⟨o', h5, h6⟩
      · exact absurd h2 hi
      · rw [h3] at h5; cases h5
        rw [H.2.1, h4] at h6; exact h6
    · exact ⟨j, by omega, o, h2, h3, h4⟩
theorem OutM.put {l : List Ob} {h : List Bool} {i : Nat} {R R' : List Id32} {o : Ob} (H : OutM l h i R) (hi : h[i]? = some true) (ho : l[i]? = some o) (hr : RisA R' ∧ (∀ x, x ∈ R' ↔ x = o.of ∨ x ∈ R) ∧ R'.length = R.length + 1) : OutM l h (i + 1) R' := by
  refine ⟨hr.1, fun x => ?_, by have := H.2.2; omega⟩
  rw [hr.2.1, H.2.1]
  constructor
  · rintro (rfl | ⟨j, h1, h2⟩)
    · exact ⟨i, by omega, o, hi, ho, rfl⟩
    · exact ⟨j, by omega, h2⟩
  · rintro ⟨j, h1, o', h2, h3, h4⟩
    by_cases e : j = i
    · subst e; rw [ho] at h3; cases h3; exact .inl h4.symm
    · exact .inr ⟨j, by omega, o', h2, h3, h4⟩
theorem outM_mark {l : List Ob} {roots R : List Id32} {h d : List Bool} (H : RI l roots roots h d prAll) (hd : ∀ i : Nat, h[i]? = some true → d[i]? = some true) (hR : OutM l h l.length R) : IsMark l roots R := by
  refine ⟨hR.1, fun k => ?_⟩
  rw [hR.2.1, ← H.done hd]
  constructor
  · rintro ⟨j, _, o, h1, h2, h3⟩
    obtain ⟨o', g1, g2, _⟩ := H.sound j h1
    rw [h2] at g1; cases g1
    exact ⟨j, o, h1, h2, h3, by rw [← h3]; exact g2⟩
  · rintro ⟨j, o, h1, h2, h3, _⟩
    exact ⟨j, (List.getElem?_eq_some_iff.1 h2).1, o, h1, h2, h3⟩
theorem mark_len {l : List Ob} {roots R : List Id32} (h : IsMark l roots R) : R.length ≤ l.length := by
  have h1 := nd_le (m := l.map (·.of)) (h.1.imp fun {x y} hxy e => by rw [e] at hxy; exact lt_irr _ hxy : R.Nodup) (fun x hx => by
    have h2 := ((h.2 x).1 hx).there
    rw [lookS_isSome] at h2
    obtain ⟨s, hs'⟩ := Option.isSome_iff_exists.1 h2
    obtain ⟨o, ho, e, _⟩ := lookS_mem hs'
    exact List.mem_map.2 ⟨o, ho, e⟩)
  rwa [List.length_map] at h1
theorem lost_len {l : List Ob} {roots R : List Id32} (h : IsLost l roots R) : R.length ≤ l.length := by
  have h1 := nd_le (m := l.map (·.of)) (h.1.imp fun {x y} hxy e => by rw [e] at hxy; exact lt_irr _ hxy : R.Nodup) (fun x hx => by
    have h2 := ((h.2 x).1 hx).1
    obtain ⟨s, hs'⟩ := Option.isSome_iff_exists.1 h2
    obtain ⟨o, ho, e, _⟩ := lookS_mem hs'
    exact List.mem_map.2 ⟨o, ho, e⟩)
  rwa [List.length_map] at h1
def OutL (l : List Ob) (T : List Id32) (i : Nat) (R : List Id32) : Prop := RisA R ∧ (∀ x, x ∈ R ↔ x ∉ T ∧ ∃ o ∈ l.take i, o.of = x) ∧ R.length ≤ i
theorem outL_lost {l : List Ob} {roots T R : List Id32} (hm : IsMark l roots T) (hR : OutL l T l.length R) : IsLost l roots R := by
  refine ⟨hR.1, fun k => ?_⟩
  rw [hR.2.1, hm.2, List.take_length]
  constructor
  · rintro ⟨h1, o, h2, h3⟩; exact ⟨by rw [← h3]; exact lookS_of_mem h2, h1⟩
  · rintro ⟨h1, h2⟩
    obtain ⟨s, hs⟩ := Option.isSome_iff_exists.1 h1
    obtain ⟨o, ho, e, _⟩ := lookS_mem hs
    exact ⟨h2, o, ho, e⟩
theorem OutL.start {l : List Ob} {T : List Id32} : OutL l T 0 [] := ⟨List.Pairwise.nil, fun x => ⟨fun hx => (by cases hx), fun ⟨_, o, ho, _⟩ => by rw [List.take_zero] at ho; cases ho⟩, Nat.le_refl _⟩
theorem mem_snoc {l : List Ob} {i : Nat} {o : Ob} (ho : l[i]? = some o) {p : Ob → Prop} : (∃ x ∈ l.take (i + 1), p x) ↔ (∃ x ∈ l.take i, p x) ∨ p o := by
  rw [take_snocG ho]
  constructor
  · rintro ⟨x, h1, h2⟩
    rcases List.mem_append.1 h1 with h | h
    · exact .inl ⟨x, h, h2⟩
    · rw [List.mem_singleton.1 h] at h2; exact .inr h2
  · rintro (⟨x, h1, h2⟩ | h)
    · exact ⟨x, List.mem_append_left _ h1, h2⟩
    · exact ⟨o, by simp, h⟩
theorem OutL.skip {l : List Ob} {T : List Id32} {i : Nat} {R : List Id32} {o : Ob} (H : OutL l T i R) (ho : l[i]? = some o) (hi : o.of ∈ T ∨ o.of ∈ R) : OutL l T (i + 1) R := by
  refine ⟨H.1, fun x => ?_, by have := H.2.2; omega⟩
  rw [mem_snoc ho (p := fun o => o.of = x), H.2.1]
  constructor
  · rintro ⟨h1, h2⟩; exact ⟨h1, .inl h2⟩
  · rintro ⟨h1, h2 | h2⟩
    · exact ⟨h1, h2⟩
    · rcases hi with hi | hi
      · rw [h2] at hi; exact absurd hi h1
      · rw [h2, H.2.1] at hi; exact hi
theorem OutL.put {l : List Ob} {T : List Id32} {i : Nat} {R R' : List Id32} {o : Ob} (H : OutL l T i R) (ho : l[i]? = some o) (hi : o.of ∉ T) (hr : RisA R' ∧ (∀ x, x ∈ R' ↔ x = o.of ∨ x ∈ R) ∧ R'.length = R.length + 1) : OutL l T (i + 1) R' := by
  refine ⟨hr.1, fun x => ?_, by have := H.2.2; omega⟩
  rw [hr.2.1, mem_snoc ho (p := fun o => o.of = x), H.2.1]
  constructor
  · rintro (rfl | ⟨h1, h2⟩)
    · exact ⟨hi, .inr rfl⟩
    · exact ⟨h1, .inl h2⟩
  · rintro ⟨h1, h2 | h2⟩
    · exact .inr ⟨h1, h2⟩
    · exact .inl h2.symm
theorem mark18_ret (w0 : World) (g : Gl Ob) (hg : g.ok obE 33 w0) (ho : ∀ o ∈ g.l, o.data.ok w0 ∧ o.data.len ≤ 1048576) (hgm : g.len ≤ 65536) (r : Gl Id32) (hr : r.ok idE 32 w0) (hrm : r.len ≤ 65536) :
    Ret Try.prog 13 [g.v, r.v] w0 fun v w' => ∃ a k R, IsMark g.l r.l R ∧ v = .slice (hd a) R.length k ∧ Hp w0 w' [] [.own a R.length k (R.flatMap idE) 29 32] := by
  refine ret_mk Try.func13 rfl Try.ntmps13 (by simp) ?_
  have H := Hp.refl w0 []
  have hgl := hg.ln
  have hrl := hr.ln
  have hgc := hg.le
  repeat refine c_seq ?_
  refine c_region ?_
  refine l_op (o_val (r_as) ?_)
  first | refine l_end ?_ | refine l_nil ?_
  repeat refine c_seq ?_
  refine c_region ?_
  refine l_op (o_val (r_mv) ?_)
  refine l_op (o_val (r_lens el22 rfl) ?_)
  refine l_op (o_makeBo g.len H sl60 zc4 rfl rfl (by omega) (by omega) (by omega) (by omega) (fun b1 w H hb1 => ?_))
  replace H : Hp _ w _ ([.own (some b1) g.len g.len ((List.replicate g.len false).flatMap boE) 4 1]) := H
  refine l_op (o_val (r_as) ?_)
  first | refine l_end ?_ | refine l_nil ?_
  repeat refine c_seq ?_
  refine c_region ?_
  refine l_op (o_val (r_mv) ?_)
  refine l_op (o_val (r_lens el22 rfl) ?_)
  refine l_op (o_makeBo g.len H sl60 zc4 rfl rfl (by omega) (by omega) (by omega) (by omega) (fun b2 w H hb2 => ?_))
  replace H : Hp _ w _ ([_, .own (some b2) g.len g.len ((List.replicate g.len false).flatMap boE) 4 1]) := H
  refine l_op (o_val (r_as) ?_)
  first | refine l_end ?_ | refine l_nil ?_
  repeat refine c_seq ?_
  refine c_region ?_
  refine l_op (o_val (r_as) ?_)
  first | refine l_end ?_ | refine l_nil ?_
  repeat refine c_seq ?_
  refine c_block ?_
  repeat refine c_seq ?_
  refine c_loop2 (fun (i : Nat) (ht : List Bool) => [(0, g.v), (1, r.v), (5, .slice (hd (some b1)) g.len g.len), (6, .slice (hd (some b2)) g.len g.len), (7, VI (i : Int))])
    (fun (i : Nat) (ht : List Bool) w => (i ≤ r.len ∧ RI g.l r.l (r.l.take i) ht (List.replicate g.len false) prAll) ∧ Hp w0 w [] ([.own (some b1) g.len g.len ((ht).flatMap boE) 4 1, .own (some b2) g.len g.len ((List.replicate g.len false).flatMap boE) 4 1]))
    (fun (i : Nat) (ht : List Bool) => r.len - i) 0 (List.replicate g.len false) ⟨rfl, rfl, rfl, rfl, rfl, trivial⟩ ⟨⟨Nat.zero_le _, by rw [List.take_zero]; exact RI.start (by rw [hgl]) (by rw [hgl])⟩, H⟩ ?_
  clear H
  rintro i ht τ w ⟨⟨hir, hri⟩, H⟩
  have hhl := hri.hl
  repeat refine c_seq ?_
  refine c_region ?_
  refine l_op (o_val (r_mv) ?_)
  refine l_op (o_val (r_mv) ?_)
  refine l_op (o_val (r_lens el23 rfl) ?_)
  refine l_op (o_val (r_bin (a := (i : Int)) (b := (r.len : Int)) rfl rfl (fun _ => b_lss)) ?_)
  first | refine l_end ?_ | refine l_nil ?_
  by_cases hc3 : (i : Int) < (r.len : Int)
  ·
   repeat refine c_seq ?_
   refine c_yes (by exact congrArg Value.bool (decide_eq_true hc3)) ?_
   refine c_skip ?_
   repeat refine c_seq ?_
   refine c_block ?_
   repeat refine c_seq ?_
   refine c_region ?_
   refine l_op (o_val (r_mv) ?_)
   refine l_op (o_val (r_mv) ?_)
   refine l_op (o_val (r_mv) ?_)
   have ah6 := ((hr.up H)).addr (by decide) (by first | omega | (dsimp only; omega))
   obtain ⟨ab4, ao5, ah6⟩ := ah6
   refine l_op (o_val (r_isN i rfl rfl el23 ah6 (by omega) (by (try simp only [Sl.cut]); omega)) ?_)
   have he8 : ∃ c, r.l[i]? = some c := ⟨_, List.getElem?_eq_getElem (by have := ((hr.up H)).ln; (try dsimp only at this ⊢); omega)⟩
   obtain ⟨e7, he8⟩ := he8
   have hez9 := ((hr.up H)).sz e7 (List.mem_of_getElem? he8)
   refine l_op (o_val (r_ldRow (s := r) (k := i) (hr.up H) ah6 rfl rt29 (by decide) he8) ?_)
   refine l_op (o_callR Try.func16 rfl rfl rfl (find17_ret _ g (hg.up H) (by omega) e7) ?_)
   rintro _ w ⟨fi10, hfi11, rfl, Hc⟩
   replace H : Hp _ w _ ([_, _]) := H.call Hc
   clear Hc
   have hfi11l := FindR.lt hfi11
   refine l_op (o_val (r_as) ?_)
   first | refine l_end ?_ | refine l_nil ?_
   repeat refine c_seq ?_
   refine c_region ?_
   refine l_op (o_val (r_mv) ?_)
   refine l_op (o_val (r_bin (a := fi10) (b := 0) rfl rfl (fun _ => b_geq)) ?_)
   first | refine l_end ?_ | refine l_nil ?_
   by_cases hc12 : 0 ≤ fi10
   ·
    repeat refine c_seq ?_
    refine c_yes (by exact congrArg Value.bool (decide_eq_true hc12)) ?_
    repeat refine c_seq ?_
    refine c_region ?_
    refine l_op (o_val (r_mv) ?_)
    refine l_op (o_val (r_mv) ?_)
    have ah14 := H.ownAddr (i := 0) rfl (by omega)
    obtain ⟨ab13, ah14⟩ := ah14
    refine l_op (o_val (r_isN ((fi10).toNat) rfl rfl el60 ah14 (by omega) (by (try simp only [Sl.cut]); omega)) ?_)
    have he16 : ∃ c, (ht)[(fi10).toNat]? = some c := ⟨_, List.getElem?_eq_getElem (by have := ((H.glOwn (i := 0) rfl (by decide) (fun _ _ => rfl))).ln; (try dsimp only at this ⊢); omega)⟩
    obtain ⟨e15, he16⟩ := he16
    refine l_op (o_stGV (enc := boE) (off := 0) (V := ([.bool true] : List Value)) (k := (fi10).toNat) true H (i := 0) rfl (fun _ _ => rfl) rfl ah14 rfl (by rfl) cs4 (by rfl) (by simp [Value.oneCell']) he16 (show Cut3 (boE e15) [] (boE e15) [] 0 1 from ⟨rfl, rfl, rfl⟩) rfl (fun w H => ?_))
    replace H : Hp _ w _ ([.own (some b1) g.len g.len (((ht).set ((fi10).toNat) true).flatMap boE) 4 1, _]) := H
    first | refine l_end ?_ | refine l_nil ?_
    repeat refine c_seq ?_
    refine c_region ?_
    refine l_op (o_val (r_mv) ?_)
    refine l_op (o_val (r_bin (a := (i : Int)) (b := 1) rfl rfl (fun _ => b_add (by omega) (by omega))) ?_)
    refine l_op (o_val (r_as) ?_)
    first | refine l_end ?_ | refine l_nil ?_
    refine round_end (i + 1, (ht).set ((fi10).toNat) true) ?_ ?_ ?_
    · exact ⟨rfl, rfl, rfl, rfl, show VI ((i : Int) + 1) = VI ((i + 1 : Nat) : Int) from congrArg VI (by omega), trivial⟩
    · refine ⟨?_, ?_⟩
      · try dsimp only
        exact ⟨by omega, by rw [take_snocG he8]; exact hri.root_yes hfi11 (by omega) (List.mem_of_getElem? he8)⟩
      · exact H.sub (.cons_cons _ (.cons_cons _ (List.nil_sublist _)))
    · show r.len - (i + 1 : Nat) < r.len - i; omega
   ·
    repeat refine c_seq ?_
    refine c_no (by exact congrArg Value.bool (decide_eq_false hc12)) ?_
    refine c_skip ?_
    repeat refine c_seq ?_
    refine c_region ?_
    refine l_op (o_val (r_mv) ?_)
    refine l_op (o_val (r_bin (a := (i : Int)) (b := 1) rfl rfl (fun _ => b_add (by omega) (by omega))) ?_)
    refine l_op (o_val (r_as) ?_)
    first | refine l_end ?_ | refine l_nil ?_
    refine round_end (i + 1, ht) ?_ ?_ ?_
    · exact ⟨rfl, rfl, rfl, rfl, show VI ((i : Int) + 1) = VI ((i + 1 : Nat) : Int) from congrArg VI (by omega), trivial⟩
    · refine ⟨?_, ?_⟩
      · try dsimp only
        exact ⟨by omega, by rw [take_snocG he8]; exact hri.root_no hfi11 (by omega)⟩
      · exact H.sub (.cons_cons _ (.cons_cons _ (List.nil_sublist _)))
    · show r.len - (i + 1 : Nat) < r.len - i; omega
  ·
   repeat refine c_seq ?_
   refine c_no (by exact congrArg Value.bool (decide_eq_false hc3)) ?_
   refine c_exit ?_
   repeat refine c_seq ?_
   refine c_region ?_
   refine l_op (o_val (r_as) ?_)
   first | refine l_end ?_ | refine l_nil ?_
   repeat refine c_seq ?_
   refine c_block ?_
   repeat refine c_seq ?_
   refine c_loop3 (fun (hw : List Bool) (dw : List Bool) (ag : Bool) => [(0, g.v), (5, .slice (hd (some b1)) g.len g.len), (6, .slice (hd (some b2)) g.len g.len), (9, .bool ag)])
     (fun (hw : List Bool) (dw : List Bool) (ag : Bool) w => (RI g.l r.l r.l hw dw prAll ∧ (ag = false → ∀ j : Nat, hw[j]? = some true → dw[j]? = some true)) ∧ Hp w0 w [] ([.own (some b1) g.len g.len ((hw).flatMap boE) 4 1, .own (some b2) g.len g.len ((dw).flatMap boE) 4 1]))
     (fun (hw : List Bool) (dw : List Bool) (ag : Bool) => 2 * cf hw + (if ag = true then 1 else 0)) ht (List.replicate g.len false) true ⟨rfl, rfl, rfl, rfl, trivial⟩ ⟨⟨by rw [List.take_of_length_le (by omega)] at hri; exact hri, fun h => (by cases h)⟩, H⟩ ?_
   clear H
   rintro hw dw ag τ w ⟨⟨hri2, hag2⟩, H⟩
   have hhl2 := hri2.hl
   repeat refine c_seq ?_
   refine c_region ?_
   refine l_op (o_val (r_mv) ?_)
   first | refine l_end ?_ | refine l_nil ?_
   have hc180 := Bool.eq_false_or_eq_true (ag)
   rcases hc180 with hc18 | hc18
   ·
    repeat refine c_seq ?_
    refine c_yes (by exact congrArg Value.bool hc18) ?_
    refine c_skip ?_
    repeat refine c_seq ?_
    refine c_block ?_
    repeat refine c_seq ?_
    refine c_region ?_
    refine l_op (o_val (r_as) ?_)
    first | refine l_end ?_ | refine l_nil ?_
    repeat refine c_seq ?_
    refine c_region ?_
    refine l_op (o_val (r_as) ?_)
    first | refine l_end ?_ | refine l_nil ?_
    repeat refine c_seq ?_
    refine c_block ?_
    repeat refine c_seq ?_
    refine c_loop4 (fun (i : Nat) (hu : List Bool) (dv : List Bool) (aw : Bool) => [(0, g.v), (5, .slice (hd (some b1)) g.len g.len), (6, .slice (hd (some b2)) g.len g.len), (9, .bool aw), (10, VI (i : Int))])
      (fun (i : Nat) (hu : List Bool) (dv : List Bool) (aw : Bool) w => (i ≤ g.len ∧ RI g.l r.l r.l hu dv prAll ∧ cf hu ≤ cf hw ∧ (aw = true → cf hu < cf hw) ∧ (aw = false → ∀ j : Nat, j < i → hu[j]? = some true → dv[j]? = some true)) ∧ Hp w0 w [] ([.own (some b1) g.len g.len ((hu).flatMap boE) 4 1, .own (some b2) g.len g.len ((dv).flatMap boE) 4 1]))
      (fun (i : Nat) (hu : List Bool) (dv : List Bool) (aw : Bool) => g.len - i) 0 hw dw false ⟨rfl, rfl, rfl, rfl, rfl, trivial⟩ ⟨⟨Nat.zero_le _, hri2, Nat.le_refl _, fun h => (by cases h), fun _ j hj => absurd hj (by omega)⟩, H⟩ ?_
    clear H
    rintro i hu dv aw τ w ⟨⟨hil3, hri3, hle3, hlt3, hag3⟩, H⟩
    have hhl3 := hri3.hl
    have hdl3 := hri3.dl
    repeat refine c_seq ?_
    refine c_region ?_
    refine l_op (o_val (r_mv) ?_)
    refine l_op (o_val (r_mv) ?_)
    refine l_op (o_val (r_lens el22 rfl) ?_)
    refine l_op (o_val (r_bin (a := (i : Int)) (b := (g.len : Int)) rfl rfl (fun _ => b_lss)) ?_)
    first | refine l_end ?_ | refine l_nil ?_
    by_cases hc19 : (i : Int) < (g.len : Int)
    ·
     repeat refine c_seq ?_
     refine c_yes (by exact congrArg Value.bool (decide_eq_true hc19)) ?_
     refine c_skip ?_
     repeat refine c_seq ?_
     refine c_block ?_
     repeat refine c_seq ?_
     refine c_region ?_
     refine l_op (o_val (r_mv) ?_)
     refine l_op (o_val (r_mv) ?_)
     have ah21 := H.ownAddr (i := 0) rfl (by omega)
     obtain ⟨ab20, ah21⟩ := ah21
     refine l_op (o_val (r_isN i rfl rfl el60 ah21 (by omega) (by (try simp only [Sl.cut]); omega)) ?_)
     have he23 : ∃ c, (hu)[i]? = some c := ⟨_, List.getElem?_eq_getElem (by have := ((H.glOwn (i := 0) rfl (by decide) (fun _ _ => rfl))).ln; (try dsimp only at this ⊢); omega)⟩
     obtain ⟨e22, he23⟩ := he23
     have hez24 := ((H.glOwn (i := 0) rfl (by decide) (fun _ _ => rfl))).sz e22 (List.mem_of_getElem? he23)
     refine l_op (o_val (r_gc (v := .bool e22) (s := (⟨hd (some b1), g.len, g.len, hu⟩ : Gl Bool)) (j := i) (H.glOwn (i := 0) rfl (by decide) (fun _ _ => rfl)) ah21 rfl ct4 he23 rfl) ?_)
     refine l_op (o_val (r_not rfl) ?_)
     refine l_op (o_val (r_mv) ?_)
     have hc250 := Bool.eq_false_or_eq_true (e22)
     rcases hc250 with hc25 | hc25
     ·
      refine l_yes rfl rfl (by exact congrArg Value.bool (congrArg not hc25)) (o_val (r_mv) ?_)
      refine l_yes rfl rfl (by exact congrArg Value.bool (congrArg not hc25)) (o_val (r_mv) ?_)
      have ah27 := H.ownAddr (i := 1) rfl (by omega)
      obtain ⟨ab26, ah27⟩ := ah27
      refine l_yes rfl rfl (by exact congrArg Value.bool (congrArg not hc25)) (o_val (r_isN i rfl rfl el60 ah27 (by omega) (by (try simp only [Sl.cut]); omega)) ?_)
      have he29 : ∃ c, (dv)[i]? = some c := ⟨_, List.getElem?_eq_getElem (by have := ((H.glOwn (i := 1) rfl (by decide) (fun _ _ => rfl))).ln; (try dsimp only at this ⊢); omega)⟩
      obtain ⟨e28, he29⟩ := he29
      have hez30 := ((H.glOwn (i := 1) rfl (by decide) (fun _ _ => rfl))).sz e28 (List.mem_of_getElem? he29)
      refine l_yes rfl rfl (by exact congrArg Value.bool (congrArg not hc25)) (o_val (r_gc (v := .bool e28) (s := (⟨hd (some b2), g.len, g.len, dv⟩ : Gl Bool)) (j := i) (H.glOwn (i := 1) rfl (by decide) (fun _ _ => rfl)) ah27 rfl ct4 he29 rfl) ?_)
      refine l_op (o_val (r_pick (b := false) (congrArg Value.bool (congrArg not hc25))) ?_)
      first | refine l_end ?_ | refine l_nil ?_
      have hc310 := Bool.eq_false_or_eq_true (e28)
      rcases hc310 with hc31 | hc31
      ·
       repeat refine c_seq ?_
       refine c_yes (by exact congrArg Value.bool hc31) ?_
       refine c_exit ?_
       repeat refine c_seq ?_
       refine c_region ?_
       refine l_op (o_val (r_mv) ?_)
       refine l_op (o_val (r_bin (a := (i : Int)) (b := 1) rfl rfl (fun _ => b_add (by omega) (by omega))) ?_)
       refine l_op (o_val (r_as) ?_)
       first | refine l_end ?_ | refine l_nil ?_
       have hat : hu[i]? = some true → dv[i]? = some true := fun _ => by rw [he29, hc31]
       refine round_end (i + 1, hu, dv, aw) ?_ ?_ ?_
       · exact ⟨rfl, rfl, rfl, rfl, show VI ((i : Int) + 1) = VI ((i + 1 : Nat) : Int) from congrArg VI (by omega), trivial⟩
       · refine ⟨?_, ?_⟩
         · try dsimp only
           exact ⟨by omega, hri3, hle3, hlt3, fun h j hj => (Nat.lt_or_ge j i).elim (hag3 h j) (fun h2 => (show i = j by omega) ▸ hat)⟩
         · exact H.sub (.cons_cons _ (.cons_cons _ (List.nil_sublist _)))
       · show g.len - (i + 1 : Nat) < g.len - i; omega
      ·
       repeat refine c_seq ?_
       refine c_no (by exact congrArg Value.bool hc31) ?_
       refine c_skip ?_
       have hui : hu[i]? = some true := by rw [he23, hc25]
       have hdi : dv[i]? ≠ some true := by rw [he29, hc31]; decide
       have hdl : i < dv.length := by omega
       have hri5 := hri3.visit hui hdi
       repeat refine c_seq ?_
       refine c_region ?_
       refine l_op (o_val (r_mv) ?_)
       refine l_op (o_val (r_mv) ?_)
       refine l_op (o_val (r_isN i rfl rfl el60 ah27 (by omega) (by (try simp only [Sl.cut]); omega)) ?_)
       refine l_op (o_stGV (enc := boE) (off := 0) (V := ([.bool true] : List Value)) (k := i) true H (i := 1) rfl (fun _ _ => rfl) rfl ah27 rfl (by rfl) cs4 (by rfl) (by simp [Value.oneCell']) he29 (show Cut3 (boE e28) [] (boE e28) [] 0 1 from ⟨rfl, rfl, rfl⟩) rfl (fun w H => ?_))
       replace H : Hp _ w _ ([_, .own (some b2) g.len g.len (((dv).set i true).flatMap boE) 4 1]) := H
       first | refine l_end ?_ | refine l_nil ?_
       repeat refine c_seq ?_
       refine c_region ?_
       refine l_op (o_val (r_mv) ?_)
       refine l_op (o_val (r_mv) ?_)
       have ah34 := ((hg.up H)).addr (by decide) (by first | omega | (dsimp only; omega))
       obtain ⟨ab32, ao33, ah34⟩ := ah34
       refine l_op (o_val (r_isN i rfl rfl el22 ah34 (by omega) (by (try simp only [Sl.cut]); omega)) ?_)
       refine l_op (o_val (r_fa rfl fo34_1) ?_)
       have he36 : ∃ c, g.l[i]? = some c := ⟨_, List.getElem?_eq_getElem (by have := ((hg.up H)).ln; (try dsimp only at this ⊢); omega)⟩
       obtain ⟨e35, he36⟩ := he36
       have hez37 := ((hg.up H)).sz e35 (List.mem_of_getElem? he36)
       have hod_e35 := (ho e35 (List.mem_of_getElem? he36)).1
       have hodl_e35 := (ho e35 (List.mem_of_getElem? he36)).2
       refine l_op (o_val (r_g1 (v := e35.data.v) (s := g) (j := i) (hg.up H) ah34 rfl ct32 he36 (by decide) (show Cut3 (obE e35) ((e35.of.1).map V8) (([e35.data.v] : List Value)) (([] : List Value)) 32 1 from ⟨(show (e35.of.1).map V8 ++ (([e35.data.v] : List Value)) = ((e35.of.1).map V8) ++ ((([e35.data.v] : List Value)) ++ (([] : List Value))) from by simp only [List.cons_append, List.nil_append]), (by simp only [List.length_map, (show (e35.of.1).length = 32 from e35.of.2)]), (by rfl)⟩)) ?_)
       refine l_op (o_callR Try.func28 rfl rfl rfl (ftake15_ret _ e35.data (hod_e35.up H (fun _ => apart_nil _)) (by (try simp only [Sl.cut]); omega)) ?_)
       rintro _ w ⟨a38, c39, l40, e41, rfl, htk42, Hc⟩
       replace H : Hp _ w _ ([_, _, .own a38 l40.length c39 ((l40).flatMap itE) 54 35]) := H.call Hc
       clear Hc
       have htk42n := takeRes_len htk42
       refine l_op (o_val (r_mv) ?_)
       refine l_op (o_val (r_ext rfl rfl) ?_)
       refine l_op (o_val (r_ext rfl rfl) ?_)
       refine l_op (o_val (r_as) ?_)
       refine l_op (o_val (r_as) ?_)
       first | refine l_end ?_ | refine l_nil ?_
       have hitk := takeRes_tk htk42
       have hob := he36
       repeat refine c_seq ?_
       refine c_region ?_
       refine l_op (o_val (r_as) ?_)
       first | refine l_end ?_ | refine l_nil ?_
       repeat refine c_seq ?_
       refine c_block ?_
       repeat refine c_seq ?_
       refine c_loop3 (fun (j : Nat) (hx : List Bool) (ay : Bool) => [(0, g.v), (5, .slice (hd (some b1)) g.len g.len), (6, .slice (hd (some b2)) g.len g.len), (9, .bool ay), (10, VI (i : Int)), (11, .slice (hd a38) l40.length c39), (13, VI (j : Int))])
         (fun (j : Nat) (hx : List Bool) (ay : Bool) w => (j ≤ l40.length ∧ RI g.l r.l r.l hx (dv.set i true) (prAt i j) ∧ cf hx ≤ cf hw ∧ (ay = true → cf hx < cf hw) ∧ (ay = false → aw = false ∧ hx = hu)) ∧ Hp w0 w [] ([.own (some b1) g.len g.len ((hx).flatMap boE) 4 1, .own (some b2) g.len g.len (((dv).set i true).flatMap boE) 4 1, .own a38 l40.length c39 ((l40).flatMap itE) 54 35]))
         (fun (j : Nat) (hx : List Bool) (ay : Bool) => l40.length - j) 0 hu aw ⟨rfl, rfl, rfl, rfl, rfl, rfl, rfl, trivial⟩ ⟨⟨Nat.zero_le _, hri5, hle3, hlt3, fun h => ⟨h, rfl⟩⟩, H⟩ ?_
       clear H
       rintro j hx ay τ w ⟨⟨hj4, hri4, hle4, hlt4, hag4⟩, H⟩
       have hhl4 := hri4.hl
       repeat refine c_seq ?_
       refine c_region ?_
       refine l_op (o_val (r_mv) ?_)
       refine l_op (o_val (r_mv) ?_)
       refine l_op (o_val (r_lens el52 rfl) ?_)
       refine l_op (o_val (r_bin (a := (j : Int)) (b := (l40.length : Int)) rfl rfl (fun _ => b_lss)) ?_)
       first | refine l_end ?_ | refine l_nil ?_
       by_cases hc43 : (j : Int) < (l40.length : Int)
       ·
        repeat refine c_seq ?_
        refine c_yes (by exact congrArg Value.bool (decide_eq_true hc43)) ?_
        refine c_skip ?_
        repeat refine c_seq ?_
        refine c_block ?_
        repeat refine c_seq ?_
        refine c_region ?_
        refine l_op (o_val (r_mv) ?_)
        refine l_op (o_val (r_mv) ?_)
        refine l_op (o_val (r_mv) ?_)
        have ah45 := H.ownAddr (i := 2) rfl (by omega)
        obtain ⟨ab44, ah45⟩ := ah45
        refine l_op (o_val (r_isN j rfl rfl el52 ah45 (by omega) (by (try simp only [Sl.cut]); omega)) ?_)
        refine l_op (o_val (r_fa rfl fo54_2) ?_)
        have he47 : ∃ c, (l40)[j]? = some c := ⟨_, List.getElem?_eq_getElem (by have := ((H.glOwn (i := 2) rfl (by decide) (fun c _ => itE_len c))).ln; (try dsimp only at this ⊢); omega)⟩
        obtain ⟨e46, he47⟩ := he47
        have hez48 := ((H.glOwn (i := 2) rfl (by decide) (fun c _ => itE_len c))).sz e46 (List.mem_of_getElem? he47)
        refine l_op (o_val (r_gk (s := (⟨hd a38, l40.length, c39, l40⟩ : Gl It)) (j := j) (H.glOwn (i := 2) rfl (by decide) (fun c _ => itE_len c)) ah45 rfl rt29 (by decide) he47 (show Cut3 (itE e46) (([.string ⟨(e46.name).toArray⟩, VI e46.kind] : List Value)) ((e46.of.1).map V8) (([VI e46.size] : List Value)) 2 32 from ⟨(show ([.string ⟨(e46.name).toArray⟩, VI e46.kind] : List Value) ++ ((e46.of.1).map V8 ++ (([VI e46.size] : List Value))) = ([.string ⟨(e46.name).toArray⟩, VI e46.kind] : List Value) ++ (((e46.of.1).map V8) ++ (([VI e46.size] : List Value))) from by simp only [List.cons_append, List.nil_append]), (by rfl), (by simp only [List.length_map, (show (e46.of.1).length = 32 from e46.of.2)])⟩)) ?_)
        refine l_op (o_callR Try.func16 rfl rfl rfl (find17_ret _ g (hg.up H) (by omega) e46.of) ?_)
        rintro _ w ⟨fi49, hfi50, rfl, Hc⟩
        replace H : Hp _ w _ ([_, _, _]) := H.call Hc
        clear Hc
        have hfi50l := FindR.lt hfi50
        refine l_op (o_val (r_as) ?_)
        first | refine l_end ?_ | refine l_nil ?_
        repeat refine c_seq ?_
        refine c_region ?_
        refine l_op (o_val (r_mv) ?_)
        refine l_op (o_val (r_bin (a := fi49) (b := 0) rfl rfl (fun _ => b_geq)) ?_)
        refine l_op (o_val (r_mv) ?_)
        by_cases hc51 : 0 ≤ fi49
        ·
         refine l_yes rfl rfl (by exact congrArg Value.bool (decide_eq_true hc51)) (o_val (r_mv) ?_)
         refine l_yes rfl rfl (by exact congrArg Value.bool (decide_eq_true hc51)) (o_val (r_mv) ?_)
         refine l_yes rfl rfl (by exact congrArg Value.bool (decide_eq_true hc51)) (o_val (r_isN ((fi49).toNat) rfl rfl el60 ah21 (by omega) (by (try simp only [Sl.cut]); omega)) ?_)
         have he53 : ∃ c, (hx)[(fi49).toNat]? = some c := ⟨_, List.getElem?_eq_getElem (by have := ((H.glOwn (i := 0) rfl (by decide) (fun _ _ => rfl))).ln; (try dsimp only at this ⊢); omega)⟩
         obtain ⟨e52, he53⟩ := he53
         have hez54 := ((H.glOwn (i := 0) rfl (by decide) (fun _ _ => rfl))).sz e52 (List.mem_of_getElem? he53)
         refine l_yes rfl rfl (by exact congrArg Value.bool (decide_eq_true hc51)) (o_val (r_gc (v := .bool e52) (s := (⟨hd (some b1), g.len, g.len, hx⟩ : Gl Bool)) (j := (fi49).toNat) (H.glOwn (i := 0) rfl (by decide) (fun _ _ => rfl)) ah21 rfl ct4 he53 rfl) ?_)
         refine l_yes rfl rfl (by exact congrArg Value.bool (decide_eq_true hc51)) (o_val (r_not rfl) ?_)
         refine l_op (o_val (r_pick (b := true) (congrArg Value.bool (decide_eq_true hc51))) ?_)
         first | refine l_end ?_ | refine l_nil ?_
         have hc550 := Bool.eq_false_or_eq_true (e52)
         rcases hc550 with hc55 | hc55
         ·
          repeat refine c_seq ?_
          refine c_no (by exact congrArg Value.bool (congrArg not hc55)) ?_
          refine c_skip ?_
          repeat refine c_seq ?_
          refine c_region ?_
          refine l_op (o_val (r_mv) ?_)
          refine l_op (o_val (r_bin (a := (j : Int)) (b := 1) rfl rfl (fun _ => b_add (by omega) (by omega))) ?_)
          refine l_op (o_val (r_as) ?_)
          first | refine l_end ?_ | refine l_nil ?_
          have hit2 := he47
          rw [hitk] at hit2
          refine round_end (j + 1, hx, ay) ?_ ?_ ?_
          · exact ⟨rfl, rfl, rfl, rfl, rfl, rfl, show VI ((j : Int) + 1) = VI ((j + 1 : Nat) : Int) from congrArg VI (by omega), trivial⟩
          · refine ⟨?_, ?_⟩
            · try dsimp only
              exact ⟨by omega, hri4.item_no hob hit2 hfi50 (fun h => by have h2 := h.2; rw [he53, hc55] at h2; exact h2 rfl), hle4, hlt4, hag4⟩
            · exact H.sub (.cons_cons _ (.cons_cons _ (.cons_cons _ (List.nil_sublist _))))
          · show l40.length - (j + 1 : Nat) < l40.length - j; omega
         ·
          repeat refine c_seq ?_
          refine c_yes (by exact congrArg Value.bool (congrArg not hc55)) ?_
          repeat refine c_seq ?_
          refine c_region ?_
          refine l_op (o_val (r_mv) ?_)
          refine l_op (o_val (r_mv) ?_)
          refine l_op (o_val (r_isN ((fi49).toNat) rfl rfl el60 ah21 (by omega) (by (try simp only [Sl.cut]); omega)) ?_)
          refine l_op (o_stGV (enc := boE) (off := 0) (V := ([.bool true] : List Value)) (k := (fi49).toNat) true H (i := 0) rfl (fun _ _ => rfl) rfl ah21 rfl (by rfl) cs4 (by rfl) (by simp [Value.oneCell']) he53 (show Cut3 (boE e52) [] (boE e52) [] 0 1 from ⟨rfl, rfl, rfl⟩) rfl (fun w H => ?_))
          replace H : Hp _ w _ ([.own (some b1) g.len g.len (((hx).set ((fi49).toNat) true).flatMap boE) 4 1, _, _]) := H
          refine l_op (o_val (r_as) ?_)
          first | refine l_end ?_ | refine l_nil ?_
          repeat refine c_seq ?_
          refine c_region ?_
          refine l_op (o_val (r_mv) ?_)
          refine l_op (o_val (r_bin (a := (j : Int)) (b := 1) rfl rfl (fun _ => b_add (by omega) (by omega))) ?_)
          refine l_op (o_val (r_as) ?_)
          first | refine l_end ?_ | refine l_nil ?_
          have hit2 := he47
          rw [hitk] at hit2
          have hcl := cf_set_lt (h := hx) (n := (fi49).toNat) (by omega) (by rw [he53, hc55]; decide)
          refine round_end (j + 1, (hx).set ((fi49).toNat) true, true) ?_ ?_ ?_
          · exact ⟨rfl, rfl, rfl, rfl, rfl, rfl, show VI ((j : Int) + 1) = VI ((j + 1 : Nat) : Int) from congrArg VI (by omega), trivial⟩
          · refine ⟨?_, ?_⟩
            · try dsimp only
              exact ⟨by omega, hri4.item_yes (get_set_self hdl) hob hit2 hfi50 (by omega), by omega, fun _ => by omega, fun h => (by cases h)⟩
            · exact H.sub (.cons_cons _ (.cons_cons _ (.cons_cons _ (List.nil_sublist _))))
          · show l40.length - (j + 1 : Nat) < l40.length - j; omega
        ·
         refine l_no rfl rfl (by exact congrArg Value.bool (decide_eq_false hc51)) rfl ?_
         refine l_no rfl rfl (by exact congrArg Value.bool (decide_eq_false hc51)) rfl ?_
         refine l_no rfl rfl (by exact congrArg Value.bool (decide_eq_false hc51)) rfl ?_
         refine l_no rfl rfl (by exact congrArg Value.bool (decide_eq_false hc51)) rfl ?_
         refine l_no rfl rfl (by exact congrArg Value.bool (decide_eq_false hc51)) rfl ?_
         refine l_op (o_val (r_pick (b := false) (congrArg Value.bool (decide_eq_false hc51))) ?_)
         first | refine l_end ?_ | refine l_nil ?_
         repeat refine c_seq ?_
         refine c_no rfl ?_
         refine c_skip ?_
         repeat refine c_seq ?_
         refine c_region ?_
         refine l_op (o_val (r_mv) ?_)
         refine l_op (o_val (r_bin (a := (j : Int)) (b := 1) rfl rfl (fun _ => b_add (by omega) (by omega))) ?_)
         refine l_op (o_val (r_as) ?_)
         first | refine l_end ?_ | refine l_nil ?_
         have hit2 := he47
         rw [hitk] at hit2
         refine round_end (j + 1, hx, ay) ?_ ?_ ?_
         · exact ⟨rfl, rfl, rfl, rfl, rfl, rfl, show VI ((j : Int) + 1) = VI ((j + 1 : Nat) : Int) from congrArg VI (by omega), trivial⟩
         · refine ⟨?_, ?_⟩
           · try dsimp only
             exact ⟨by omega, hri4.item_no hob hit2 hfi50 (fun h => by omega), hle4, hlt4, hag4⟩
           · exact H.sub (.cons_cons _ (.cons_cons _ (.cons_cons _ (List.nil_sublist _))))
         · show l40.length - (j + 1 : Nat) < l40.length - j; omega
       ·
        repeat refine c_seq ?_
        refine c_no (by exact congrArg Value.bool (decide_eq_false hc43)) ?_
        refine c_exit ?_
        repeat refine c_seq ?_
        refine c_region ?_
        refine l_op (o_val (r_mv) ?_)
        refine l_op (o_val (r_bin (a := (i : Int)) (b := 1) rfl rfl (fun _ => b_add (by omega) (by omega))) ?_)
        refine l_op (o_val (r_as) ?_)
        first | refine l_end ?_ | refine l_nil ?_
        refine round_end (i + 1, hx, (dv).set i true, ay) ?_ ?_ ?_
        · exact ⟨rfl, rfl, rfl, rfl, show VI ((i : Int) + 1) = VI ((i + 1 : Nat) : Int) from congrArg VI (by omega), trivial⟩
        · refine ⟨?_, ?_⟩
          · try dsimp only
            exact ⟨by omega, hri4.visited (fun o ho => by rw [hob] at ho; cases ho; rw [← hitk]; omega), hle4, hlt4, fun h j hj hx => (Nat.lt_or_ge j i).elim (fun h2 => by have h3 := (hag4 h); rw [h3.2] at hx; exact get_set_true (hag3 h3.1 j h2 hx)) (fun h2 => (show i = j by omega) ▸ get_set_self hdl)⟩
          · exact H.sub (.cons_cons _ (.cons_cons _ (List.nil_sublist _)))
        · show g.len - (i + 1 : Nat) < g.len - i; omega
     ·
      refine l_no rfl rfl (by exact congrArg Value.bool (congrArg not hc25)) rfl ?_
      refine l_no rfl rfl (by exact congrArg Value.bool (congrArg not hc25)) rfl ?_
      refine l_no rfl rfl (by exact congrArg Value.bool (congrArg not hc25)) rfl ?_
      refine l_no rfl rfl (by exact congrArg Value.bool (congrArg not hc25)) rfl ?_
      refine l_op (o_val (r_pick (b := true) (congrArg Value.bool (congrArg not hc25))) ?_)
      first | refine l_end ?_ | refine l_nil ?_
      repeat refine c_seq ?_
      refine c_yes rfl ?_
      refine c_exit ?_
      repeat refine c_seq ?_
      refine c_region ?_
      refine l_op (o_val (r_mv) ?_)
      refine l_op (o_val (r_bin (a := (i : Int)) (b := 1) rfl rfl (fun _ => b_add (by omega) (by omega))) ?_)
      refine l_op (o_val (r_as) ?_)
      first | refine l_end ?_ | refine l_nil ?_
      have hat : hu[i]? = some true → dv[i]? = some true := fun hx => by rw [he23] at hx; have h2 := Option.some.inj hx; rw [hc25] at h2; cases h2
      refine round_end (i + 1, hu, dv, aw) ?_ ?_ ?_
      · exact ⟨rfl, rfl, rfl, rfl, show VI ((i : Int) + 1) = VI ((i + 1 : Nat) : Int) from congrArg VI (by omega), trivial⟩
      · refine ⟨?_, ?_⟩
        · try dsimp only
          exact ⟨by omega, hri3, hle3, hlt3, fun h j hj => (Nat.lt_or_ge j i).elim (hag3 h j) (fun h2 => (show i = j by omega) ▸ hat)⟩
        · exact H.sub (.cons_cons _ (.cons_cons _ (List.nil_sublist _)))
      · show g.len - (i + 1 : Nat) < g.len - i; omega
    ·
     repeat refine c_seq ?_
     refine c_no (by exact congrArg Value.bool (decide_eq_false hc19)) ?_
     refine c_exit ?_
     refine round_end (hu, dv, aw) ?_ ?_ ?_
     · exact ⟨rfl, rfl, rfl, rfl, trivial⟩
     · refine ⟨?_, ?_⟩
       · try dsimp only
         exact ⟨hri3, fun h => (fun j hj => hag3 h j (by have := (List.getElem?_eq_some_iff.1 hj).1; omega) hj)⟩
       · exact H.sub (.cons_cons _ (.cons_cons _ (List.nil_sublist _)))
     · have := hlt3; cases aw with
     | true => (have h3 := hlt3 rfl; rw [hc18]; simp only [if_true]; omega)
     | false => (rw [hc18]; simp only [if_true, Bool.false_eq_true, if_false]; omega)
   ·
    repeat refine c_seq ?_
    refine c_no (by exact congrArg Value.bool hc18) ?_
    refine c_exit ?_
    repeat refine c_seq ?_
    refine c_region ?_
    refine l_op (o_val (r_as) ?_)
    first | refine l_end ?_ | refine l_nil ?_
    repeat refine c_seq ?_
    refine c_region ?_
    refine l_op (o_val (r_as) ?_)
    first | refine l_end ?_ | refine l_nil ?_
    repeat refine c_seq ?_
    refine c_block ?_
    repeat refine c_seq ?_
    refine c_loop4 (fun (i : Nat) (R : List Id32) (a : Option Nat) (k : Nat) => [(0, g.v), (5, .slice (hd (some b1)) g.len g.len), (15, .slice (hd a) R.length k), (16, VI (i : Int))])
      (fun (i : Nat) (R : List Id32) (a : Option Nat) (k : Nat) w => (i ≤ g.len ∧ OutM g.l hw i R) ∧ Hp w0 w [] ([.own (some b1) g.len g.len ((hw).flatMap boE) 4 1, .own a R.length k ((R).flatMap idE) 29 32]))
      (fun (i : Nat) (R : List Id32) (a : Option Nat) (k : Nat) => g.len - i) 0 ([]) none 0 ⟨rfl, rfl, rfl, rfl, trivial⟩ ⟨⟨Nat.zero_le _, OutM.start⟩, ((H.sub (.cons_cons _ (List.nil_sublist _))).nilEnd 29 32)⟩ ?_
    clear H
    rintro i R a k τ w ⟨⟨hil5, hout⟩, H⟩
    have hrl5 := hout.2.2
    repeat refine c_seq ?_
    refine c_region ?_
    refine l_op (o_val (r_mv) ?_)
    refine l_op (o_val (r_mv) ?_)
    refine l_op (o_val (r_lens el22 rfl) ?_)
    refine l_op (o_val (r_bin (a := (i : Int)) (b := (g.len : Int)) rfl rfl (fun _ => b_lss)) ?_)
    first | refine l_end ?_ | refine l_nil ?_
    by_cases hc56 : (i : Int) < (g.len : Int)
    ·
     repeat refine c_seq ?_
     refine c_yes (by exact congrArg Value.bool (decide_eq_true hc56)) ?_
     refine c_skip ?_
     repeat refine c_seq ?_
     refine c_block ?_
     repeat refine c_seq ?_
     refine c_region ?_
     refine l_op (o_val (r_mv) ?_)
     refine l_op (o_val (r_mv) ?_)
     have ah58 := H.ownAddr (i := 0) rfl (by omega)
     obtain ⟨ab57, ah58⟩ := ah58
     refine l_op (o_val (r_isN i rfl rfl el60 ah58 (by omega) (by (try simp only [Sl.cut]); omega)) ?_)
     have he60 : ∃ c, (hw)[i]? = some c := ⟨_, List.getElem?_eq_getElem (by have := ((H.glOwn (i := 0) rfl (by decide) (fun _ _ => rfl))).ln; (try dsimp only at this ⊢); omega)⟩
     obtain ⟨e59, he60⟩ := he60
     have hez61 := ((H.glOwn (i := 0) rfl (by decide) (fun _ _ => rfl))).sz e59 (List.mem_of_getElem? he60)
     refine l_op (o_val (r_gc (v := .bool e59) (s := (⟨hd (some b1), g.len, g.len, hw⟩ : Gl Bool)) (j := i) (H.glOwn (i := 0) rfl (by decide) (fun _ _ => rfl)) ah58 rfl ct4 he60 rfl) ?_)
     first | refine l_end ?_ | refine l_nil ?_
     have hc620 := Bool.eq_false_or_eq_true (e59)
     rcases hc620 with hc62 | hc62
     ·
      repeat refine c_seq ?_
      refine c_yes (by exact congrArg Value.bool hc62) ?_
      repeat refine c_seq ?_
      refine c_region ?_
      refine l_op (o_val (r_mv) ?_)
      refine l_op (o_val (r_mv) ?_)
      refine l_op (o_val (r_mv) ?_)
      have ah65 := ((hg.up H)).addr (by decide) (by first | omega | (dsimp only; omega))
      obtain ⟨ab63, ao64, ah65⟩ := ah65
      refine l_op (o_val (r_isN i rfl rfl el22 ah65 (by omega) (by (try simp only [Sl.cut]); omega)) ?_)
      refine l_op (o_val (r_fa rfl fo34_0) ?_)
      have he67 : ∃ c, g.l[i]? = some c := ⟨_, List.getElem?_eq_getElem (by have := ((hg.up H)).ln; (try dsimp only at this ⊢); omega)⟩
      obtain ⟨e66, he67⟩ := he67
      have hez68 := ((hg.up H)).sz e66 (List.mem_of_getElem? he67)
      have hod_e66 := (ho e66 (List.mem_of_getElem? he67)).1
      have hodl_e66 := (ho e66 (List.mem_of_getElem? he67)).2
      refine l_op (o_val (r_gk (s := g) (j := i) (hg.up H) ah65 rfl rt29 (by decide) he67 (show Cut3 (obE e66) (([] : List Value)) ((e66.of.1).map V8) (([e66.data.v] : List Value)) 0 32 from ⟨(show (e66.of.1).map V8 ++ (([e66.data.v] : List Value)) = ([] : List Value) ++ (((e66.of.1).map V8) ++ (([e66.data.v] : List Value))) from by simp only [List.nil_append]), (by rfl), (by simp only [List.length_map, (show (e66.of.1).length = 32 from e66.of.2)])⟩)) ?_)
      by_cases hc69 : e66.of ∈ R
      ·
       refine l_op (o_callR Try.func29 rfl rfl rfl (with_in _ ⟨hd a, R.length, k, R⟩ (H.glOwn (i := 1) rfl (by decide) (fun c _ => idE_len c)) e66.of hout.1 (by (try dsimp only); omega) hc69) ?_)
       rintro _ w ⟨rfl, Hc⟩
       replace H : Hp _ w _ ([_, _]) := H.call Hc
       clear Hc
       refine l_op (o_val (r_as) ?_)
       first | refine l_end ?_ | refine l_nil ?_
       repeat refine c_seq ?_
       refine c_region ?_
       refine l_op (o_val (r_mv) ?_)
       refine l_op (o_val (r_bin (a := (i : Int)) (b := 1) rfl rfl (fun _ => b_add (by omega) (by omega))) ?_)
       refine l_op (o_val (r_as) ?_)
       first | refine l_end ?_ | refine l_nil ?_
       refine round_end (i + 1, R, a, k) ?_ ?_ ?_
       · exact ⟨rfl, rfl, rfl, show VI ((i : Int) + 1) = VI ((i + 1 : Nat) : Int) from congrArg VI (by omega), trivial⟩
       · refine ⟨?_, ?_⟩
         · try dsimp only
           exact ⟨by omega, hout.skip (.inr ⟨e66, he67, hc69⟩)⟩
         · exact H.sub (.cons_cons _ (.cons_cons _ (List.nil_sublist _)))
       · show g.len - (i + 1 : Nat) < g.len - i; omega
      ·
       refine l_op (o_callR Try.func29 rfl rfl rfl (with_out _ ⟨hd a, R.length, k, R⟩ (H.glOwn (i := 1) rfl (by decide) (fun c _ => idE_len c)) e66.of hout.1 (by (try dsimp only); omega) hc69) ?_)
       rintro _ w ⟨a70, c71, R72, hri73, rfl, Hc⟩
       replace H : Hp _ w _ ([_, _, .own a70 R72.length c71 ((R72).flatMap idE) 29 32]) := H.call Hc
       clear Hc
       refine l_op (o_val (r_as) ?_)
       first | refine l_end ?_ | refine l_nil ?_
       repeat refine c_seq ?_
       refine c_region ?_
       refine l_op (o_val (r_mv) ?_)
       refine l_op (o_val (r_bin (a := (i : Int)) (b := 1) rfl rfl (fun _ => b_add (by omega) (by omega))) ?_)
       refine l_op (o_val (r_as) ?_)
       first | refine l_end ?_ | refine l_nil ?_
       refine round_end (i + 1, R72, a70, c71) ?_ ?_ ?_
       · exact ⟨rfl, rfl, rfl, show VI ((i : Int) + 1) = VI ((i + 1 : Nat) : Int) from congrArg VI (by omega), trivial⟩
       · refine ⟨?_, ?_⟩
         · try dsimp only
           exact ⟨by omega, hout.put (by rw [he60, hc62]) he67 hri73⟩
         · exact H.sub (.cons_cons _ (.cons _ (.cons_cons _ (List.nil_sublist _))))
       · show g.len - (i + 1 : Nat) < g.len - i; omega
     ·
      repeat refine c_seq ?_
      refine c_no (by exact congrArg Value.bool hc62) ?_
      refine c_skip ?_
      repeat refine c_seq ?_
      refine c_region ?_
      refine l_op (o_val (r_mv) ?_)
      refine l_op (o_val (r_bin (a := (i : Int)) (b := 1) rfl rfl (fun _ => b_add (by omega) (by omega))) ?_)
      refine l_op (o_val (r_as) ?_)
      first | refine l_end ?_ | refine l_nil ?_
      refine round_end (i + 1, R, a, k) ?_ ?_ ?_
      · exact ⟨rfl, rfl, rfl, show VI ((i : Int) + 1) = VI ((i + 1 : Nat) : Int) from congrArg VI (by omega), trivial⟩
      · refine ⟨?_, ?_⟩
        · try dsimp only
          exact ⟨by omega, hout.skip (.inl (by rw [he60, hc62]; decide))⟩
        · exact H.sub (.cons_cons _ (.cons_cons _ (List.nil_sublist _)))
      · show g.len - (i + 1 : Nat) < g.len - i; omega
    ·
     repeat refine c_seq ?_
     refine c_no (by exact congrArg Value.bool (decide_eq_false hc56)) ?_
     refine c_exit ?_
     repeat refine c_seq ?_
     refine c_region ?_
     refine l_op (o_val (r_mv) ?_)
     refine l_op (o_val (r_as) ?_)
     first | refine l_end ?_ | refine l_nil ?_
     refine c_ret ?_
     try dsimp only [Exit.then, Exit.inBlock]
     refine e_ret1 (v := .slice (hd a) R.length k) Try.results13 rfl ?_
     refine ⟨_, rfl, ?_⟩
     have hi2 : i = g.l.length := by omega
     subst hi2
     exact ⟨_, _, _, outM_mark hri2 (hag2 hc18) hout, rfl, H.sub (.cons _ (.cons_cons _ (List.nil_sublist _)))⟩
end Go.Proofs.Ytomjbabllcmodaa
namespace Go.Proofs.Ytomjbabllcmodaa
open Go
/-- the first c bytes of word j of a block, as a number. -/
def pwN (bs : List UInt8) (j : Nat) : Nat → Nat
  | 0 => 0
  | c + 1 => pwN bs j c * 256 + (bs.getD (4 * j + c) 0).toNat
theorem wordAt_nat (bs : List UInt8) (j : Nat) : (wordAt bs j).toNat = pwN bs j 4 := by
  simp only [wordAt, pwN, Nat.add_zero, Nat.zero_mul, Nat.zero_add]
  generalize bs.getD (4 * j) 0 = a
  generalize bs.getD (4 * j + 1) 0 = b
  generalize bs.getD (4 * j + 2) 0 = c
  generalize bs.getD (4 * j + 3) 0 = d
  have ha := a.toNat_lt
  have hb := b.toNat_lt
  have hc := c.toNat_lt
  have hd := d.toNat_lt
  have e24 : (UInt32.ofNat 24).toNat % 32 = 24 := rfl
  have e16 : (UInt32.ofNat 16).toNat % 32 = 16 := rfl
  have e8 : (UInt32.ofNat 8).toNat % 32 = 8 := rfl
  simp only [UInt32.toNat_or, UInt32.toNat_shiftLeft, UInt8.toNat_toUInt32, e24, e16, e8]
  have m1 : a.toNat <<< 24 % 2 ^ 32 = a.toNat <<< 24 := by rw [Nat.shiftLeft_eq]; omega
  have m2 : b.toNat <<< 16 % 2 ^ 32 = b.toNat <<< 16 := by rw [Nat.shiftLeft_eq]; omega
  have m3 : c.toNat <<< 8 % 2 ^ 32 = c.toNat <<< 8 := by rw [Nat.shiftLeft_eq]; omega
  rw [m1, m2, m3, Nat.or_assoc, Nat.or_assoc]
  have s3 : c.toNat <<< 8 ||| d.toNat = c.toNat <<< 8 + d.toNat := (Nat.shiftLeft_add_eq_or_of_lt (by omega) _).symm
  have s2 : b.toNat <<< 16 ||| (c.toNat <<< 8 + d.toNat) = b.toNat <<< 16 + (c.toNat <<< 8 + d.toNat) := (Nat.shiftLeft_add_eq_or_of_lt (by rw [Nat.shiftLeft_eq]; omega) _).symm
  have s1 : a.toNat <<< 24 ||| (b.toNat <<< 16 + (c.toNat <<< 8 + d.toNat)) = a.toNat <<< 24 + (b.toNat <<< 16 + (c.toNat <<< 8 + d.toNat)) := (Nat.shiftLeft_add_eq_or_of_lt (by rw [Nat.shiftLeft_eq, Nat.shiftLeft_eq]; omega) _).symm
  rw [s3, s2, s1, Nat.shiftLeft_eq, Nat.shiftLeft_eq, Nat.shiftLeft_eq]
  omega
end Go.Proofs.Ytomjbabllcmodaa
namespace Go.Proofs.Ytomjbabllcmodaa
open Go
set_option maxRecDepth 100000
/-- the cells of a hash whose words are l. -/
def parts (A B : List UInt32) (i : Nat) : List UInt32 := A.take i ++ B.drop i
theorem parts_length (A B : List UInt32) (i : Nat) (h : A.length = B.length) (hi : i ≤ A.length) : (parts A B i).length = B.length := by simp only [parts, List.length_append, List.length_take, List.length_drop]; omega
theorem parts_get (A B : List UInt32) (i : Nat) (h : A.length = B.length) (hi : i < A.length) : (parts A B i).getD i 0 = B.getD i 0 := by
  have : (A.take i).length = i := by rw [List.length_take]; omega
  simp only [parts, List.getD_eq_getElem?_getD]
  rw [List.getElem?_append_right (by omega), this]; simp
theorem parts_set (A B : List UInt32) (i : Nat) (h : A.length = B.length) (hi : i < A.length) : (parts A B i).set i (A.getD i 0) = parts A B (i + 1) := by
  have h1 : (A.take i).length = i := by rw [List.length_take]; omega
  apply List.ext_getElem?
  intro j
  rw [List.getElem?_set]
  have hl : (parts A B i).length = B.length := parts_length A B i h (by omega)
  by_cases h2 : i = j
  · subst h2
    rw [if_pos rfl, if_pos (by omega)]
    rw [parts, List.getElem?_append_left (by rw [List.length_take]; omega), List.getElem?_take_of_lt (by omega)]
    simp [hi]
  · rw [if_neg h2]
    have h4 : (A.take (i + 1)).length = i + 1 := by rw [List.length_take]; omega
    by_cases h3 : j < i
    · rw [parts, parts, List.getElem?_append_left (by omega), List.getElem?_append_left (by omega), List.getElem?_take_of_lt h3, List.getElem?_take_of_lt (by omega)]
    · rw [parts, parts, List.getElem?_append_right (by omega), List.getElem?_append_right (by omega), h1, h4, List.getElem?_drop, List.getElem?_drop]
      congr 1; omega
theorem add_get (s t : S8) (i : Nat) (hi : i < 8) : s.l.getD i 0 + t.l.getD i 0 = (addS s t).l.getD i 0 := by
  have e : (addS s t).l = List.zipWith (· + ·) s.l t.l := rfl
  have h1 : s.l.length = 8 := rfl
  have h2 : t.l.length = 8 := rfl
  rw [e]
  simp only [List.getD_eq_getElem?_getD, List.getElem?_zipWith]
  rw [List.getElem?_eq_getElem (by omega : i < s.l.length), List.getElem?_eq_getElem (by omega : i < t.l.length)]
  rfl
end Go.Proofs.Ytomjbabllcmodaa
namespace Go.Proofs.Ytomjbabllcmodaa
open Go
set_option maxRecDepth 100000
theorem turn_ret (w : World) (x : UInt64) (n : Nat) (hn : n ≤ 64) : Ret Try.prog 66 [V64 x, VI n] w fun v w' => v = V64 (turn64 x n) ∧ w' = w := by
  refine ret_mk Try.func66 rfl Try.ntmps66 (by simp) ?_
  repeat refine c_seq ?_
  refine c_region ?_
  refine l_op (o_as ?_)
  first | refine l_end ?_ | refine l_nil ?_
  repeat refine c_seq ?_
  refine c_region ?_
  refine l_op (o_as ?_)
  first | refine l_end ?_ | refine l_nil ?_
  repeat refine c_seq ?_
  refine c_block ?_
  refine c_loop (ι := Nat) (fun i => [(5, VI i), (0, V64 (turn64 x i)), (1, VI n)]) (fun i w' => i ≤ n ∧ w' = w) (fun i => n - i) 0 ⟨rfl, rfl, rfl, trivial⟩ ⟨by omega, rfl⟩ ?_
  rintro i τ w' ⟨hi, hw⟩
  rw [hw]; clear hw w'
  repeat refine c_seq ?_
  refine c_region ?_
  refine l_op (o_mv ?_)
  refine l_op (o_mv ?_)
  refine l_op (o_bin rfl rfl (fun _ => b_lss) ?_)
  first | refine l_end ?_ | refine l_nil ?_
  repeat refine c_seq ?_
  refine c_ifD rfl (fun hlt => ?_) (fun hlt => ?_)
  · have hlt' : i < n := by omega
    refine c_skip ?_
    repeat refine c_seq ?_
    refine c_block ?_
    repeat refine c_seq ?_
    refine c_region ?_
    refine l_op (o_mv ?_)
    refine l_op (o_bin rfl (c64 2 (by decide)) (fun _ => b_quo_u64 (by decide)) ?_)
    refine l_op (o_mv ?_)
    refine l_op (o_bin rfl (c64 2 (by decide)) (fun _ => b_rem_u64 (by decide)) ?_)
    refine l_op (o_bin rfl (c64 2147483648 (by decide)) (fun _ => b_mul_u64) ?_)
    refine l_op (o_bin rfl rfl (fun _ => b_add_u64) ?_)
    refine l_op (o_as ?_)
    first | refine l_end ?_ | refine l_nil ?_
    repeat refine c_seq ?_
    refine c_region ?_
    refine l_op (o_mv ?_)
    refine l_op (o_bin rfl rfl (fun _ => b_add (by omega) (by omega)) ?_)
    refine l_op (o_as ?_)
    first | refine l_end ?_ | refine l_nil ?_
    refine round_end (i + 1) ?_ ?_ ?_
    · exact ⟨rfl, rfl, rfl, trivial⟩
    · exact ⟨hlt', rfl⟩
    · show n - (i + 1) < n - i; omega
  · have hi' : i = n := by omega
    subst hi'
    refine c_exit ?_
    repeat refine c_seq ?_
    refine c_region ?_
    refine l_op (o_mv ?_)
    refine l_op (o_as ?_)
    first | refine l_end ?_ | refine l_nil ?_
    exact c_ret (e_ret1 Try.results66 rfl ⟨_, rfl, rfl, rfl⟩)
theorem down_ret (w : World) (x : UInt64) (n : Nat) (hn : n ≤ 64) : Ret Try.prog 67 [V64 x, VI n] w fun v w' => v = V64 (down64 x n) ∧ w' = w := by
  refine ret_mk Try.func67 rfl Try.ntmps67 (by simp) ?_
  repeat refine c_seq ?_
  refine c_region ?_
  refine l_op (o_as ?_)
  first | refine l_end ?_ | refine l_nil ?_
  repeat refine c_seq ?_
  refine c_region ?_
  refine l_op (o_as ?_)
  first | refine l_end ?_ | refine l_nil ?_
  repeat refine c_seq ?_
  refine c_block ?_
  refine c_loop (ι := Nat) (fun i => [(5, VI i), (0, V64 (down64 x i)), (1, VI n)]) (fun i w' => i ≤ n ∧ w' = w) (fun i => n - i) 0 ⟨rfl, rfl, rfl, trivial⟩ ⟨by omega, rfl⟩ ?_
  rintro i τ w' ⟨hi, hw⟩
  rw [hw]; clear hw w'
  repeat refine c_seq ?_
  refine c_region ?_
  refine l_op (o_mv ?_)
  refine l_op (o_mv ?_)
  refine l_op (o_bin rfl rfl (fun _ => b_lss) ?_)
  first | refine l_end ?_ | refine l_nil ?_
  repeat refine c_seq ?_
  refine c_ifD rfl (fun hlt => ?_) (fun hlt => ?_)
  · have hlt' : i < n := by omega
    refine c_skip ?_
    repeat refine c_seq ?_
    refine c_block ?_
    repeat refine c_seq ?_
    refine c_region ?_
    refine l_op (o_mv ?_)
    refine l_op (o_bin rfl (c64 2 (by decide)) (fun _ => b_quo_u64 (by decide)) ?_)
    refine l_op (o_as ?_)
    first | refine l_end ?_ | refine l_nil ?_
    repeat refine c_seq ?_
    refine c_region ?_
    refine l_op (o_mv ?_)
    refine l_op (o_bin rfl rfl (fun _ => b_add (by omega) (by omega)) ?_)
    refine l_op (o_as ?_)
    first | refine l_end ?_ | refine l_nil ?_
    refine round_end (i + 1) ?_ ?_ ?_
    · exact ⟨rfl, rfl, rfl, trivial⟩
    · exact ⟨hlt', rfl⟩
    · show n - (i + 1) < n - i; omega
  · have hi' : i = n := by omega
    subst hi'
    refine c_exit ?_
    repeat refine c_seq ?_
    refine c_region ?_
    refine l_op (o_mv ?_)
    refine l_op (o_as ?_)
    first | refine l_end ?_ | refine l_nil ?_
    exact c_ret (e_ret1 Try.results67 rfl ⟨_, rfl, rfl, rfl⟩)
theorem keys_ret (w0 : World) : Ret Try.prog 52 [] w0 fun v w' => v = .agg (primeWords.map W64).toArray ∧ Hp w0 w' [] [] := by
  refine ret_mk Try.func52 rfl Try.ntmps52 (by simp) ?_
  have H := Hp.refl w0 []
  repeat refine c_seq ?_
  refine c_region ?_
  refine l_op (o_alloc H zc101 (fun b0 w H hb0 => ?_))
  first | refine l_end ?_ | refine l_nil ?_
  repeat refine c_seq ?_
  refine c_region ?_
  refine l_op (o_bld' (cells := (primeWords.map W64).toArray) bd101 rfl (by kernel_rfl) ?_)
  refine l_op (o_stw H (i := 0) rfl rfl rfl (by rw [cs101]; rfl) (by kernel_rfl) (by rfl) (fun w H => ?_))
  first | refine l_end ?_ | refine l_nil ?_
  refine c_ret (e_retc Try.results52 H (i := 0) rfl rfl rt101 (by rfl) ⟨_, rfl, rfl, ?_⟩)
  exact H.sub (List.nil_sublist _)
end Go.Proofs.Ytomjbabllcmodaa
