/- Lemmas for the statement ModelRefused, part 1: rules of operations, walks through functions, plain laws. -/
import Derived.ArgAppend
import Derived.Below
import Derived.Calls
import Derived.ChangeFn
import Derived.ChangeKeysEq
import Derived.Deep.AppendSrc
import Derived.Deep.MidRow
import Derived.Deep.Slices
import Derived.IntWalk
import Derived.Laws.CopyRow
import Derived.Laws.Cover3
import Derived.Laws.IdiomCopy
import Derived.Laws.IdiomStrings
import Derived.Laws.MakeOwn
import Derived.Laws.NewBlocks
import Derived.Laws.Tables
import Derived.Lib.ItoaNum
import Derived.OpenShut
import Derived.OrdersHeld
import Derived.ProofKit
import Derived.StillTail
import Derived.Test.YtiligejcokfhkaaGreatDoorProg
import Derived.Test.YtiligejcokfhkaaGreatDoorRows
import Derived.WalkKit
set_option maxRecDepth 100000
set_option linter.all false
namespace Go.Proofs.YtiligejcokfhkaaGreatDoor
open Go
open Go.IntKind (i64 u64 u8 u32)
open List (replicate)
open Nat (beq blt)
open BitVec (ofInt)
theorem zO{p:Prop}(h:p:=by omega):p:=h
theorem zK{p:Prop}(h:p:=by kernel_rfl):p:=h
theorem zT:True:=.intro
abbrev A6:=@Nat.eq_of_beq_eq_true
abbrev B0:=@Nat.blt_eq
abbrev B2:=@Bool.and_eq_true
abbrev B5:=@Nat.le_refl
abbrev B7:=@List.getElem?_eq_getElem
abbrev D0:=@List.length_append
abbrev D1:=@Sem.run_bind
abbrev E3:=@List.mem_of_getElem?
abbrev F2:=@Option.some.injEq
abbrev F6:=@Result.andThen_ok
abbrev F7:=@List.length_take
abbrev G7:=@Prod.mk.injEq
abbrev G8:=@Nat.mul_le_mul_right
abbrev G9:=@Nat.succ_mul
abbrev I0:=@List.append_assoc
abbrev I6:=@List.length_cons
abbrev J3:=@Nat.zero_add
abbrev J4:=@List.mem_map
abbrev J5:=@List.length_map
abbrev K4:=@List.length_drop
abbrev K5:=@List.mem_cons
abbrev L7:=@List.getElem?_append_right
abbrev L8:=@Nat.zero_le
abbrev N0:=@List.getElem?_eq_some_iff
abbrev N1:=@Nat.le_trans
abbrev N7:=@List.getElem?_append_left
abbrev O8:=@Nat.add_assoc
abbrev O9:=@List.mem_singleton
abbrev P6:=@List.nil_sublist
abbrev Q1:=@List.getElem?_drop
abbrev Q7:=@List.all_eq_true
abbrev Q8:=@List.mem_cons_of_mem
abbrev Q9:=@Nat.beq_refl
abbrev R9:=@List.mem_append
abbrev S0:=@List.length_nil
abbrev T9:=@List.map_cons
abbrev U0:=@Array.ext'
abbrev V4:=@List.getElem?_eq_none
abbrev V5:=@List.ext_getElem?
abbrev V6:=@Nat.add_mul
abbrev V7:=@List.take_of_length_le
abbrev X5:=@Nat.lt_of_lt_of_le
abbrev X6:=@Option.map_some
abbrev X7:=@List.mem_cons_self
abbrev Y3:=@List.nil_append
abbrev Y4:=@List.getElem?_map
abbrev Z3:=@Array.getElem?_eq_some_iff
abbrev Z4:=@List.append_nil
abbrev f9:=@Nat.ble_eq
abbrev j5:=@List.length_eq_zero_iff
abbrev j6:=@Nat.mul_one
abbrev j7:=@List.getD_eq_getElem?_getD
abbrev r9:=@List.getElem?_take
abbrev s9:=@Nat.add_zero
abbrev t1:=@Array.length_toList
abbrev t6:=@List.cons_append
abbrev w8:=@List.length_singleton
abbrev w9:=@Calls.mono
abbrev x4:=@Nat.not_lt_zero
abbrev aH:=@UInt64.toNat_ofNat'
abbrev bD:=@List.size_toArray
abbrev bG:=@Nat.sub_self
abbrev cS:=@List.set_append_right
abbrev dS:=@List.getElem_mem
abbrev dU:=@List.getElem?_take_of_lt
abbrev dV:=@List.drop_eq_nil_of_le
abbrev dW:=@Option.map_eq_some_iff
abbrev eY:=@List.getElem?_toArray
abbrev gU:=@Addr.add_mid
abbrev gV:=@Sem.run_pure
abbrev gW:=@Option.isSome_iff_exists
abbrev gX:=@List.flatMap_cons
abbrev jI:=@Int.toNat_natCast
abbrev jJ:=@Nat.min_eq_left
abbrev jK:=@List.length_replicate
abbrev jL:=@World.frozen?_setCells
abbrev jM:=@Nat.add_sub_cancel_left
abbrev kR:=@List.take_append_of_le_length
abbrev kS:=@Bool.not_eq_true'
abbrev kT:=@List.map_append
abbrev mP:=@List.all_toArray
abbrev mQ:=@World.cell?_setCells_out
abbrev mR:=@Nat.sub_mul
abbrev pI:=@Int.eq_ofNat_of_zero_le
abbrev pJ:=@List.drop_zero
abbrev pK:=@List.drop_append_of_le_length
abbrev pM:=@Option.some.inj
abbrev pN:=@Nat.sub_zero
abbrev pO:=@MapKept.run_getObj_map
abbrev pP:=@Array.toList_modify
abbrev pQ:=@List.nodup_cons
abbrev pR:=@Nat.one_mul
abbrev pS:=@List.Sublist.refl
abbrev tX:=@List.take_append_drop
abbrev tY:=@List.drop_append
abbrev tZ:=@Bool.eq_iff_iff
abbrev uA:=@List.all_cons
abbrev uB:=@List.map_take
abbrev uC:=@List.cons.injEq
abbrev uD:=@Array.getElem?_toList
abbrev uE:=@Nat.le_mul_of_pos_right
abbrev uF:=@Nat.lt_succ_self
abbrev uG:=@List.any_eq_true
abbrev uH:=@List.all_append
abbrev uI:=@List.all_map
abbrev yI:=@Nat.le_of_not_lt
abbrev yJ:=@Array.toList_map
abbrev yL:=@List.getElem?_append
abbrev yM:=@Bool.false_eq_true
abbrev yN:=@World.cell?_setCells_in
abbrev yO:=@List.mem_filter
abbrev yP:=@Array.size_append
abbrev yQ:=@Array.getElem?_eq_getElem
abbrev yR:=@List.mem_range
abbrev yS:=@World.keptBut_refl
abbrev yT:=@MapKept.run_setObj_map
abbrev BX:=@Oper.upon_value
abbrev BY:=@UInt64.toNat_add
abbrev BZ:=@List.getElem?_of_mem
abbrev CA:=@Option.bind_some
abbrev CB:=@UInt8.toNat_inj
abbrev CC:=@List.getElem?_cons_succ
abbrev CD:=@List.sublist_append_left
abbrev CE:=@List.take_add_one
abbrev CF:=@List.toList_toArray
abbrev CG:=@Array.getElem?_eq_none
abbrev CH:=@Bool.or_eq_true
abbrev CI:=@Option.bind_eq_some_iff
abbrev CJ:=@Array.toList_push
abbrev CK:=@List.getElem?_modify
abbrev CL:=@List.length_range
abbrev HM:=@Int.fdiv_eq_ediv_of_nonneg
abbrev HO:=@List.pairwise_append
abbrev HP:=@Nat.lt_or_gt_of_ne
abbrev HQ:=@List.drop_eq_getElem_cons
abbrev HR:=@List.length_pos_iff
abbrev HV:=@List.getElem?_range
abbrev HX:=@List.getElem_of_mem
abbrev HY:=@Array.getElem?_modify
abbrev HZ:=@Array.getElem?_setIfInBounds
abbrev IA:=@Array.ext_getElem?
abbrev IB:=@List.mem_of_mem_drop
abbrev IC:=@Bool.eq_false_or_eq_true
abbrev ID:=@Nat.lt_succ_iff_lt_or_eq
abbrev NU:=@Nat.shiftRight_eq_div_pow
abbrev NV:=@List.perm_append_singleton
abbrev NW:=@Array.getElem?_append_left
abbrev NX:=@Nat.eq_of_mul_eq_mul_right
abbrev NY:=@List.getElem?_cons_zero
abbrev NZ:=@List.filter_cons_of_neg
abbrev OA:=@List.filter_cons_of_pos
variable {ops:Array Oper} {args:Array Operand} {V9:Array TypeId} {fn:Func} {k k':IntKind} {pv:List (Nat × Value)} {S lv lv':List Nat} {C cs news vs xs zs:List Value} {N c c' cap i j len m o r:Nat} {hi mx:Option Operand} {hv:Option Value} {P:Program} {α ι:Type} {e:TypeId} {x:Value} {w w' w0:World}
def mk(n:Nat)(σ:Nat->Value):Act:=⟨Array.ofFn (n:=n) (fun i=>σ i.val),[]⟩
def up(σ:Nat->Value)(d:Nat)(v:Value):Nat->Value:=fun t=>bif beq t d then v else σ t
def ev(n:Nat)(σ:Nat->Value):Operand->Value
|.tmp t=>bif blt t n then σ t else undef
|.const v=>v
|.global g=>.pointer (some ⟨g,0,none⟩)
|.func f=>.func (.func f) #[] #[]
def rA(n:Nat)(σ:Nat->Value):List Operand->List Value
|[]=>[]
|x::l=>ev n σ x::rA n σ l
theorem yU(n σ):∀l:List Operand,rA n σ l=l.map (ev n σ)
|[]=>rfl
|x::l=>by rw[rA,yU n σ l,T9]
def W5(n:Nat)(σ:Nat->Value):List (Nat×Operand)->List (Nat×Value)
|[]=>[]
|x::l=>(x.1,ev n σ x.2)::W5 n σ l
theorem rC(n σ):∀l:List (Nat×Operand),W5 n σ l=l.map fun(i,x)=>(i,ev n σ x)
|[]=>rfl
|x::l=>by rw[W5,rC n σ l,T9]
theorem eF(n σ d v):(mk n σ).put (some d) v=mk n (up σ d v):=by
 simp only[Act.put,mk,Act.mk.injEq,and_true]
 apply Array.ext
 ·simp
 ·intro i h1 h2
  simp only[Array.getElem_ofFn,up]
  rw[Array.getElem_setIfInBounds]
  ·by_cases h:d=i
   ·subst h;simp
   ·have:beq i d=false:=by
     cases hb:beq i d
     ·rfl
     ·exact absurd (A6 hb).symm h
    rw[if_neg h,this]
    exact Array.getElem_ofFn _
  ·simpa using h2
theorem lM(n σ)(x:Operand):(mk n σ).eval x=ev n σ x:=by
 cases x<;>simp only[Act.eval,ev,mk]
 rename_i t
 by_cases h:t<n
 ·have:blt t n=true:=by rw[B0];exact h
  simp[this,h]
 ·have:blt t n=false:=by
   cases hb:blt t n
   ·rfl
   ·exact absurd (by rw[B0]at hb;exact hb) h
  simp[this,h]
theorem W6(n σ):(mk n σ).eval=ev n σ:=funext (lM n σ)
theorem Ah(σ:Nat->Value)(d:Nat):up σ d (σ d)=σ:=by
 funext t
 simp only[up]
 cases hb:beq t d
 ·rfl
 ·rw[A6 hb];rfl
theorem Ai(σ:Nat->Value)(d:Nat)(v:Value)(h:σ d=v):up σ d v=σ:=by subst h;exact Ah σ d
def l7(σ:Nat->Value):List (Nat×Value)->(Nat->Value)
|[]=>σ
|p::l=>up (l7 σ l) p.1 p.2
def fits(σ:Nat->Value):List (Nat×Value)->Prop
|[]=>True
|p::l=>σ p.1=p.2/\fits σ l
theorem rE(σ:Nat->Value):∀l,fits σ l->l7 σ l=σ
|[],_=>rfl
|p::l,h=>by
  rw[l7,rE σ l h.2]
  exact Ai _ _ _ h.1
theorem OC(args:List Value)(n:Nat)(h:args.length<=n):
  (⟨args.toArray++Array.replicate (n-args.toArray.size) undef,[]⟩:Act)=mk n (fun t=>args.getD t undef):=by
 simp only[mk,Act.mk.injEq,and_true]
 apply Array.ext
 ·simp;omega
 ·intro i h1 h2
  simp only[Array.getElem_ofFn]
  by_cases hi:i<args.length
  ·rw[Array.getElem_append_left (by simpa using hi)]
   simp[List.getD,hi]
  ·rw[Array.getElem_append_right (by simpa using hi)]
   simp[List.getD,V4 (yI hi)]
theorem IE{P:Program}{f:FuncId}{fn:Func}{c:Code}{args:List Value}{R:Ending->World->Prop}{n:Nat}
  (hf:P.funcs[f]? =some fn)(hb:fn.body=some c)(hn:fn.ntmps=n)(B3:args.length<=n)
  (h:c.wp P (bodyPost P fn R) (mk n (fun t=>args.getD t undef)) w):Calls P f args.toArray w R:=by
 refine calls_of_wp hf hb ?_
 rw[hn,OC args n B3]
 exact h
section
variable {P:Program} {Q:Exit->Act->World->Prop} {n:Nat} {σ:Nat->Value} {w:World} {K:Act->World->Prop}
 {ty:TypeId} {pos:String} {aft:Array Edge} {g:Option (Nat×Bool)} {d:Nat}
theorem CM{id:Nat}{l:List Oper}{a:Act}(h:wpList P l.toArray Q l a w):(Code.region id l.toArray false).wp P Q a w:=wp_region_lit h
theorem D9{x y:Code}{a:Act}(h:x.wp P (Exit.then (y.wp P Q) Q) a w):(Code.seq x y).wp P Q a w:=wp_seq h
theorem A3{rest:List Oper}{op:Op}{dst:Option Tmp}{a:Act}
  (h:Oper.wp P ⟨dst,op,ty,pos,aft,none⟩ a w (wpList P ops Q rest) Q):wpList P ops Q (⟨dst,op,ty,pos,aft,none⟩::rest) a w:=by
 unfold wpList
 rw[if_pos (by simp[Region.wanted])]
 exact .inl h
theorem CN(ops:Array Oper)(j d:Nat)(h:(ops[j]?).bind (·.dst)=some d)(b:Bool)(hd:blt d n=true)(hv:σ d=.bool b):
  yielded ops (mk n σ).tmps j=some b:=by
 have hd':d<n:=by rw[B0]at hd;exact hd
 unfold yielded
 simp[h,mk,hd',hv]
theorem bR{rest:List Oper}{op:Op}{dst:Option Tmp}{e:Nat}{b:Bool}
  (he:(ops[j]?).bind (·.dst)=some e)(hb:blt e n=true)(hv:σ e=.bool b)
  (h:Oper.wp P ⟨dst,op,ty,pos,aft,some (j,b)⟩ (mk n σ) w (wpList P ops Q rest) Q):wpList P ops Q (⟨dst,op,ty,pos,aft,some (j,b)⟩::rest) (mk n σ) w:=by
 have hw:=CN ops j e he b hb hv
 unfold wpList
 rw[if_pos (by simp[Region.wanted,hw])]
 exact .inl h
theorem nP{rest:List Oper}{op:Op}{e:Nat}{b c:Bool}
  (he:(ops[j]?).bind (·.dst)=some e)(hb:blt e n=true)(hv:σ e=.bool c)(hc:(c==b)=false)
  (h:wpList P ops Q rest (mk n (up σ d undef)) w):wpList P ops Q (⟨some d,op,ty,pos,aft,some (j,b)⟩::rest) (mk n σ) w:=by
 have hw:=CN ops j e he c hb hv
 unfold wpList
 rw[if_neg (by simp[Region.wanted,hw];intro h';subst h';simp at hc),eF]
 exact h
theorem IF{y:Code}{a:Act}(h:y.wp P Q a w):wpList P ops (Exit.then (y.wp P Q) Q) [] a w:=h
theorem yV{a:Act}(h:Q .normal a w):wpList P ops Q [] a w:=h
theorem Aj{c:Operand}{x y:Code}{b:Bool}(hc:ev n σ c=.bool b)(ht:b=true->x.wp P Q (mk n σ) w)(hf:b=false->y.wp P Q (mk n σ) w):
  (Code.cond c x y).wp P Q (mk n σ) w:=wp_cond_split ((lM n σ c).trans hc) ht hf
theorem iJ{c:Operand}{x y:Code}{p:Prop} [Decidable p](hc:ev n σ c=.bool (decide p))(ht:p->x.wp P Q (mk n σ) w)(hf:¬ p->y.wp P Q (mk n σ) w):
  (Code.cond c x y).wp P Q (mk n σ) w:=Aj hc (fun h=>ht (of_decide_eq_true h)) (fun h=>hf (of_decide_eq_false h))
theorem bU{c:Operand}{x y:Code}(hc:ev n σ c=.bool true)(ht:x.wp P Q (mk n σ) w):(Code.cond c x y).wp P Q (mk n σ) w:=
 wp_cond_true ((lM n σ c).trans hc) ht
theorem bV{c:Operand}{x y:Code}(hc:ev n σ c=.bool false)(ht:y.wp P Q (mk n σ) w):(Code.cond c x y).wp P Q (mk n σ) w:=
 wp_cond_false ((lM n σ c).trans hc) ht
theorem M5{a:Act}(h:Q .normal a w):Code.skip.wp P Q a w:=wp_skip h
theorem iL{a:Act}(h:Q .ret a w):Code.ret.wp P Q a w:=wp_ret h
theorem W7{id:Nat}{a:Act}(h:Q (.exit id) a w):(Code.exit id).wp P Q a w:=wp_exit h
theorem OD{id:Nat}{c:Code}{a:Act}(h:c.wp P (Exit.inBlock id Q) a w):(Code.block id c).wp P Q a w:=wp_block h
theorem cut{c:Code}(G5:ι->List (Nat×Value))(A:ι->World->Prop)(i:ι)(hp:fits σ (G5 i))(hA:A i w)
  (h:∀i τ w,A i w->c.wp P Q (mk n (l7 τ (G5 i))) w):c.wp P Q (mk n σ) w:=by
 have:=h i σ w hA
 rwa [rE σ _ hp]at this
def IG{ι:Type}(n:Nat)(G5:ι->List (Nat×Value))(A:ι->World->Prop)(a:Act)(w:World):Prop:=∃i τ,a=mk n (l7 τ (G5 i))/\A i w
def nQ{ι:Type}(n:Nat)(G5:ι->List (Nat×Value))(A:ι->World->Prop)(μ:ι->Nat)(m:Nat)(a:Act)(w:World):Prop:=∃j τ,a=mk n (l7 τ (G5 j))/\A j w/\μ j<m
def Exit.mid(M:Act->World->Prop)(Q:Exit->Act->World->Prop):Exit->Act->World->Prop
|.normal,a,w=>M a w
|e,a,w=>Q e a w
theorem Ak{c:Code}(G5:ι->List (Nat×Value))(A:ι->World->Prop)
  (h1:c.wp P (Exit.mid (IG n G5 A) Q) (mk n σ) w)
  (h2:∀i τ w,A i w->Q .normal (mk n (l7 τ (G5 i))) w):c.wp P Q (mk n σ) w:=by
 refine wp_mono h1 fun e a w h=>?_
 cases e<;>simp only[Exit.mid]at h
 case normal=>obtain⟨i,τ,rfl,hA⟩:=h;exact h2 i τ w hA
 all_goals exact h
theorem Al{G5:ι->List (Nat×Value)}{A:ι->World->Prop}(i:ι)(hp:fits σ (G5 i))(hA:A i w):IG n G5 A (mk n σ) w:=
 ⟨i,σ,by rw[rE σ _ hp],hA⟩
theorem IH(p:Nat->Prop):∀k,p k->∃m,p m/\∀j,p j->m<=j:=by
 intro k
 induction k using Nat.strongRecOn with
|_ k ih=>
  intro hk
  by_cases h:∃j,j<k/\p j
  ·obtain⟨j,hj,hp⟩:=h;exact ih j hj hp
  ·exact⟨k,hk,fun j hj=>yI fun hlt=>h ⟨j,hlt,hj⟩⟩
theorem y7{c:Code}(G5:ι->List (Nat×Value))(A:ι->World->Prop)(μ:ι->Nat)(i:ι)(hp:fits σ (G5 i))(hA:A i w)
  (h:∀i τ w,A i w->c.wp P (Exit.then (nQ n G5 A μ (μ i)) Q) (mk n (l7 τ (G5 i))) w):
  (Code.loop c).wp P Q (mk n σ) w:=by
 classical
 let I:Act->World->Prop:=fun a w=>∃i τ,a=mk n (l7 τ (G5 i))/\A i w
 let p:Act->World->Nat->Prop:=fun a w k=>∃i τ,a=mk n (l7 τ (G5 i))/\A i w/\μ i=k
 have ex:∀a w,I a w->∃m,p a w m/\∀k,p a w k->m<=k:=fun a w ⟨i,τ,h1,h2⟩=>IH (p a w) (μ i) ⟨i,τ,h1,h2,rfl⟩
 let M:Act->World->Nat:=fun a w=>if h:I a w then Classical.choose (ex a w h) else 0
 have hM:∀a w,I a w->p a w (M a w)/\∀k,p a w k->M a w<=k:=fun a w h=>by
  have e:M a w=Classical.choose (ex a w h):=dif_pos h
  rw[e]
  exact Classical.choose_spec (ex a w h)
 refine wp_loop I M ⟨i,σ,by rw[rE σ _ hp],hA⟩ ?_;intro a w hI
 obtain⟨⟨i,τ,rfl,hAi,hμ⟩,_⟩:=hM a w hI
 refine wp_mono (h i τ w hAi) fun e a' w' hq=>?_
 cases e<;>simp only[Exit.then]at hq ⊢
 case normal=>
  obtain⟨j,τ',rfl,hAj,hlt⟩:=hq
  have pT:I (mk n (l7 τ' (G5 j))) w':=⟨j,τ',rfl,hAj⟩
  exact⟨pT,Nat.lt_of_le_of_lt ((hM _ _ pT).2 _ ⟨j,τ',rfl,hAj,rfl⟩) (hμ▸hlt)⟩
 all_goals exact hq
theorem U4{G5:ι->List (Nat×Value)}{A:ι->World->Prop}{μ:ι->Nat}(j:ι)(hp:fits σ (G5 j))(hA:A j w)(hμ:μ j<m):
  nQ n G5 A μ m (mk n σ) w:=⟨j,σ,by rw[rE σ _ hp],hA,hμ⟩
theorem CO{R:Ending->World->Prop}(h:fn.results= #[])(hR:R (.returned (.tuple #[])) w):bodyPost P fn R .ret (mk n σ) w:=
 ⟨rfl,_,results_none h _ _ _,hR⟩
theorem v8{R:Ending->World->Prop}{t:Tmp}{v:Value}(h:fn.results= #[.tmp t])(hv:ev n σ (.tmp t)=v)(hR:R (.returned v) w):bodyPost P fn R .ret (mk n σ) w:=
 ⟨rfl,_,results_tmp h _ _ _,by rw[<-hv, <-lM]at hR;exact hR⟩
theorem II{R:Ending->World->Prop}{a:Act}(h:bodyPost P fn R .ret a w):bodyPost P fn R .normal a w:=h
theorem G6{op:Op}{v:Value}(I2:(execOp (ev n σ) ⟨some d,op,ty,pos,aft,g⟩).run P w=.ok (.value v) w')
  (h:K (mk n (up σ d v)) w'):Oper.wp P ⟨some d,op,ty,pos,aft,g⟩ (mk n σ) w K Q:=by
 unfold Oper.wp
 rw[W6,I2,BX]
 show K ((mk n σ).put (some d) v) w'
 rw[eF]
 exact h
theorem CP{op:Op}(I2:(execOp (ev n σ) ⟨none,op,ty,pos,aft,g⟩).run P w=.ok .skip w')
  (h:K (mk n σ) w'):Oper.wp P ⟨none,op,ty,pos,aft,g⟩ (mk n σ) w K Q:=by
 unfold Oper.wp
 rw[W6,I2,Oper.upon_skip]
 exact h
theorem E8{x:Operand}(h:K (mk n (up σ d (ev n σ x))) w):Oper.wp P ⟨some d,.move x,ty,pos,aft,g⟩ (mk n σ) w K Q:=
 G6 (by simp[execOp]) h
theorem U5{x:Operand}(h:K (mk n (up σ d (ev n σ x))) w):Oper.wp P ⟨some d,.assign x,ty,pos,aft,g⟩ (mk n σ) w K Q:=
 G6 (by simp[execOp]) h
theorem Am{c x y:Operand}{b:Bool}(hc:ev n σ c=.bool b)(h:K (mk n (up σ d (bif b then ev n σ x else ev n σ y))) w):
  Oper.wp P ⟨some d,.pick c x y,ty,pos,aft,g⟩ (mk n σ) w K Q:=
 G6 (by cases b<;>simp[execOp,hc,asBool]) h
theorem rF{x:Operand}{a:Addr}(hx:ev n σ x=.pointer (some a))(h:K (mk n (up σ d (.pointer (some a)))) w):
  Oper.wp P ⟨some d,.nilCheck x,ty,pos,aft,g⟩ (mk n σ) w K Q:=
 G6 (by simp[execOp,hx]) h
theorem An{x:Operand}{b:Bool}{t:TypeId}(hx:ev n σ x=.bool b)(h:K (mk n (up σ d (.bool (!b)))) w):
  Oper.wp P ⟨some d,.unOp .not t x,ty,pos,aft,g⟩ (mk n σ) w K Q:=
 G6 (by simp[execOp,hx,Op.unary]) h
theorem Ao{f:FuncId}{fn:Func}{args:Array Operand}{vs:Array Value}(hf:P.funcs[f]? =some fn)(hb:fn.body.isSome=true)(fA:(fn.name == "runtime.NumGoroutine")=false)
  (ha:args.map (ev n σ)=vs)
  (h:Calls P f vs w fun e w'=>match e with|.returned v=>K (mk n (up σ d v)) w'|_=>False):
  Oper.wp P ⟨some d,.call ⟨.value (.func f),args,V9⟩,ty,pos,aft,g⟩ (mk n σ) w K Q:=by
 unfold Oper.wp
 rw[W6]
 have hn:fn.body≠none:=by cases hh:fn.body<;>simp_all
 have P0:fn.name≠ "runtime.NumGoroutine" :=by intro e;simp[e]at fA
 have:(execOp (ev n σ) ⟨some d,.call ⟨.value (.func f),args,V9⟩,ty,pos,aft,g⟩).run P w=.ok (.enter f vs) w:=by
  simp[execOp,resolve,ev,Deferred.ofValue,invoke,callFunc,hf,P0,hn,ha]
 rw[this,Oper.upon_enter]
 refine h.mono fun e w' he=>?_
 cases e<;>simp only at he ⊢
 rw[eF];exact he
end
theorem nS(n:Nat)(σ:Nat->Value):(mk n σ).defers=[]:=rfl
theorem rH(n:Nat)(σ:Nat->Value)(t:Nat):(mk n σ).tmps.getD t undef=ev n σ (.tmp t):=lM n σ (.tmp t)
attribute [irreducible] mk IG nQ
abbrev VI(a:Int):Value:=.int .i64 a
abbrev V8(x:UInt8):Value:=.int .u8 (x.toNat:Int)
abbrev E9(x:UInt32):Value:=.int .u32 (x.toNat:Int)
abbrev L9(x:UInt64):Value:=.int .u64 (x.toNat:Int)
theorem wrap_i64{n:Int}(h1: -9223372036854775808<=n)(h2:n<=9223372036854775807):i64.wrap n=n:=by
 exact IntWalk.i64_in n ⟨h1,h2⟩
theorem IJ(hk:k.signed=false)(n:Int):k.wrap n=n % (2 ^ k.bits:Int):=by
 simp[IntKind.wrap,hk]
theorem run_equal_bool{t:TypeId}(hu:P.underlying t=some .bool)(a b:Bool)(w:World):(Op.equal t (.bool a) (.bool b)).run P w=.ok (a==b) w:=by
 unfold Op.equal Op.maxDepth Op.equalIn
 rw[D1,run_underlying hu]
 simp
section
variable {P:Program} {Q:Exit->Act->World->Prop} {n:Nat} {σ:Nat->Value} {w:World} {K:Act->World->Prop}
 {ty:TypeId} {pos:String} {aft:Array Edge} {g:Option (Nat×Bool)} {d:Nat} {t yt:TypeId} {x y:Operand} {op:BinOp}
theorem J2{a b:Int}{v:Value}(hx:ev n σ x=.int k a)(hy:ev n σ y=.int k b)
  (hr:∀w:World,(binOp op t (.int k a) (.int k b)).run P w=.ok v w)(h:K (mk n (up σ d v)) w):
  Oper.wp P ⟨some d,.binOp op t x y yt,ty,pos,aft,g⟩ (mk n σ) w K Q:=
 G6 (by
  have he:(eqGuard op t x y (.int k a) (.int k b)).run P w=.ok () w:=by
   unfold eqGuard
   cases op<;>simp
  simp[execOp,hx,hy,he,hr]) h
theorem rI{yk:IntKind}{a b:Int}{v:Value}(hx:ev n σ x=.int k a)(hy:ev n σ y=.int yk b)(ho:op=.shl\/op=.shr)
  (hr:∀w:World,(Op.shift op k a yk b).run P w=.ok v w)(h:K (mk n (up σ d v)) w):
  Oper.wp P ⟨some d,.binOp op t x y yt,ty,pos,aft,g⟩ (mk n σ) w K Q:=
 G6 (by
  rcases ho with rfl|rfl<;>simp[execOp,hx,hy,eqGuard,binOp,hr]) h
theorem rJ{a:Int}{ds:TypeDesc}{v:Int}(hs:P.underlying t=some ds)(hd:P.underlying yt=some (.int k'))(hx:ev n σ x=.int k a)
  (hr:k'.wrap a=v)(h:K (mk n (up σ d (.int k' v))) w):
  Oper.wp P ⟨some d,.convert t yt x,ty,pos,aft,g⟩ (mk n σ) w K Q:=
 G6 (by
  have h1:(underlying t).run P w=.ok ds w:=run_underlying hs w
  have h2:(underlying yt).run P w=.ok (.int k') w:=run_underlying hd w
  cases ds<;>simp[execOp,hx,convert,h1,h2,Conv.intToInt,hr]) h
end
section
variable {P:Program} {w:World} {t:TypeId}
theorem Z7{a b:Int}(h1: -9223372036854775808<=a+b)(h2:a+b<=9223372036854775807):(binOp .add t (VI a) (VI b)).run P w=.ok (VI (a+b)) w:=by
 simp[binOp,Op.intArith,wrap_i64 h1 h2]
theorem fS{a b:Int}(h1: -9223372036854775808<=a-b)(h2:a-b<=9223372036854775807):(binOp .sub t (VI a) (VI b)).run P w=.ok (VI (a-b)) w:=by
 simp[binOp,Op.intArith,wrap_i64 h1 h2]
theorem rK{a b:Int}(h1: -9223372036854775808<=a*b)(h2:a*b<=9223372036854775807):(binOp .mul t (VI a) (VI b)).run P w=.ok (VI (a*b)) w:=by
 simp[binOp,Op.intArith,wrap_i64 h1 h2]
theorem OE{a b:Int}(h1:0<=a)(h2:0<b):(binOp .rem t (.int k a) (.int k b)).run P w=.ok (.int k (a % b)) w:=by
 simp[binOp,Op.intDiv,Int.ne_of_gt h2,Int.tmod_eq_emod_of_nonneg h1]
theorem y8{a b:Int}:(binOp .lss t (.int k a) (.int k b)).run P w=.ok (.bool (decide (a<b))) w:=by simp[binOp,Op.intCmp]
theorem Ap{a b:Int}:(binOp .leq t (.int k a) (.int k b)).run P w=.ok (.bool (decide (a<=b))) w:=by simp[binOp,Op.intCmp]
theorem yW{a b:Int}:(binOp .gtr t (.int k a) (.int k b)).run P w=.ok (.bool (decide (b<a))) w:=by simp[binOp,Op.intCmp]
theorem IK{a b:Int}:(binOp .geq t (.int k a) (.int k b)).run P w=.ok (.bool (decide (b<=a))) w:=by simp[binOp,Op.intCmp]
theorem IL{a b:Int}:(binOp .eql t (.int k a) (.int k b)).run P w=.ok (.bool (decide (a=b))) w:=by
 simp[binOp,Op.intCmp];rfl
theorem CQ{a b:Int}:(binOp .neq t (.int k a) (.int k b)).run P w=.ok (.bool (decide (a≠b))) w:=by
 simp[binOp,Op.intCmp,bne];rfl
theorem yX(n:Int):u8.wrap n=n % 256:=by rw[IJ rfl];rfl
theorem IM(x:UInt8):x.toNat<256:=x.toNat_lt
theorem CR(x:UInt8):ofInt 8 (x.toNat:Int)=x.toBitVec:=by
 apply BitVec.eq_of_toNat_eq;simp[BitVec.toNat_ofInt]
theorem OF(x:UInt8):u8.wrap ((x.toBitVec.toNat:Nat):Int)=(x.toNat:Int):=by
 have:=IM x
 rw[yX];simp;omega
theorem Aq{x y:UInt8}:(binOp .or t (V8 x) (V8 y)).run P w=.ok (V8 (x|||y)) w:=by
 have h:=OF (x|||y)
 have e:binOp .or t (V8 x) (V8 y)=Sem.pure (.int .u8 (u8.wrap ((ofInt 8 (x.toNat:Int)|||ofInt 8 (y.toNat:Int)).toNat:Nat))):=rfl
 simp only[UInt8.toBitVec_or]at h
 rw[e,CR,CR,h];rfl
theorem IN{x y:UInt8}:(binOp .xor t (V8 x) (V8 y)).run P w=.ok (V8 (x^^^y)) w:=by
 have h:=OF (x^^^y)
 have e:binOp .xor t (V8 x) (V8 y)=Sem.pure (.int .u8 (u8.wrap ((ofInt 8 (x.toNat:Int)^^^ofInt 8 (y.toNat:Int)).toNat:Nat))):=rfl
 simp only[UInt8.toBitVec_xor]at h
 rw[e,CR,CR,h];rfl
theorem CS(n:Int):u32.wrap n=n % 4294967296:=by rw[IJ rfl];rfl
theorem Ar(x:UInt32):x.toNat<4294967296:=x.toNat_lt
theorem iM{x y:UInt32}:(binOp .add t (E9 x) (E9 y)).run P w=.ok (E9 (x+y)) w:=by
 have:((x+y).toNat:Int)=(x.toNat+y.toNat:Int) % 4294967296:=by rw[UInt32.toNat_add];simp
 simp[binOp,Op.intArith,CS,this]
theorem rM(x:UInt32):ofInt 32 (x.toNat:Int)=x.toBitVec:=by
 apply BitVec.eq_of_toNat_eq;simp[BitVec.toNat_ofInt]
theorem CT(x:UInt32):u32.wrap ((x.toBitVec.toNat:Nat):Int)=(x.toNat:Int):=by
 have:=Ar x
 rw[CS];simp;omega
theorem yY{x y:UInt32}:(binOp .and t (E9 x) (E9 y)).run P w=.ok (E9 (x&&&y)) w:=by
 have h:=CT (x&&&y)
 have e:binOp .and t (E9 x) (E9 y)=Sem.pure (.int .u32 (u32.wrap ((ofInt 32 (x.toNat:Int)&&&ofInt 32 (y.toNat:Int)).toNat:Nat))):=rfl
 simp only[UInt32.toBitVec_and]at h
 rw[e,rM,rM,h];rfl
theorem CU{x y:UInt32}:(binOp .or t (E9 x) (E9 y)).run P w=.ok (E9 (x|||y)) w:=by
 have h:=CT (x|||y)
 have e:binOp .or t (E9 x) (E9 y)=Sem.pure (.int .u32 (u32.wrap ((ofInt 32 (x.toNat:Int)|||ofInt 32 (y.toNat:Int)).toNat:Nat))):=rfl
 simp only[UInt32.toBitVec_or]at h
 rw[e,rM,rM,h];rfl
theorem iN{x y:UInt32}:(binOp .xor t (E9 x) (E9 y)).run P w=.ok (E9 (x^^^y)) w:=by
 have h:=CT (x^^^y)
 have e:binOp .xor t (E9 x) (E9 y)=Sem.pure (.int .u32 (u32.wrap ((ofInt 32 (x.toNat:Int)^^^ofInt 32 (y.toNat:Int)).toNat:Nat))):=rfl
 simp only[UInt32.toBitVec_xor]at h
 rw[e,rM,rM,h];rfl
theorem As{x:UInt32}:(Op.unary .xor (E9 x)).run P w=.ok (E9 (~~~x)) w:=by
 have h:=CT (~~~x)
 have e1:ofInt 32 u32.max^^^x.toBitVec= ~~~x.toBitVec:=by
  have:ofInt 32 u32.max=BitVec.allOnes 32:=by decide
  rw[this,BitVec.allOnes_xor]
 have e:Op.unary .xor (E9 x)=Sem.pure (.int .u32 (u32.wrap ((ofInt 32 u32.max^^^ofInt 32 (x.toNat:Int)).toNat:Nat))):=rfl
 simp only[UInt32.toBitVec_not]at h
 rw[e,rM,e1,h];rfl
theorem CV{x:UInt32}{yk:IntKind}{c:Int}(h0:0<=c)(h1:c<32):(Op.shift .shl .u32 (x.toNat:Int) yk c).run P w=.ok (E9 (x<<<UInt32.ofNat c.toNat)) w:=by
 obtain⟨m,rfl⟩:=pI h0
 have hm:m<32:=by omega
 have e:((x<<<UInt32.ofNat m).toNat:Int)=((x.toNat:Int)*2 ^ m) % 4294967296:=by
  rw[UInt32.toNat_shiftLeft]
  have:(UInt32.ofNat m).toNat % 32=m:=by rw[UInt32.toNat_ofNat'];omega
  rw[this,Nat.shiftLeft_eq];simp
 have e2:Op.shift .shl .u32 (x.toNat:Int) yk (m:Int)=Sem.pure (.int .u32 (u32.wrap ((x.toNat:Int)*2 ^ (min (m:Int).toNat 32)))):=by
  unfold Op.shift
  rw[if_neg (by omega)];rfl
 rw[e2,jI,jJ (Nat.le_of_lt hm),CS, <-e];rfl
theorem CW{x:UInt32}{yk:IntKind}{c:Int}(h0:0<=c)(h1:c<32):(Op.shift .shr .u32 (x.toNat:Int) yk c).run P w=.ok (E9 (x>>>UInt32.ofNat c.toNat)) w:=by
 obtain⟨m,rfl⟩:=pI h0
 have hm:m<32:=by omega
 have e:((x>>>UInt32.ofNat m).toNat:Int)=(x.toNat:Int) / 2 ^ m:=by
  rw[UInt32.toNat_shiftRight]
  have:(UInt32.ofNat m).toNat % 32=m:=by rw[UInt32.toNat_ofNat'];omega
  rw[this,NU];simp
 have e3:(x.toNat:Int).fdiv (2 ^ m)=(x.toNat:Int) / 2 ^ m:=by
  rw[HM];exact Int.le_of_lt (Int.pow_pos (by omega))
 have e2:Op.shift .shr .u32 (x.toNat:Int) yk (m:Int)=Sem.pure (.int .u32 ((x.toNat:Int).fdiv (2 ^ (min (m:Int).toNat 32)))):=by
  unfold Op.shift
  rw[if_neg (by omega)];rfl
 rw[e2,jI,jJ (Nat.le_of_lt hm),e3, <-e];rfl
theorem lN(n:Int):u64.wrap n=n % 18446744073709551616:=by rw[IJ rfl];rfl
theorem CX(x:UInt64):x.toNat<18446744073709551616:=x.toNat_lt
theorem Au{x y:UInt64}:(binOp .add t (L9 x) (L9 y)).run P w=.ok (L9 (x+y)) w:=by
 have:((x+y).toNat:Int)=(x.toNat+y.toNat:Int) % 18446744073709551616:=by rw[BY];simp
 simp[binOp,Op.intArith,lN,this]
theorem Av{x y:UInt64}:(binOp .sub t (L9 x) (L9 y)).run P w=.ok (L9 (x-y)) w:=by
 have hx:=CX x
 have hy:=CX y
 have:((x-y).toNat:Int)=(x.toNat-y.toNat:Int) % 18446744073709551616:=by rw[UInt64.toNat_sub];omega
 simp[binOp,Op.intArith,lN,this]
theorem Aw{x y:UInt64}:(binOp .mul t (L9 x) (L9 y)).run P w=.ok (L9 (x*y)) w:=by
 have:((x*y).toNat:Int)=(x.toNat*y.toNat:Int) % 18446744073709551616:=by rw[UInt64.toNat_mul];simp
 simp[binOp,Op.intArith,lN,this]
theorem OG(x:UInt64):ofInt 64 (x.toNat:Int)=x.toBitVec:=by
 apply BitVec.eq_of_toNat_eq;simp[BitVec.toNat_ofInt]
theorem Ax(x:UInt64):u64.wrap ((x.toBitVec.toNat:Nat):Int)=(x.toNat:Int):=by
 have:=CX x
 rw[lN];simp;omega
theorem Ay{x y:UInt64}:(binOp .and t (L9 x) (L9 y)).run P w=.ok (L9 (x&&&y)) w:=by
 have h:=Ax (x&&&y)
 have e:binOp .and t (L9 x) (L9 y)=Sem.pure (.int .u64 (u64.wrap ((ofInt 64 (x.toNat:Int)&&&ofInt 64 (y.toNat:Int)).toNat:Nat))):=rfl
 simp only[UInt64.toBitVec_and]at h
 rw[e,OG,OG,h];rfl
theorem Az{x:UInt64}{yk:IntKind}{c:Int}(h0:0<=c)(h1:c<64):(Op.shift .shl .u64 (x.toNat:Int) yk c).run P w=.ok (L9 (x<<<UInt64.ofNat c.toNat)) w:=by
 obtain⟨m,rfl⟩:=pI h0
 have hm:m<64:=by omega
 have e:((x<<<UInt64.ofNat m).toNat:Int)=((x.toNat:Int)*2 ^ m) % 18446744073709551616:=by
  rw[UInt64.toNat_shiftLeft]
  have:(UInt64.ofNat m).toNat % 64=m:=by rw[aH];omega
  rw[this,Nat.shiftLeft_eq];simp
 have e2:Op.shift .shl .u64 (x.toNat:Int) yk (m:Int)=Sem.pure (.int .u64 (u64.wrap ((x.toNat:Int)*2 ^ (min (m:Int).toNat 64)))):=by
  unfold Op.shift
  rw[if_neg (by omega)];rfl
 rw[e2,jI,jJ (Nat.le_of_lt hm),lN, <-e];rfl
theorem OH{x:UInt64}{yk:IntKind}{c:Int}(h0:0<=c)(h1:c<64):(Op.shift .shr .u64 (x.toNat:Int) yk c).run P w=.ok (L9 (x>>>UInt64.ofNat c.toNat)) w:=by
 obtain⟨m,rfl⟩:=pI h0
 have hm:m<64:=by omega
 have e:((x>>>UInt64.ofNat m).toNat:Int)=(x.toNat:Int) / 2 ^ m:=by
  rw[UInt64.toNat_shiftRight]
  have:(UInt64.ofNat m).toNat % 64=m:=by rw[aH];omega
  rw[this,NU];simp
 have e3:(x.toNat:Int).fdiv (2 ^ m)=(x.toNat:Int) / 2 ^ m:=by
  rw[HM];exact Int.le_of_lt (Int.pow_pos (by omega))
 have e2:Op.shift .shr .u64 (x.toNat:Int) yk (m:Int)=Sem.pure (.int .u64 ((x.toNat:Int).fdiv (2 ^ (min (m:Int).toNat 64)))):=by
  unfold Op.shift
  rw[if_neg (by omega)];rfl
 rw[e2,jI,jJ (Nat.le_of_lt hm),e3, <-e];rfl
theorem CY(x:UInt8):u32.wrap (x.toNat:Int)=(x.toUInt32.toNat:Int):=by
 have:=IM x
 rw[CS,UInt8.toNat_toUInt32];omega
theorem IP(x:UInt8):u8.wrap (x.toNat:Int)=(x.toNat:Int):=by
 have:=IM x
 rw[yX];omega
theorem IQ(x:UInt64):u8.wrap (x.toNat:Int)=(x.toUInt8.toNat:Int):=by
 rw[yX,UInt64.toNat_toUInt8];simp
theorem Ba(x:UInt32):u8.wrap (x.toNat:Int)=(x.toUInt8.toNat:Int):=by
 rw[yX,UInt32.toNat_toUInt8];simp
theorem Bb{a:Int}(h0:0<=a):u64.wrap a=((UInt64.ofNat a.toNat).toNat:Int):=by
 obtain⟨m,rfl⟩:=pI h0
 rw[lN,aH];simp
end
section
variable {n:Nat} {σ:Nat->Value}
theorem c8(k:Nat)(h:k<256):ev n σ (.const (.int .u8 (k:Int)))=V8 (UInt8.ofNat k):=by
 simp only[ev,V8,UInt8.toNat_ofNat']
 congr 1;omega
theorem Zy(k:Nat)(h:k<4294967296):ev n σ (.const (.int .u32 (k:Int)))=E9 (UInt32.ofNat k):=by
 simp only[ev,E9,UInt32.toNat_ofNat']
 congr 1;omega
theorem yZ(k:Nat)(h:k<18446744073709551616):ev n σ (.const (.int .u64 (k:Int)))=L9 (UInt64.ofNat k):=by
 simp only[ev,L9,aH]
 congr 1;omega
end
inductive Ch where
|blk (b:Nat) (C:List Value) (T:TypeId)
|own (a:Option Nat) (len cap:Nat) (xs:List Value) (T:TypeId) (sz:Nat)
|obj (b:Nat) (o:Go.Obj)
def Ch.key:Ch->Option Nat
|.blk b _ _=>some b
|.own a _ _ _ _ _=>a
|.obj b _=>some b
def Ch.ok(w:World):Ch->Prop
|.blk b C T=>w.heap[b]? =some (.cells C.toArray T (0,0))
|.own none len cap xs _ _=>len=0/\cap=0/\xs=[]
|.own (some b) len cap xs T sz=>xs.length=len*sz/\len<=cap/\cap<=maxLen/\∃rest,w.heap[b]? =some (.cells (xs++rest).toArray T (0,0))/\(xs++rest).length=cap*sz
|.obj b o=>w.heap[b]? =some o
def hd(a:Option Nat):Option Addr:=a.map fun b=>⟨b,0,none⟩
theorem Ch.ok_of{c:Ch}(h:c.ok w)(he:∀b,c.key=some b->w'.heap[b]? =w.heap[b]?):c.ok w':=by
 cases c with
|blk b C T=>simp only[Ch.ok]at *;rw[he b rfl];exact h
|obj b o=>simp only[Ch.ok]at *;rw[he b rfl];exact h
|own a len cap xs T sz=>cases a with
 |none=>exact h
 |some b=>simp only[Ch.ok]at *;rw[he b rfl];exact h
theorem Ch.lt{c:Ch}(h:c.ok w){b:Nat}(hb:c.key=some b):b<w.heap.size:=by
 have cT:∀o,w.heap[b]? =some o->b<w.heap.size:=fun o ho=>(Z3.1 ho).1
 cases c with
|blk b' C T=>cases hb;exact cT _ h
|obj b' o=>cases hb;exact cT _ h
|own a len cap xs T sz=>cases a with
 |none=>cases hb
 |some b'=>cases hb;obtain⟨_,_,_,r,h,_⟩:=h;exact cT _ h
structure Hp (w0 w:World) (S:List Nat) (L:List Ch):Prop where
 os:w.os=w0.os
 tape:w.tape=w0.tape
 output:w.output=w0.output
 size:w0.heap.size<=w.heap.size
 frame:∀b,b<w0.heap.size->b∉S->w.heap[b]? =w0.heap[b]?
 has:∀c∈L,c.ok w
 fresh:∀c∈L,∀b,c.key=some b->b∈S\/w0.heap.size<=b
 nd:L.Pairwise fun c e=>∀b,c.key=some b->e.key≠some b
theorem Hp.refl(w:World)(S:List Nat):Hp w w S []:=⟨rfl,rfl,rfl,B5 _,fun _ _ _=>rfl,(by simp),(by simp),.nil⟩
theorem Hp.start(w:World)(c:Ch)(b:Nat)(h:c.ok w)(hk:c.key=some b):Hp w w [b] [c]:=
 ⟨rfl,rfl,rfl,B5 _,fun _ _ _=>rfl,(by simpa using h),(by simp[hk]),by simp⟩
theorem Hp.drew{S L}(h:Hp w0 w S L):Hp w0 w.drew S L:=
 ⟨h.os,h.tape,h.output,h.size,h.frame,fun c hc=>Ch.ok_of (h.has c hc) (fun _ _=>rfl),h.fresh,h.nd⟩
theorem Hp.sub{S L L'}(h:Hp w0 w S L)(hs:L'.Sublist L):Hp w0 w S L':=
 ⟨h.os,h.tape,h.output,h.size,h.frame,fun c hc=>h.has c (hs.subset hc),fun c hc=>h.fresh c (hs.subset hc),h.nd.sublist hs⟩
theorem Hp.below{L}(h:Hp w0 w [] L):RowKit.Below w0.heap.size w0 w:=⟨h.os,h.tape,h.output,h.size,fun k hk=>h.frame k hk (by simp)⟩
theorem i8(w:World)(o:Go.Obj):(w.alloc o).heap[w.heap.size]? =some o:=heap_alloc_new w o
theorem fT(w:World)(o:Go.Obj)(k:Nat)(h:k≠w.heap.size):(w.alloc o).heap[k]? =w.heap[k]? :=by
 show(w.heap.push o)[k]? =_
 rw[Array.getElem?_push,if_neg h]
theorem Hp.new{S L}(h:Hp w0 w S L)(o:Go.Obj)(c:Ch)(hk:c.key=some w.heap.size)(hc:c.ok (w.alloc o)):Hp w0 (w.alloc o) S (L++[c]):=by
 refine⟨h.os,h.tape,h.output,?_,?_,?_,?_,?_⟩
 ·have:=h.size;simp;omega
 ·intro b hb hn
  rw[fT _ _ _ (by have:=h.size;omega)]
  exact h.frame b hb hn
 ·intro e he
  rcases R9.1 he with he|he
  ·exact Ch.ok_of (h.has e he) fun b hb=>fT _ _ _ (by have:=Ch.lt (h.has e he) hb;omega)
  ·simp at he;subst he;exact hc
 ·intro e he b hb
  rcases R9.1 he with he|he
  ·exact h.fresh e he b hb
  ·simp at he;subst he;rw[hk]at hb;cases hb;exact .inr h.size
 ·rw[HO]
  refine⟨h.nd,by simp,fun e he f hf b hb=>?_⟩
  simp at hf;subst hf
  rw[hk];intro e';cases e'
  have:=Ch.lt (h.has e he) hb;omega
theorem Hp.alloc{S L}(h:Hp w0 w S L)(C:List Value)(T:TypeId):Hp w0 (w.alloc (.cells C.toArray T)) S (L++[.blk w.heap.size C T]):=
 h.new _ _ rfl (i8 w _)
theorem IR{L:List α}{c e:α}(h:e∈L.set i c):e=c\/∃j,j≠i/\L[j]? =some e:=by
 obtain⟨j,hj⟩:=BZ h
 by_cases cU:i=j
 ·subst cU
  rw[List.getElem?_set]at hj
  simp at hj
  exact .inl hj.2.symm
 ·rw[List.getElem?_set_ne cU]at hj
  exact .inr ⟨j,Ne.symm cU,hj⟩
theorem IS{L:List Ch}(h:L.Pairwise fun c e=>∀b,c.key=some b->e.key≠some b){c e:Ch}(hi:L[i]? =some c)(hj:L[j]? =some e)(cU:i≠j){b:Nat}(hb:c.key=some b):e.key≠some b:=by
 rw[List.pairwise_iff_getElem]at h
 obtain⟨H7,rfl⟩:=N0.1 hi
 obtain⟨hj',rfl⟩:=N0.1 hj
 rcases HP cU with hlt|hlt
 ·exact h i j H7 hj' hlt b hb
 ·intro he
  exact h j i hj' H7 hlt b he hb
theorem Hp.turn{S L}(h:Hp w0 w S L){c c':Ch}(hi:L[i]? =some c)(M3:c'.ok w')(hk:∀b,c'.key=some b->c.key=some b\/w.heap.size<=b)
  (hos:w'.os=w.os)(htape:w'.tape=w.tape)(t7:w'.output=w.output)(K6:w.heap.size<=w'.heap.size)
  (hother:∀b,b<w.heap.size->c.key≠some b->w'.heap[b]? =w.heap[b]?):Hp w0 w' S (L.set i c'):=by
 have mS:=E3 hi
 refine⟨hos.trans h.os,htape.trans h.tape,t7.trans h.output,N1 h.size K6,?_,?_,?_,?_⟩
 ·intro b hb hn
  rw[hother b (X5 hb h.size) ?_,h.frame b hb hn]
  intro hc
  rcases h.fresh c mS b hc with h1|h1
  ·exact hn h1
  ·omega
 ·intro e he
  rcases IR he with rfl|⟨j,hj,hje⟩
  ·exact M3
  ·have hm:=E3 hje
   refine Ch.ok_of (h.has e hm) fun b hb=>hother b (Ch.lt (h.has e hm) hb) fun hc=>?_
   exact IS h.nd hi hje (Ne.symm hj) hc hb
 ·intro e he b hb
  rcases IR he with rfl|⟨j,hj,hje⟩
  ·rcases hk b hb with h1|h1
   ·exact h.fresh c mS b h1
   ·exact .inr (N1 h.size h1)
  ·exact h.fresh e (E3 hje) b hb
 ·rw[List.pairwise_iff_getElem]
  intro j k hj g7 hlt b hb
  simp only[List.length_set]at hj g7
  have key:∀m (hm:m<L.length),m≠i->(L[m]).key=some b->c'.key≠some b:=fun m hm D6 I3 hc'=>by
   have hmok:=h.has _ (dS hm)
   rcases hk b hc' with h1|h1
   ·exact IS h.nd hi (B7 hm) (Ne.symm D6) h1 I3
   ·have:=Ch.lt hmok I3;omega
  rw[List.getElem_set]at hb ⊢
  by_cases h1:i=j
  ·rw[if_pos h1]at hb
   rw[if_neg (by omega)]
   intro he
   exact key k g7 (by omega) he hb
  ·rw[if_neg h1]at hb
   by_cases h2:i=k
   ·rw[if_pos h2];exact key j hj (Ne.symm h1) hb
   ·rw[if_neg h2]
    exact(List.pairwise_iff_getElem.1 h.nd) j k hj g7 hlt b hb
theorem Hp.row{S L}(h:Hp w0 w S L){b:Nat}{c c':Ch}{C':List Value}{T:TypeId}(hi:L[i]? =some c)(hk:c.key=some b)(g7:c'.key=some b)
  (hw:w.heap[b]? =some (.cells C.toArray T (0,0)))(M3:∀w':World,w'.heap[b]? =some (.cells C'.toArray T (0,0))->c'.ok w'):Hp w0 (w.setRow b C'.toArray) S (L.set i c'):=
 h.turn hi (M3 _ (setRow_heap w b _ _ T (0,0) hw)) (fun b' I3=>.inl (by rw[hk];rw[g7]at I3;exact I3)) rfl rfl rfl (by simp)
  (fun b' _ D6=>setRow_other w b b' _ (fun e=>D6 (by rw[hk,e])))
theorem Hp.call{S L L'}(h:Hp w0 w S L)(hc:Hp w w' [] L'):Hp w0 w' S (L++L'):=by
 refine⟨hc.os.trans h.os,hc.tape.trans h.tape,hc.output.trans h.output,N1 h.size hc.size,?_,?_,?_,?_⟩
 ·intro b hb hn
  rw[hc.frame b (X5 hb h.size) (by simp),h.frame b hb hn]
 ·intro e he
  rcases R9.1 he with he|he
  ·exact Ch.ok_of (h.has e he) fun b hb=>hc.frame b (Ch.lt (h.has e he) hb) (by simp)
  ·exact hc.has e he
 ·intro e he b hb
  rcases R9.1 he with he|he
  ·exact h.fresh e he b hb
  ·rcases hc.fresh e he b hb with h1|h1
   ·simp at h1
   ·exact .inr (N1 h.size h1)
 ·rw[HO]
  refine⟨h.nd,hc.nd,fun e he f hf b hb I3=>?_⟩
  rcases hc.fresh f hf b I3 with h1|h1
  ·simp at h1
  ·have:=Ch.lt (h.has e he) hb;omega
theorem Hp.callAt{S L L'}(h:Hp w0 w S L){b:Nat}{c c':Ch}(hi:L[i]? =some c)(hk:c.key=some b)(g7:c'.key=some b)(hc:Hp w w' [b] (c'::L')):Hp w0 w' S (L.set i c'++L'):=by
 have h1:Hp w0 w' S (L.set i c'):=h.turn hi (hc.has c' (by simp)) (fun b' I3=>.inl (by rw[hk];rw[g7]at I3;exact I3)) hc.os hc.tape hc.output hc.size
  (fun b' I3 D6=>hc.frame b' I3 (by simp;intro e;exact D6 (by rw[hk,e])))
 have gY:=List.pairwise_cons.1 hc.nd
 refine⟨h1.os,h1.tape,h1.output,h1.size,h1.frame,?_,?_,?_⟩
 ·intro e he
  rcases R9.1 he with he|he
  ·exact h1.has e he
  ·exact hc.has e (by simp[he])
 ·intro e he b' hb
  rcases R9.1 he with he|he
  ·exact h1.fresh e he b' hb
  ·rcases hc.fresh e (by simp[he]) b' hb with h2|h2
   ·simp at h2;subst h2;exact absurd hb (gY.1 e he _ g7)
   ·exact .inr (N1 h.size h2)
 ·rw[HO]
  refine⟨h1.nd,gY.2,fun e he f hf b' hb I3=>?_⟩
  rcases hc.fresh f (by simp[hf]) b' I3 with h2|h2
  ·simp at h2;subst h2;exact gY.1 f hf _ g7 I3
  ·rcases IR he with rfl|⟨j,hj,hje⟩
   ·rw[g7]at hb;cases hb;exact gY.1 f hf _ g7 I3
   ·have:=Ch.lt (h.has e (E3 hje)) hb;omega
def RdS(w:World)(a:Option Addr)(vs:List Value):Prop:=
 vs=[]\/∃b o C T fr,a=some ⟨b,o,none⟩/\w.heap[b]? =some (.cells C T fr)/\∀i v,vs[i]? =some v->C[o+i]? =some v
def Apart(a:Option Addr)(S:List Nat):Prop:=∀x,a=some x->x.block∉S
theorem U6(a:Option Addr):Apart a []:=fun _ _=>by simp
theorem RdS.nil(w:World)(a:Option Addr):RdS w a []:=.inl rfl
theorem RdS.of_heap{a:Option Addr}(h:RdS w a vs)(he:∀x,a=some x->x.block<w.heap.size->w'.heap[x.block]? =w.heap[x.block]?):RdS w' a vs:=by
 rcases h with h|⟨b,o,C,T,fr,ha,hb,hc⟩
 ·exact .inl h
 ·exact .inr ⟨b,o,C,T,fr,ha,by rw[he _ ha (Z3.1 hb).1];exact hb,hc⟩
theorem Hp.rd{S L}(h:Hp w0 w S L){a:Option Addr}(hr:RdS w0 a vs)(Y5:Apart a S):RdS w a vs:=
 hr.of_heap fun x hx hlt=>h.frame _ hlt (Y5 x hx)
theorem RdS.cell{a:Option Addr}(h:RdS w a vs){v:Value}(hv:vs[i]? =some v):∃b o,a=some ⟨b,o,none⟩/\w.cell? ⟨b,o+i,none⟩=some v:=by
 rcases h with rfl|⟨b,o,C,T,fr,ha,hb,hc⟩
 ·simp at hv
 ·exact⟨b,o,ha,by simp[World.cell?, hb,hc i v hv]⟩
theorem RdS.drop{a:Option Addr}(h:RdS w a vs)(k:Nat):RdS w (a.map (·.add k)) (vs.drop k):=by
 rcases h with rfl|⟨b,o,C,T,fr,rfl,hb,hc⟩
 ·exact .inl (by simp)
 ·refine .inr ⟨b,o+k,C,T,fr,?_,hb,fun i v hv=>?_⟩
  ·simp only[X6,Addr.add]
   by_cases hk:k=0
   ·subst hk;simp
   ·rw[if_neg hk]
  ·rw[Q1]at hv
   have:=hc (k+i) v hv
   rwa [<-O8]at this
theorem RdS.take{a:Option Addr}(h:RdS w a vs)(k:Nat):RdS w a (vs.take k):=by
 rcases h with rfl|⟨b,o,C,T,fr,rfl,hb,hc⟩
 ·exact .inl (by simp)
 ·refine .inr ⟨b,o,C,T,fr,rfl,hb,fun i v hv=>hc i v ?_⟩
  rw[r9]at hv
  split at hv
  ·exact hv
  ·cases hv
theorem Ch.rd_own{a:Option Nat}{T sz}(h:(Ch.own a len cap xs T sz).ok w):RdS w (hd a) xs:=by
 cases a with
|none=>exact .inl h.2.2
|some b=>
  obtain⟨_,_,_,rest,hb,_⟩:=h
  refine .inr ⟨b,0,_,T,(0,0),rfl,hb,fun i v hv=>?_⟩;have hi:i<xs.length:=(N0.1 hv).1
  simp[N7 hi,hv]
theorem Ch.rd_blk{b:Nat}{T}(h:(Ch.blk b C T).ok w)(o:Nat):RdS w (some ⟨b,o,none⟩) (C.drop o):=
 .inr ⟨b,o,_,T,(0,0),rfl,h,fun i v hv=>by simpa [Q1] using hv⟩
theorem Ch.rd_all{b:Nat}{T}(h:(Ch.blk b C T).ok w):RdS w (some ⟨b,0,none⟩) C:=by simpa using Ch.rd_blk h 0
theorem Hp.own{S L}(h:Hp w0 w S L){a:Option Nat}{T sz}(hi:L[i]? =some (.own a len cap xs T sz)):RdS w (hd a) xs:=
 Ch.rd_own (h.has _ (E3 hi))
theorem Hp.blk{S L}(h:Hp w0 w S L){b:Nat}{T}(hi:L[i]? =some (.blk b C T)):w.heap[b]? =some (.cells C.toArray T (0,0)):=
 h.has _ (E3 hi)
def O5(P:Program)(t:TypeId):Bool:=match P.underlying t with|some (.struct _)|some (.array _ _)=>false|some _=>true|none=>false
def T2(P:Program)(t:TypeId):Option Nat:=match P.underlying t with|some (.struct _)|some (.array _ _)=>(P.info? t).map (·.size)|_=>none
def K0(P:Program)(t:TypeId):Option Nat:=(P.info? t).map (·.size)
theorem nT{t:TypeId}(h:O5 P t=true)(w:World):(isAgg t).run P w=.ok false w:=by
 unfold O5 at h
 cases hu:P.underlying t with
|none=>simp[hu]at h
|some d=>cases d<;>simp_all[isAgg,run_underlying hu]
theorem IT{t:TypeId}{k:Nat}(h:T2 P t=some k)(w:World):(isAgg t).run P w=.ok true w:=by
 unfold T2 at h
 cases hu:P.underlying t with
|none=>simp[hu]at h
|some d=>cases d<;>simp_all[isAgg,run_underlying hu]
theorem IU{t:TypeId}{k:Nat}(h:T2 P t=some k):K0 P t=some k:=by
 unfold T2 at h
 cases hu:P.underlying t with
|none=>simp[hu]at h
|some d=>cases d<;>simp_all[K0]
theorem lO{t:TypeId}{k:Nat}(h:K0 P t=some k)(w:World):(sizeOf t).run P w=.ok k w:=by
 unfold K0 at h
 cases hi:P.info? t with
|none=>simp[hi]at h
|some i=>simp[hi]at h;simp[sizeOf,typeInfo,hi,h]
theorem Bc{b:Nat}{T:TypeId}{fr:Nat×Nat}(hb:w.heap[b]? =some (.cells C.toArray T fr))(k:Nat)(hk:o+k<=C.length):
  ∀i K7,(loadCellsFrom ⟨b,o,none⟩ i k K7).run P w=.ok (K7++((C.drop (o+i)).take k).toArray) w\/k+i+o > C.length:=by
 induction k with
|zero=>intro i K7;left;simp[loadCellsFrom]
|succ k ih=>
  intro i K7
  by_cases hlt:k+1+i+o > C.length
  ·exact .inr hlt
  ·left
   have cV:w.cell? ((⟨b,o,none⟩:Addr).add i)=some (C[o+i]'(by omega)):=by
    rw[gU];simp[World.cell?, hb]
    try rw[B7 (by omega)]
   rcases ih (by omega) (i+1) (K7.push (C[o+i]'(by omega))) with h|h
   ·simp only[loadCellsFrom,D1,run_load,cV,F6,h]
    congr 1
    have e1:C.drop (o+i)=C[o+i]'(by omega)::C.drop (o+i+1):=HQ (by omega)
    rw[e1,List.take_succ_cons]
    apply U0
    simp[O8]
   ·omega
theorem zB{b:Nat}{T:TypeId}{fr:Nat×Nat}{t:TypeId}{k:Nat}(hb:w.heap[b]? =some (.cells C.toArray T fr))(ht:T2 P t=some k)(hk:o+k<=C.length):
  (Instr.loadAt t (.pointer (some ⟨b,o,none⟩))).run P w=.ok (.agg ((C.drop o).take k).toArray) w:=by
 have h1:=IT ht w
 have h2:=lO (IU ht) w
 rcases Bc (P:=P) hb k hk 0 #[] with h|h
 ·simp[Instr.loadAt,Instr.sureAddr,loadVar,h1,h2,loadCells,h]
 ·omega
theorem rN{a:Addr}{t:TypeId}{v:Value}(ht:O5 P t=true)(hv:w.cell? a=some v):
  (Instr.loadAt t (.pointer (some a))).run P w=.ok v w:=by
 simp[Instr.loadAt,Instr.sureAddr,loadVar,nT ht w,hv]
theorem IV{b:Nat}{T:TypeId}{t:TypeId}{v:Value}(hb:w.heap[b]? =some (.cells C.toArray T (0,0)))
  (hs:K0 P t=some v.cells.size)(hk:o+v.cells.size<=C.length)(h1:v.cells.all (·.oneCell')=true):
  (Instr.storeAt t (.pointer (some ⟨b,o,none⟩)) v).run P w=.ok () (w.setRow b (C.take o++v.cells.toList++C.drop (o+v.cells.size)).toArray):=by
 have h2:=lO hs w
 have h3:=run_storeCells_at (P:=P) b o T v.cells.toList 0 C.toArray w hb (by simpa using hk) (fun x hx=>by
  rw[Array.mem_toList_iff]at hx
  obtain⟨i,hi,rfl⟩:=Array.getElem_of_mem hx
  exact(Array.all_eq_true.1 h1) i hi)
 simp only[s9,t1]at h3
 simp only[I0]at h3 ⊢
 simp[Instr.storeAt,Instr.sureAddr,storeVar,h2,h3]
section
variable {P:Program} {Q:Exit->Act->World->Prop} {n:Nat} {σ:Nat->Value} {w w0:World} {K:Act->World->Prop}
 {ty:TypeId} {pos:String} {aft:Array Edge} {g:Option (Nat×Bool)} {d:Nat} {t yt:TypeId} {x y:Operand} {S:List Nat} {L:List Ch}
def zeroCells(P:Program)(t:TypeId):Option (List Value):=(P.info? t).bind fun i=>i.zero.map fun v=>v.cells.toList
theorem OI(h:zeroCells P t=some C)(w:World):∃z,(zeroValue t).run P w=.ok z w/\z.cells=C.toArray:=by
 unfold zeroCells at h
 cases hi:P.info? t with
|none=>simp[hi]at h
|some i=>
  cases hz:i.zero with
 |none=>simp[hi,hz]at h
 |some z=>simp[hi,hz]at h;exact⟨z,by simp[zeroValue,typeInfo,hi,hz],by rw[<-h]⟩
theorem W8(H:Hp w0 w S L)(hz:zeroCells P t=some C)
  (h:∀b w',Hp w0 w' S (L++[.blk b C t])->w0.heap.size<=b->K (mk n (up σ d (.pointer (some ⟨b,0,none⟩)))) w'):
  Oper.wp P ⟨some d,.alloc t,ty,pos,aft,g⟩ (mk n σ) w K Q:=by
 obtain⟨z,pU,jN⟩:=OI hz w
 refine G6 (v:=.pointer (some ⟨w.heap.size,0,none⟩)) (w':=w.alloc (.cells C.toArray t)) ?_ (h _ _ (H.alloc C t) H.size)
 simp[execOp,Instr.alloc,pU,newVar,newRow,jN]
theorem zC{v:Value}(H:Hp w0 w S L)(hx:ev n σ x=v)
  (h:∀b w',Hp w0 w' S (L++[.blk b v.cells.toList t])->w0.heap.size<=b->K (mk n (up σ d (.pointer (some ⟨b,0,none⟩)))) w'):
  Oper.wp P ⟨some d,.box t x,ty,pos,aft,g⟩ (mk n σ) w K Q:=by
 refine G6 (v:=.pointer (some ⟨w.heap.size,0,none⟩)) (w':=w.alloc (.cells v.cells t)) ?_ (h _ _ (by simpa using H.alloc v.cells.toList t) H.size)
 simp[execOp,Instr.box,hx,newVar,newRow]
def aP(P:Program)(t:TypeId)(i:Nat):Option Nat:=
 match P.underlying t with
|some (.struct fs)=>(fs[i]?).bind fun f=>(P.info? f.type).bind fun j=>if j.size=0 then none else some f.offset
|_=>none
theorem nU{b k:Nat}(hx:ev n σ x=.pointer (some ⟨b,o,none⟩))(hf:aP P t i=some k)(h:K (mk n (up σ d (.pointer (some ⟨b,o+k,none⟩)))) w):
  Oper.wp P ⟨some d,.fieldAddr t x i,ty,pos,aft,g⟩ (mk n σ) w K Q:=by
 refine G6 ?_ h
 unfold aP at hf
 cases hu:P.underlying t with
|none=>simp[hu]at hf
|some ds=>
  cases ds<;>simp only[hu]at hf<;>try (cases hf)
  rename_i fs
  cases Y6:fs[i]? with
 |none=>simp[Y6]at hf
 |some f=>
   cases hj:P.info? f.type with
  |none=>simp[Y6,hj]at hf
  |some j=>
    simp only[Y6,hj,CA]at hf
    split at hf
    ·cases hf
    ·cases hf
     rename_i G4
     simp[execOp,hx,Instr.fieldAt,run_underlying hu,Y6,Instr.sureAddr,fieldPlace,sizeOf,typeInfo,hj,G4,gU]
def U7(P:Program)(t:TypeId):Option (Nat×Nat):=
 match P.underlying t with
|some (.array len e)=>(P.info? e).map fun i=>(len,i.size)
|_=>none
def Z8(P:Program)(t:TypeId):Option Nat:=
 match P.underlying t with
|some (.slice e)=>(P.info? e).map fun i=>i.size
|_=>none
theorem bW{b sz:Nat}{i:Int}(hx:ev n σ x=.pointer (some ⟨b,o,none⟩))(hy:ev n σ y=.int k i)(ha:U7 P t=some (len,sz))(h0:0<=i)(h1:i<len)
  (h:K (mk n (up σ d (.pointer (some ⟨b,o+i.toNat*sz,none⟩)))) w):Oper.wp P ⟨some d,.indexAddr t x y,ty,pos,aft,g⟩ (mk n σ) w K Q:=by
 refine G6 ?_ h
 unfold U7 at ha
 cases hu:P.underlying t with
|none=>simp[hu]at ha
|some ds=>
  cases ds<;>simp only[hu]at ha<;>try (cases ha)
  rename_i l e
  cases hj:P.info? e with
 |none=>simp[hj]at ha
 |some j=>
   simp only[hj,X6,F2,G7]at ha
   obtain⟨rfl,rfl⟩:=ha
   simp[execOp,hx,hy,Instr.indexAt,run_underlying hu,asIntOf,Instr.sureAddr,h0,h1,sizeOf,typeInfo,hj,gU]
theorem Bd{a:Option Addr}{sz:Nat}{i:Int}(hx:ev n σ x=.slice a len cap)(hy:ev n σ y=.int k i)(ha:Z8 P t=some sz)(h0:0<=i)(h1:i<len)
  (hs:0<sz)(hr:RdS w a vs)(hl:len*sz<=vs.length)
  (h:∀b o,a=some ⟨b,o,none⟩->K (mk n (up σ d (.pointer (some ⟨b,o+i.toNat*sz,none⟩)))) w):Oper.wp P ⟨some d,.indexAddr t x y,ty,pos,aft,g⟩ (mk n σ) w K Q:=by
 rcases hr with rfl|⟨b,o,C,T,fr,rfl,hb,hc⟩
 ·simp only[S0,Nat.le_zero,Nat.mul_eq_zero]at hl;omega
 refine G6 ?_ (h b o rfl)
 unfold Z8 at ha
 cases hu:P.underlying t with
|none=>simp[hu]at ha
|some ds=>
  cases ds<;>simp only[hu]at ha<;>try (cases ha)
  rename_i e
  cases hj:P.info? e with
 |none=>simp[hj]at ha
 |some j=>
   simp only[hj,X6,F2]at ha
   subst ha
   simp[execOp,hx,hy,Instr.indexAt,run_underlying hu,asIntOf,h0,h1,sizeOf,typeInfo,hj,gU]
theorem w3{b:Nat}{T:TypeId}{v:Value}(H:Hp w0 w S L)(hi:L[i]? =some (.blk b C T))(hx:ev n σ x=.pointer (some ⟨b,o,none⟩))(ht:O5 P t=true)(hv:C[o]? =some v)
  (h:K (mk n (up σ d v)) w):Oper.wp P ⟨some d,.load t x,ty,pos,aft,g⟩ (mk n σ) w K Q:=
 G6 (by
  have hc:w.cell? ⟨b,o,none⟩=some v:=by simp[World.cell?, H.blk hi,hv]
  simp[execOp,hx,rN ht hc]) h
theorem CZ{b k:Nat}{T:TypeId}(H:Hp w0 w S L)(hi:L[i]? =some (.blk b C T))(hx:ev n σ x=.pointer (some ⟨b,o,none⟩))(ht:T2 P t=some k)(hk:o+k<=C.length)
  (h:K (mk n (up σ d (.agg ((C.drop o).take k).toArray))) w):Oper.wp P ⟨some d,.load t x,ty,pos,aft,g⟩ (mk n σ) w K Q:=
 G6 (by simp[execOp,hx,zB (H.blk hi) ht hk]) h
theorem Be{b:Nat}{a:Option Addr}{v:Value}(hr:RdS w a vs)(ha:a=some ⟨b,o,none⟩)(hx:ev n σ x=.pointer (some ⟨b,o+i,none⟩))(ht:O5 P t=true)(hv:vs[i]? =some v)
  (h:K (mk n (up σ d v)) w):Oper.wp P ⟨some d,.load t x,ty,pos,aft,g⟩ (mk n σ) w K Q:=
 G6 (by
  obtain⟨b',o',kU,hc⟩:=hr.cell hv
  rw[ha]at kU;cases kU
  simp[execOp,hx,rN ht hc]) h
end
section
variable {P:Program} {Q:Exit->Act->World->Prop} {n:Nat} {σ:Nat->Value} {w w0:World} {K:Act->World->Prop}
 {ty:TypeId} {pos:String} {aft:Array Edge} {g:Option (Nat×Bool)} {d:Nat} {t yt:TypeId} {x y z:Operand} {S:List Nat} {L:List Ch}
theorem DA(C:List Value)(o:Nat)(v:Value)(h:o<C.length):C.take o++[v]++C.drop (o+1)=C.set o v:=by
 apply V5
 intro i
 rw[I0,List.getElem?_set]
 by_cases h1:i<o
 ·rw[N7 (by simp;omega),dU h1,if_neg (by omega)]
 ·rw[L7 (by simp;omega)]
  by_cases h2:o=i
  ·subst h2;simp[h,jJ (Nat.le_of_lt h)]
  ·rw[if_neg h2,L7 (by simp;omega)]
   simp only[F7,jJ (Nat.le_of_lt h),w8,Q1]
   congr 1;omega
theorem nW{b:Nat}{T:TypeId}{v:Value}(H:Hp w0 w S L)(hi:L[i]? =some (.blk b C T))(hx:ev n σ x=.pointer (some ⟨b,o,none⟩))(hy:ev n σ y=v)
  (hs:K0 P t=some 1)(h1:v.oneCell'=true)(ho:o<C.length)
  (h:∀w',Hp w0 w' S (L.set i (.blk b (C.set o v) T))->K (mk n σ) w'):Oper.wp P ⟨none,.store t x y,ty,pos,aft,g⟩ (mk n σ) w K Q:=by
 have hc:v.cells= #[v]:=by cases v<;>simp_all[Value.cells,Value.oneCell']
 have hr:=IV (P:=P) (t:=t) (v:=v) (H.blk hi) (o:=o) (by rw[hc];exact hs) (by rw[hc];simp;omega) (by rw[hc];simpa using h1)
 rw[hc]at hr
 have e:C.take o++(#[v]:Array Value).toList++C.drop (o+(#[v]:Array Value).size)=C.set o v:=DA C o v ho
 rw[e]at hr
 refine CP (w':=w.setRow b (C.set o v).toArray) (by simp[execOp,hx,hy,hr]) (h _ ?_);exact H.row hi rfl rfl (H.blk hi) fun w' hw=>hw
theorem Bf{b:Nat}{T:TypeId}{vs:Array Value}(H:Hp w0 w S L)(hi:L[i]? =some (.blk b C T))(hx:ev n σ x=.pointer (some ⟨b,o,none⟩))(hy:ev n σ y=.agg vs)
  (hs:K0 P t=some vs.size)(h1:vs.all (·.oneCell')=true)(ho:o+vs.size<=C.length)
  (h:∀w',Hp w0 w' S (L.set i (.blk b (C.take o++vs.toList++C.drop (o+vs.size)) T))->K (mk n σ) w'):Oper.wp P ⟨none,.store t x y,ty,pos,aft,g⟩ (mk n σ) w K Q:=by
 have hr:=IV (P:=P) (t:=t) (v:=.agg vs) (H.blk hi) (o:=o) hs ho h1
 refine CP (w':=w.setRow b (C.take o++vs.toList++C.drop (o+vs.size)).toArray) (by simp only[execOp,hx,hy,D1,hr];simp[Value.cells]) (h _ ?_);exact H.row hi rfl rfl (H.blk hi) fun w' hw=>hw
theorem iO{b:Nat}{T:TypeId}{vs:Array Value}(H:Hp w0 w S L)(hi:L[i]? =some (.blk b C T))(hx:ev n σ x=.pointer (some ⟨b,0,none⟩))(hy:ev n σ y=.agg vs)
  (hs:K0 P t=some vs.size)(h1:vs.all (·.oneCell')=true)(ho:vs.size=C.length)
  (h:∀w',Hp w0 w' S (L.set i (.blk b vs.toList T))->K (mk n σ) w'):Oper.wp P ⟨none,.store t x y,ty,pos,aft,g⟩ (mk n σ) w K Q:=by
 refine Bf H hi hx hy hs h1 (by omega) fun w' H'=>h w' ?_
 simpa [ho] using H'
theorem Bg{b:Nat}{a:Option Nat}{T:TypeId}{sz:Nat}{v:Value}(H:Hp w0 w S L)(hi:L[i]? =some (.own a len cap xs T sz))(hx:ev n σ x=.pointer (some ⟨b,o,none⟩))(ha:hd a=some ⟨b,0,none⟩)
  (hy:ev n σ y=v)(hs:K0 P t=some 1)(h1:v.oneCell'=true)(ho:o<xs.length)
  (h:∀w',Hp w0 w' S (L.set i (.own a len cap (xs.set o v) T sz))->K (mk n σ) w'):Oper.wp P ⟨none,.store t x y,ty,pos,aft,g⟩ (mk n σ) w K Q:=by
 cases a with
|none=>cases ha
|some b'=>
  simp only[hd,X6,F2,Addr.mk.injEq,and_true]at ha
  subst ha
  obtain⟨q1,q2,q3,rest,hw,q5⟩:=H.has _ (E3 hi)
  have hc:v.cells= #[v]:=by cases v<;>simp_all[Value.cells,Value.oneCell']
  have hP:o<(xs++rest).length:=by simp;omega
  have hr:=IV (P:=P) (t:=t) (v:=v) hw (o:=o) (by rw[hc];exact hs) (by rw[hc];simp at hP ⊢;omega) (by rw[hc];simpa using h1)
  rw[hc]at hr
  have e:(xs++rest).take o++(#[v]:Array Value).toList++(xs++rest).drop (o+(#[v]:Array Value).size)=xs.set o v++rest:=by
   rw[show(xs++rest).take o++(#[v]:Array Value).toList++(xs++rest).drop (o+(#[v]:Array Value).size)=(xs++rest).set o v from DA _ o v hP,List.set_append_left _ _ ho]
  rw[e]at hr
  refine CP (w':=w.setRow b' (xs.set o v++rest).toArray) (by simp[execOp,hx,hy,hr]) (h _ ?_);exact H.row hi rfl rfl hw fun w' hU=>⟨by simpa using q1,q2,q3,rest,hU,by simpa using q5⟩
theorem Hp.conv{c c':Ch}(H:Hp w0 w S L)(hi:L[i]? =some c)(hk:c'.key=c.key)(M3:c.ok w->c'.ok w):Hp w0 w S (L.set i c'):=
 H.turn hi (M3 (H.has _ (E3 hi))) (fun b hb=>.inl (by rw[<-hk];exact hb)) rfl rfl rfl (B5 _) (fun _ _ _=>rfl)
theorem Hp.toOwn{b sz:Nat}{T:TypeId}(H:Hp w0 w S L)(hi:L[i]? =some (.blk b C T))(hl:len<=cap)(hm:cap<=maxLen)(hc:C.length=cap*sz):
  Hp w0 w S (L.set i (.own (some b) len cap (C.take (len*sz)) T sz)):=
 H.conv hi rfl fun M3=>⟨by rw[F7,hc];exact jJ (G8 sz hl),hl,hm,C.drop (len*sz),by rw[tX];exact M3,by rw[tX];exact hc⟩
def sa(a:Option Addr)(l cap sz:Nat):Option Addr:=if cap=l then a else a.map (·.add (l*sz))
theorem RdS.sa{a:Option Addr}(h:RdS w a vs)(l cap sz:Nat)(hl:vs.length<=cap*sz):RdS w (sa a l cap sz) (vs.drop (l*sz)):=by
 unfold Go.Proofs.YtiligejcokfhkaaGreatDoor.sa
 split
 ·rename_i e;subst e
  rw[dV hl];exact .nil _ _
 ·exact h.drop _
theorem OJ(a:Option Addr)(cap sz:Nat):sa a 0 cap sz=a:=by
 unfold sa
 split
 ·rfl
 ·cases a<;>simp[Addr.add]
theorem Apart.sa{a:Option Addr}(h:Apart a S)(l cap sz:Nat):Apart (sa a l cap sz) S:=by
 unfold Go.Proofs.YtiligejcokfhkaaGreatDoor.sa
 split
 ·exact h
 ·intro x hx
  cases a with
 |none=>cases hx
 |some a=>
   simp only[X6,F2]at hx
   subst hx
   have:=h a rfl
   unfold Addr.add;split<;>exact this
theorem DB{s:Bool}{l:Int}(h0:0<=l)(h1:l<=len)(w:World):(Instr.sliceBounds s len cap (some (.int k l)) none none).run P w=.ok (l.toNat,len,cap) w:=by
 simp[Instr.sliceBounds,run_sliceBound,h0,h1]
theorem OK{s:Bool}{h:Int}(h0:0<=h)(h1:h<=cap)(w:World):(Instr.sliceBounds s len cap none (some (.int k h)) none).run P w=.ok (0,h.toNat,cap) w:=by
 simp[Instr.sliceBounds,run_sliceBound,h0,h1]
theorem Bh{s:Bool}{l h:Int}(h0:0<=l)(h1:l<=h)(h2:h<=cap)(w:World):(Instr.sliceBounds s len cap (some (.int k l)) (some (.int k' h)) none).run P w=.ok (l.toNat,h.toNat,cap) w:=by
 have eh:(h.toNat:Int)=h:=Int.toNat_of_nonneg (by omega)
 simp[Instr.sliceBounds,run_sliceBound,h0,h1,h2,eh,(by omega:0<=h)]
theorem DC{s:Bool}(w:World):(Instr.sliceBounds s len cap none none none).run P w=.ok (0,len,cap) w:=by simp[Instr.sliceBounds]
theorem Bi{lo:Option Operand}{a:Option Addr}{sz l h:Nat}{lv mv:Option Value}(hx:ev n σ x=.slice a len cap)(ht:Z8 P t=some sz)
  (hl:lo.map (ev n σ)=lv)(hh:hi.map (ev n σ)=hv)(hm:mx.map (ev n σ)=mv)(hb:∀w,(Instr.sliceBounds true len cap lv hv mv).run P w=.ok (l,h,m) w)
  (hk:K (mk n (up σ d (.slice (sa a l m sz) (h-l) (m-l)))) w):Oper.wp P ⟨some d,.slice t x lo hi mx,ty,pos,aft,g⟩ (mk n σ) w K Q:=by
 refine G6 ?_ hk
 unfold Z8 at ht
 cases hu:P.underlying t with
|none=>simp[hu]at ht
|some ds=>
  cases ds<;>simp only[hu]at ht<;>try (cases ht)
  rename_i e
  cases hj:P.info? e with
 |none=>simp[hj]at ht
 |some j=>
   simp only[hj,X6,F2]at ht
   subst ht
   simp[execOp,hx,hl,hh,hm,Instr.sliceAt,Instr.slice,run_underlying hu,hb,sizeOf,typeInfo,hj,sa]
theorem Bj{lo:Option Operand}{b sz l h:Nat}{lv mv:Option Value}(hx:ev n σ x=.pointer (some ⟨b,o,none⟩))(ht:U7 P t=some (len,sz))
  (hl:lo.map (ev n σ)=lv)(hh:hi.map (ev n σ)=hv)(hm:mx.map (ev n σ)=mv)(hb:∀w,(Instr.sliceBounds false len len lv hv mv).run P w=.ok (l,h,m) w)
  (hk:K (mk n (up σ d (.slice (sa (some ⟨b,o,none⟩) l m sz) (h-l) (m-l)))) w):Oper.wp P ⟨some d,.slice t x lo hi mx,ty,pos,aft,g⟩ (mk n σ) w K Q:=by
 refine G6 ?_ hk
 unfold U7 at ht
 cases hu:P.underlying t with
|none=>simp[hu]at ht
|some ds=>
  cases ds<;>simp only[hu]at ht<;>try (cases ht)
  rename_i n' e
  cases hj:P.info? e with
 |none=>simp[hj]at ht
 |some j=>
   simp only[hj,X6,F2,G7]at ht
   obtain⟨rfl,rfl⟩:=ht
   by_cases iA:m=l
   ·simp[execOp,hx,hl,hh,hm,Instr.sliceAt,Instr.sureAddr,run_underlying hu,hb,sizeOf,typeInfo,hj,sa,iA]
   ·simp[execOp,hx,hl,hh,hm,Instr.sliceAt,Instr.sureAddr,run_underlying hu,hb,sizeOf,typeInfo,hj,sa,iA]
theorem Bk{b l sz:Nat}(h:l<cap):sa (some ⟨b,o,none⟩) l cap sz=some ⟨b,o+l*sz,none⟩:=by
 unfold sa
 rw[if_neg (by omega),X6,gU]
theorem Bl{lo:Option Operand}{b sz l h:Nat}{lv mv:Option Value}(hx:ev n σ x=.pointer (some ⟨b,o,none⟩))(ht:U7 P t=some (len,sz))
  (hl:lo.map (ev n σ)=lv)(hh:hi.map (ev n σ)=hv)(hm:mx.map (ev n σ)=mv)(hb:∀w,(Instr.sliceBounds false len len lv hv mv).run P w=.ok (l,h,m) w)(hlm:l<m)
  (hk:K (mk n (up σ d (.slice (some ⟨b,o+l*sz,none⟩) (h-l) (m-l)))) w):Oper.wp P ⟨some d,.slice t x lo hi mx,ty,pos,aft,g⟩ (mk n σ) w K Q:=
 Bj hx ht hl hh hm hb (by rw[Bk hlm];exact hk)
theorem bY{b:Builtin}{s:Sem Value}{v:Value}{dst:Option Tmp}{vs:Array Value}
  (ha:args.map (ev n σ)=vs)
  (hb:∀cs,builtin b V9 ty cs vs=(do pure (.value (<-s))))(hs:s.run P w=.ok v w'):
  (execOp (ev n σ) ⟨dst,.call ⟨.builtin b,args,V9⟩,ty,pos,aft,g⟩).run P w=.ok (.value v) w':=by
 simp[execOp,resolve,invoke,ha,hb,hs]
theorem OL{a:Option Addr}{sz:Nat}(ht:Z8 P t=some sz)(hx:ev n σ x=.slice a len cap)(h:K (mk n (up σ d (VI len))) w):
  Oper.wp P ⟨some d,.call ⟨.builtin .len, #[x], #[t]⟩,ty,pos,aft,g⟩ (mk n σ) w K Q:=
 G6 (bY (s:=Builtin.len_ #[t] ty #[.slice a len cap]) (vs:= #[.slice a len cap]) (by simp[hx]) (fun _=>rfl) (by
  unfold Z8 at ht
  cases hu:P.underlying t with
 |none=>simp[hu]at ht
 |some ds=>
   cases ds<;>simp only[hu]at ht<;>try (cases ht)
   simp[Builtin.len_,run_underlying hu,goInt])) h
theorem Bm{ts:Array TypeId}{t:TypeId}{x y:Int}:(Builtin.max_ ts t #[.int k x,.int k y]).run P w=.ok (.int k (if y > x then y else x)) w:=by
 simp[Builtin.max_,Builtin.max2]
structure SlTy (P:Program) (t e:TypeId) (sz bytes:Nat):Prop where
 und:P.underlying t=some (.slice e)
 row:∃i z,P.info? e=some i/\i.zero=some z/\i.size=sz/\i.bytes=bytes/\z.cells.size=sz
theorem SlTy.mk'{t e sz bytes:Nat}(h1:P.underlying t=some (.slice e))(h2:((P.info? e).bind fun i=>i.zero.map fun z=>(i.size,i.bytes,z.cells.size))=some (sz,bytes,sz)):SlTy P t e sz bytes:=by
 refine⟨h1,?_⟩
 cases hi:P.info? e with
|none=>simp[hi]at h2
|some i=>
  cases hz:i.zero with
 |none=>simp[hi,hz]at h2
 |some z=>simp[hi,hz]at h2;exact⟨i,z,rfl,hz,h2.1,h2.2.1,h2.2.2⟩
theorem RdS.src{sz:Nat}{tx e':TypeId}{a:Option Addr}{vs:List Value}(hk:P.underlying tx=some (.slice e'))(hr:RdS w a vs)(hl:vs.length=len*sz)(hs:0<sz)(h1:∀u∈vs,u.oneCell'=true):
  Src P sz tx (.slice a len cap) len vs w:=by
 by_cases h0:vs=[]
 ·subst h0
  have:len=0:=by rcases Nat.mul_eq_zero.1 hl.symm with h|h<;>omega
  subst this
  cases a with
 |none=>exact Src.ofNil w hk cap
 |some a=>exact Src.ofSlice w hk a 0 cap [] (by simp) (by simp) (by simp)
 ·rcases hr with h|⟨b,o,C,T,fr,rfl,hb,hc⟩
  ·exact absurd h h0
  ·exact Src.ofSlice w hk _ len cap vs hl (fun j u hj=>by rw[gU];simp[World.cell?, hb,hc j u hj]) h1
theorem IW{a b by_:Nat}(h:a*by_<=140737488355328)(hb:b<a):Builtin.nextslicecap a b*by_<=281474976710656:=
 N1 (G8 _ (nextslicecap_le hb)) (by rw[Nat.mul_assoc];omega)
theorem OM{a:Option Nat}{sz bytes:Nat}{tx:TypeId}{v:Value}(H:Hp w0 w S L)(hi:L[i]? =some (.own a len cap xs e sz))
  (hT:SlTy P t e sz bytes)(hx:ev n σ x=.slice (hd a) len cap)(hy:ev n σ y=v)(J8:Src P sz tx v m news w)(G4:0<sz)
  (D8:len+m<=4611686018427387903)(hbytes:(len+m)*bytes<=140737488355328)
  (h:∀a' M4 w',Hp w0 w' S (L.set i (.own a' (len+m) M4 (xs++news) e sz))->K (mk n (up σ d (.slice (hd a') (len+m) M4))) w'):
  Oper.wp P ⟨some d,.call ⟨.builtin .append, #[x,y], #[t,tx]⟩,ty,pos,aft,g⟩ (mk n σ) w K Q:=by
 obtain⟨S7,zv,cW,hzv,K6,fC,dX⟩:=hT.row
 have M3:=H.has _ (E3 hi)
 have hargs:(#[x,y]:Array Operand).map (ev n σ)= #[.slice (hd a) len cap,v]:=by simp[hx,hy]
 have fD:xs.length=len*sz:=by
  cases a with
 |none=>obtain⟨rfl,rfl,rfl⟩:=M3;simp
 |some b=>exact M3.1
 by_cases g9:len+m<=cap
 ·cases a with
 |none=>
   obtain⟨rfl,rfl,rfl⟩:=M3
   have hm:m=0:=by omega
   subst hm
   have fE:news=[]:=j5.1 (by rw[J8.newsLen];simp)
   subst fE
   refine G6 (bY (s:=Builtin.append_ #[t,tx] ty #[.slice none 0 0,v]) (vs:= #[.slice none 0 0,v]) (v:=.slice none 0 0) hargs (fun _=>rfl) ?_) (h none 0 w ?_)
   ·rcases J8.kind with⟨e',hk⟩|hk<;>simp[Builtin.append_,run_underlying hT.und,run_underlying hk,sizeOf,typeInfo,cW,J8.len,K6,J8.cells]
   ·have:L.set i (.own none (0+0) 0 ([]++[]) e sz)=L:=by
     apply V5
     intro j
     by_cases cU:i=j
     ·subst cU
      have hlt:=(N0.1 hi).1
      rw[List.getElem?_set_self hlt,hi];rfl
     ·rw[List.getElem?_set_ne cU]
    rw[this];exact H
 |some b=>
   obtain⟨_,B3,N2,rest,hw,t8⟩:=M3
   have x5:=run_append_room_src (P:=P) w t tx ty e S7 hT.und cW b 0 len cap v m news (by rw[K6];exact J8) g9
    (fun j hj=>by
     have:0+len*S7.size+j<(xs++rest).length:=by
      rw[t8,K6,J3]
      have:=J8.newsLen
      have h2:(len+m)*sz<=cap*sz:=G8 _ g9
      rw[V6]at h2;omega
     simp only[World.cell?, hw]
     rw[eY,B7 this];simp)
    (fun j hj=>by simp[World.frozen?, hw])
   have kV:=J8.newsLen
   have Y7:len*sz+news.length<=(xs++rest).length:=by
    rw[t8,kV, <-V6];exact G8 _ g9
   have uJ:w.setCells b (0+len*S7.size) news=w.setRow b (xs++news++rest.drop news.length).toArray:=by
    have h1:=run_storeCells_at (P:=P) b (0+len*S7.size) e news 0 (xs++rest).toArray w hw (by simp only[bD];rw[K6];omega) J8.one
    have h2:=run_storeCells_cells (P:=P) b (0+len*S7.size) news 0 w
     (fun j hj=>by
      have:0+len*S7.size+0+j<(xs++rest).length:=by rw[K6];omega
      simp only[World.cell?, hw]
      rw[eY,B7 this];simp)
     (fun j hj=>by simp[World.frozen?, hw]) J8.one
    rw[h1]at h2
    simp only[Result.ok.injEq,true_and,s9,J3]at h2
    rw[J3, <-h2,K6]
    congr 2
    rw[show len*sz=xs.length from fD.symm]
    simp[List.take_append,tY]
   rw[uJ]at x5
   refine G6 (bY (s:=Builtin.append_ #[t,tx] ty #[.slice (some ⟨b,0,none⟩) len cap,v]) (vs:= #[.slice (some ⟨b,0,none⟩) len cap,v]) hargs (fun _=>rfl) x5) (h (some b) cap _ ?_);refine H.row hi rfl rfl hw fun w' hU=>⟨by rw[D0,fD,kV,V6],g9,N2,rest.drop news.length,hU,?_⟩
   rw[<-t8];simp only[D0,K4]
   simp only[D0]at Y7 t8
   rw[fD]at *;omega
 ·have uK:(Builtin.firstCells S7.size len (.slice (hd a) len cap)).run P w.drew=.ok xs.toArray w.drew:=by
   cases a with
  |none=>obtain⟨rfl,rfl,rfl⟩:=M3;exact run_firstCells_none w.drew S7.size 0 0 0
  |some b=>
    obtain⟨h1,_,_,rest,hw,_⟩:=M3
    refine run_firstCells_some w.drew S7.size len ⟨b,0,none⟩ len cap xs (by rw[h1,K6]) fun j u hj=>?_
    rw[gU,World.cell?_drew]
    have hlt:j<xs.length:=(N0.1 hj).1
    simp[World.cell?, hw,N7 hlt,hj]
  have x5:=run_append_grow_src (P:=P) w t tx ty e S7 zv hT.und cW hzv (hd a) len cap xs uK v m news (by rw[K6];exact J8) (by omega) (by omega)
   (by rw[fC];exact IW hbytes (by omega))
  have hgc:=grownCap_ge w (len+m) cap e
  have hgm:=grownCap_le_maxLen w (len+m) cap e (by simp[maxLen];omega)
  generalize P2:grownCap w (len+m) cap e=cc at*
  refine G6 (bY (s:=Builtin.append_ #[t,tx] ty #[.slice (hd a) len cap,v]) (vs:= #[.slice (hd a) len cap,v]) hargs (fun _=>rfl) x5) (h (some w.heap.size) cc _ ?_);have hL:(xs++news++(Builtin.zeroCells zv.cells (cc-(len+m))).toList).length=cc*sz:=by
   simp only[D0,t1,size_zeroCells,dX,fD,J8.newsLen]
   rw[<-V6, <-V6];congr 1;omega
  refine H.drew.turn hi (c':=.own (some w.heap.size) (len+m) cc (xs++news) e sz) ⟨by rw[D0,fD,J8.newsLen,V6],hgc,hgm,(Builtin.zeroCells zv.cells (cc-(len+m))).toList,?_,hL⟩
   (fun b hb=>.inr (by cases hb;exact B5 _)) rfl rfl rfl (by simp) (fun b hb _=>fT _ _ _ (by simp at hb ⊢;omega))
  have:=i8 w.drew (.cells ((xs++news).toArray++Builtin.zeroCells zv.cells (cc-(len+m))) e)
  simp only[World.size_drew]at this
  rw[this]
  congr 2
  apply U0
  simp
end
section
variable {P:Program} {Q:Exit->Act->World->Prop} {n:Nat} {σ:Nat->Value} {w w0:World} {K:Act->World->Prop}
 {ty:TypeId} {pos:String} {aft:Array Edge} {g:Option (Nat×Bool)} {d:Nat} {t yt:TypeId} {x y z:Operand} {S:List Nat} {L:List Ch}
theorem ON{bytes l:Nat}{li ci:Int}{zv:Value}(H:Hp w0 w S L)(hT:SlTy P t e 1 bytes)(hz:zeroCells P e=some [zv])(hx:ev n σ x=.int k li)(hy:ev n σ y=.int k' ci)
  (hl:li=(l:Int))(hc:ci=(c:Int))(hlc:l<=c)(hb:bytes*c<=281474976710656)(uL:c<=maxLen)
  (h:∀b w',Hp w0 w' S (L++[.blk b (replicate c zv) e])->w0.heap.size<=b->K (mk n (up σ d (.slice (some ⟨b,0,none⟩) l c))) w'):
  Oper.wp P ⟨some d,.makeSlice t x y,ty,pos,aft,g⟩ (mk n σ) w K Q:=by
 obtain⟨i,z0,hi,x6,hs,fC,dX⟩:=hT.row
 subst hl hc
 have hzc:z0.cells.toList=[zv]:=by simpa [zeroCells,hi,x6] using hz
 have hzc':z0.cells= #[zv]:=by apply U0;simpa using hzc
 have h63':(c:Int)<=9223372036854775807:=Int.ofNat_le.2 uL
 have hr:=run_make (P:=P) (w:=w) t e i z0 hT.und hi x6 k k' (l:Int) (c:Int) (by omega) (by omega) (by rw[fC];exact Int.ofNat_le.2 hb) h63'
 have e1:madeCells z0.cells ((c:Int).toNat*i.size)=(replicate c zv).toArray:=by
  rw[hzc',hs,j6,jI]
  apply U0
  exact toList_madeCells_one zv c
 rw[e1]at hr
 refine G6 (by simp only[execOp,hx,hy,D1,hr,F6,jI];rfl) (h w.heap.size _ (H.alloc _ e) H.size)
theorem IX{sz bytes:Nat}{cells:Array Value}(hT:SlTy P t e sz bytes)(hz:zeroCells P e=some zs)(hs:0<sz)(D8:len*sz<=16777216)(F3:Array (Nat×Value))
  (hf:Instr.fill (fun i=>some (i*sz,sz)) ((Array.range (len*sz)).map (zs.toArray[· % zs.toArray.size]!)) F3.toList=some cells):
  (Instr.buildSlice t len F3).run P w=.ok (.slice (some ⟨w.heap.size,0,none⟩) len len) (w.alloc (.cells cells e)):=by
 obtain⟨i,z0,hi,x6,G4,fC,dX⟩:=hT.row
 have hzc:z0.cells=zs.toArray:=by
  have:z0.cells.toList=zs:=by simpa [zeroCells,hi,x6] using hz
  apply U0;simpa using this
 have h1:(sizeOf e).run P w=.ok sz w:=lO (by simp[K0,hi,G4]) w
 have h2:(zeroValue e).run P w=.ok z0 w:=by simp[zeroValue,typeInfo,hi,x6]
 have hn:¬ (len*sz > 2 ^ 24):=by omega
 have fin:∀zz:Array Value,Instr.fill (fun i=>some (i*sz,sz)) ((Array.range (len*sz)).map (zz[· % zz.size]!)) F3.toList=some cells->
   (match Instr.fill (fun i=>some (i*sz,sz)) ((Array.range (len*sz)).map (zz[· % zz.size]!)) F3.toList with
   |some cells=>(do pure (.slice (some (<-newRow e cells)) len len):Sem Value)
   |_=>stuck "buildSlice: a part of the wrong size").run P w=.ok (.slice (some ⟨w.heap.size,0,none⟩) len len) (w.alloc (.cells cells e)):=by
  intro zz hzz
  rw[hzz]
  simp[newRow]
 unfold Instr.buildSlice
 rw[D1,run_underlying hT.und]
 simp only[F6]
 rw[D1,h1]
 simp only[F6]
 rw[if_neg hn]
 by_cases h0:len*sz=0
 ·have e1:∀zz:Array Value,(Array.range (len*sz)).map (zz[· % zz.size]!)= #[]:=fun zz=>by
   rw[h0];apply U0;simp
  rw[if_pos h0,D1,gV]
  simp only[F6]
  exact fin #[] (by rw[e1, <-e1 zs.toArray];exact hf)
 ·rw[if_neg h0,D1,h2]
  simp only[F6]
  rw[D1,gV]
  simp only[F6]
  exact fin z0.cells (by rw[hzc];exact hf)
theorem rO{sz bytes:Nat}{F3:Array (Nat×Operand)}{cells:Array Value}(H:Hp w0 w S L)(hT:SlTy P t e sz bytes)(hz:zeroCells P e=some zs)(hs:0<sz)
  (bH:W5 n σ F3.toList=pv)(D8:len*sz<=16777216)
  (hf:Instr.fill (fun i=>some (i*sz,sz)) ((Array.range (len*sz)).map (zs.toArray[· % zs.toArray.size]!)) pv=some cells)
  (h:∀b w',Hp w0 w' S (L++[.blk b cells.toList e])->w0.heap.size<=b->K (mk n (up σ d (.slice (some ⟨b,0,none⟩) len len))) w'):
  Oper.wp P ⟨some d,.buildSlice t len F3,ty,pos,aft,g⟩ (mk n σ) w K Q:=by
 have hp:(F3.map fun(i,x)=>(i,ev n σ x)).toList=pv:=by rw[<-bH,rC,yJ]
 refine G6 (v:=.slice (some ⟨w.heap.size,0,none⟩) len len) (w':=w.alloc (.cells cells e)) ?_ (h _ _ (by simpa using H.alloc cells.toList e) H.size);have hr:=IX (P:=P) (w:=w) hT hz hs D8 (F3.map fun(i,x)=>(i,ev n σ x)) (by rw[hp];exact hf)
 simp only[execOp,D1,hr,F6]
 rfl
theorem Bn{F3:Array (Nat×Operand)}{cells:Array Value}
  (bH:W5 n σ F3.toList=pv)(hf:P.built t pv=some cells)
  (h:K (mk n (up σ d (.agg cells))) w):Oper.wp P ⟨some d,.build t F3,ty,pos,aft,g⟩ (mk n σ) w K Q:=by
 refine G6 ?_ h;have hp:(F3.map fun(i,x)=>(i,ev n σ x)).toList=pv:=by rw[<-bH,rC,yJ]
 have:=run_build (P:=P) w t (F3.map fun(i,x)=>(i,ev n σ x)) cells (by rw[hp];exact hf)
 simp only[execOp,D1,this]
 simp
structure Bld (P:Program) (t:TypeId) (zs:Array Value) (places:Nat->Option (Nat×Nat)):Prop where
 eq:∀F3,P.built t F3=Instr.fill places zs F3
theorem Bld.arr{t:TypeId}{sz:Nat}(h1:U7 P t=some (len,sz))(h2:zeroCells P t=some zs):Bld P t zs.toArray fun i=>some (i*sz,sz):=by
 constructor
 intro F3
 unfold U7 at h1
 cases hu:P.underlying t with
|none=>simp[hu]at h1
|some ds=>
  cases ds<;>simp only[hu]at h1<;>try (cases h1)
  rename_i l e
  cases hj:P.info? e with
 |none=>simp[hj]at h1
 |some j=>
   simp only[hj,X6,F2,G7]at h1
   obtain⟨rfl,rfl⟩:=h1
   unfold zeroCells at h2
   cases hi:P.info? t with
  |none=>simp[hi]at h2
  |some i=>
    cases hz:i.zero with
   |none=>simp[hi,hz]at h2
   |some z=>
     simp[hi,hz]at h2
     have:z.cells=zs.toArray:=by apply U0;simpa using h2
     simp only[Program.built,hi,hu,hz,hj,this]
def nX(P:Program)(t:TypeId):Option (Array (Nat×Nat)):=
 match P.underlying t with
|some (.struct fs)=>(fs.toList.mapM fun f=>(P.info? f.type).map fun i=>(f.offset,i.size)).map (·.toArray)
|_=>none
theorem Bld.str{t:TypeId}{pl:Array (Nat×Nat)}(h1:nX P t=some pl)(h2:zeroCells P t=some zs):Bld P t zs.toArray fun i=>pl[i]? :=by
 constructor
 intro F3
 unfold nX at h1
 cases hu:P.underlying t with
|none=>simp[hu]at h1
|some ds=>
  cases ds<;>simp only[hu]at h1<;>try (cases h1)
  rename_i fs
  cases hm:fs.toList.mapM (fun f=>(P.info? f.type).map fun i=>(f.offset,i.size)) with
 |none=>simp[hm]at h1
 |some places=>
   simp only[hm,X6,F2]at h1
   subst h1
   unfold zeroCells at h2
   cases hi:P.info? t with
  |none=>simp[hi]at h2
  |some i=>
    cases hz:i.zero with
   |none=>simp[hi,hz]at h2
   |some z=>
     simp[hi,hz]at h2
     have:z.cells=zs.toArray:=by apply U0;simpa using h2
     simp only[Program.built,hi,hu,hz,hm,this]
theorem DD{F3:Array (Nat×Operand)}{zs:Array Value}{places:Nat->Option (Nat×Nat)}{cells:Array Value}(hB:Bld P t zs places)
  (bH:W5 n σ F3.toList=pv)(hf:Instr.fill places zs pv=some cells)
  (h:K (mk n (up σ d (.agg cells))) w):Oper.wp P ⟨some d,.build t F3,ty,pos,aft,g⟩ (mk n σ) w K Q:=
 Bn bH (by rw[hB.eq];exact hf) h
def en:Nat->List Value->List (Nat×Value)
|_,[]=>[]
|i,v::l=>(i,v)::en (i+1) l
theorem OO:∀(vs A:List Value) (B:List Value),(∀v∈vs,v.oneCell'=true)->vs.length=B.length->Instr.fill (fun i=>some (i*1,1)) (A++B).toArray (en A.length vs)=some (A++vs).toArray
|[],A,B,_,hl=>by
  have:B=[]:=j5.1 (by simpa using hl.symm)
  subst this;simp[en,Instr.fill]
|v::vs,A,[],_,hl=>by simp at hl
|v::vs,A,b::B,h1,hl=>by
  have hv:=h1 v (by simp)
  have hc:v.cells= #[v]:=by cases v<;>simp_all[Value.cells,Value.oneCell']
  have ih:=OO vs (A++[v]) B (fun u hu=>h1 u (by simp[hu])) (by simpa using hl)
  simp only[D0,w8,I0,List.singleton_append]at ih
  simp only[en,Instr.fill,hc,j6]
  rw[if_neg (by simp)]
  have e:(#[v]:Array Value).zipIdx= #[(v,0)]:=by simp[Array.zipIdx]
  rw[<-ih]
  congr 1
  ·funext i;rw[j6]
  ·rw[e]
   apply U0
   simp[List.set_append]
theorem OP(vs:List Value)(h1:vs.toArray.all (·.oneCell')=true)(hl:vs.length=zs.length):Instr.fill (fun i=>some (i*1,1)) zs.toArray (en 0 vs)=some vs.toArray:=by
 have:=OO vs [] zs (by rw[mP]at h1;simpa using h1) hl
 simpa using this
theorem OQ{b:Nat}{T e':TypeId}{sz dLen dCap sLen sCap:Nat}{a:Option Addr}{vs:List Value}{tx:TypeId}(H:Hp w0 w S L)(hi:L[i]? =some (.blk b C T))(hu:P.underlying t=some (.slice e))(hu':P.underlying tx=some (.slice e'))(hs:K0 P e=some sz)(G4:0<sz)
  (hx:ev n σ x=.slice (some ⟨b,o,none⟩) dLen dCap)(hy:ev n σ y=.slice a sLen sCap)(hr:RdS w a vs)(hl:vs.length=sLen*sz)(h1:∀u∈vs,u.oneCell'=true)(Y7:o+dLen*sz<=C.length)
  (h:∀w',Hp w0 w' S (L.set i (.blk b (C.take o++vs.take (min sLen dLen*sz)++C.drop (o+min sLen dLen*sz)) T))->K (mk n (up σ d (VI ((min sLen dLen:Nat):Int)))) w'):
  Oper.wp P ⟨some d,.call ⟨.builtin .copy, #[x,y], #[t,tx]⟩,ty,pos,aft,g⟩ (mk n σ) w K Q:=by
 have hmin:min sLen dLen*sz<=vs.length:=by rw[hl];exact G8 _ (Nat.min_le_left _ _)
 have hmin2:min sLen dLen*sz<=dLen*sz:=G8 _ (Nat.min_le_right _ _)
 have D8:(vs.take (min sLen dLen*sz)).length=min sLen dLen*sz:=by rw[F7];omega
 have I1:=run_storeCells_at (P:=P) b o T (vs.take (min sLen dLen*sz)) 0 C.toArray w (H.blk hi) (by rw[D8];simp;omega) (fun v hv=>h1 v (List.mem_of_mem_take hv))
 rw[D8]at I1
 simp only[s9]at I1
 have uK:(Builtin.firstCells sz (min sLen dLen) (.slice a sLen sCap)).run P w=.ok (vs.take (min sLen dLen*sz)).toArray w:=by
  have J8:Src P sz tx (.slice a (min sLen dLen) sCap) (min sLen dLen) (vs.take (min sLen dLen*sz)) w:=
   (hr.take _).src hu' D8 G4 (fun v hv=>h1 v (List.mem_of_mem_take hv))
  have:=J8.cells
  cases a<;>exact this
 have hsz':=lO hs w
 refine G6 (bY (s:=Builtin.copy_ #[t,tx] ty #[.slice (some ⟨b,o,none⟩) dLen dCap,.slice a sLen sCap]) (vs:= #[.slice (some ⟨b,o,none⟩) dLen dCap,.slice a sLen sCap]) (v:=VI ((min sLen dLen:Nat):Int))
  (w':=w.setRow b (C.take o++vs.take (min sLen dLen*sz)++C.drop (o+min sLen dLen*sz)).toArray) (by simp[hx,hy]) (fun _=>rfl) ?_) (h _ (H.row hi rfl rfl (H.blk hi) fun w' hw=>hw))
 have hnat:Nat.min sLen dLen=min sLen dLen:=rfl
 simp only[I0]at I1 ⊢
 simp[Builtin.copy_,run_underlying hu,Builtin.lenOf,hsz',hnat,uK,I1,goInt]
theorem Bo{i:Int}{cs:Array Value}{v:Value}(hu:P.underlying t=some (.array len e))(hc:O5 P e=true)(G4:K0 P e=some 1)(hx:ev n σ x=.agg cs)(hy:ev n σ y=.int k i)(h0:0<=i)(h1:i<len)(hv:cs[i.toNat]? =some v)
  (h:K (mk n (up σ d v)) w):Oper.wp P ⟨some d,.index t x y,ty,pos,aft,g⟩ (mk n σ) w K Q:=
 G6 (by simp[execOp,hx,hy,Instr.index,asIntOf,run_underlying hu,h0,h1,lO G4,part,nT hc,hv]) h
theorem OS(he:P.underlying e=some (.int .u8))(dd:Nat)(a b:List UInt8)(uM:a.length=b.length)(w:World):
  ∀is:List Nat,(∀i∈is,i<a.length)->(Op.eqItems (dd+1) e 1 (a.map V8).toArray (b.map V8).toArray is).run P w=.ok (is.all fun i=>a[i]? == b[i]?) w:=by
 intro is
 induction is with
|nil=>intro _;simp[Op.eqItems]
|cons i is ih=>
  intro h
  have hi:=h i (by simp)
  have hca:(part e (a.map V8).toArray (i*1)).run P w=.ok (V8 (a[i]'hi)) w:=by
   have hct:O5 P e=true:=by simp[O5,he]
   simp[part,nT hct,hi]
  have hcb:(part e (b.map V8).toArray (i*1)).run P w=.ok (V8 (b[i]'(by omega))) w:=by
   have hct:O5 P e=true:=by simp[O5,he]
   simp[part,nT hct,show i<b.length by omega]
  have uN:(Op.equalIn (dd+1) e (V8 (a[i]'hi)) (V8 (b[i]'(by omega)))).run P w=.ok (a[i]'hi==b[i]'(by omega)) w:=by
   simp only[Op.equalIn,D1,run_underlying he,F6]
   simp
   rw[tZ];simp only[beq_iff_eq]
   rw[<-CB];omega
  have h2:=ih (fun j hj=>h j (by simp[hj]))
  simp only[Op.eqItems,D1,hca,hcb,uN,F6]
  rw[uA,B7 hi,B7 (by omega:i<b.length)]
  by_cases hh:a[i]'hi=b[i]'(by omega)
  ·simp[hh,h2]
  ·simp[hh]
theorem Bp{a:Option Addr}(hu:P.underlying t=some (.pointer e))(hx:ev n σ x=.pointer a)(hy:ev n σ y=.pointer none)(h:K (mk n (up σ d (.bool a.isNone))) w):
  Oper.wp P ⟨some d,.binOp .eql t x y yt,ty,pos,aft,g⟩ (mk n σ) w K Q:=
 G6 (by
  have e1:(Op.equal t (.pointer a) (.pointer none)).run P w=.ok a.isNone w:=by
   unfold Op.equal Op.maxDepth Op.equalIn
   rw[D1,run_underlying hu]
   cases a<;>simp
  have e2:binOp .eql t (.pointer a) (.pointer none)=(do pure (.bool (<-Op.equal t (.pointer a) (.pointer none)))):=by cases a<;>rfl
  simp only[execOp,hx,hy,D1,e2]
  simp[eqGuard,e1]) h
theorem zD{R:Ending->World->Prop}{tt:Tmp}{rt:TypeId}{b k:Nat}{T:TypeId}(hres:fn.results= #[.cell tt rt])(H:Hp w0 w S L)(hi:L[i]? =some (.blk b C T))(hv:ev n σ (.tmp tt)=.pointer (some ⟨b,0,none⟩))(hr:T2 P rt=some k)(hk:k=C.length)
  (hR:R (.returned (.agg C.toArray)) w):bodyPost P fn R .ret (mk n σ) w:=by
 refine⟨nS n σ,.agg C.toArray,?_,hR⟩
 have h1:=zB (P:=P) (o:=0) (H.blk hi) hr (by omega)
 simp only[Instr.loadAt,Instr.sureAddr,D1,gV,F6]at h1
 have h2:(mk n σ).tmps.getD tt undef=.pointer (some ⟨b,0,none⟩):=by rw[<-hv, <-rH]
 have h3:C.toArray=((C.drop 0).take k).toArray:=by simp[hk]
 rw[h3]
 simp only[results,hres]
 simp only[mk]at h2 ⊢
 simp[Array.mapM_eq_foldlM,asAddr,h1]
 rw[<-Array.getD_eq_getD_getElem?, h2]
 simp[h1]
theorem Bq{id:Nat}{l:List Oper}{a:Act}(S':World->Prop)(hm:P.follows .mixedOrders=true)
  (h:wpAnyH P .any l.toArray Q S' l.length (Array.replicate l.length false) a w.drew):(Code.region id l.toArray true).wp P Q a w:=
 wp_region_held hm (by simpa using h)
end
section
variable {P:Program} {Q:Exit->Act->World->Prop} {n:Nat} {σ:Nat->Value} {w w0:World} {K:Act->World->Prop}
 {ty:TypeId} {pos:String} {aft:Array Edge} {g:Option (Nat×Bool)} {d:Nat} {t yt:TypeId} {x y z:Operand} {S:List Nat} {L:List Ch} {op:BinOp}
theorem L0{x:Operand}  :
  (execOp (ev n σ) ⟨some d,.move x,ty,pos,aft,g⟩).run P w=.ok (.value ((ev n σ x))) w:=
 (by simp[execOp])
theorem eG{x:Operand}  :
  (execOp (ev n σ) ⟨some d,.assign x,ty,pos,aft,g⟩).run P w=.ok (.value ((ev n σ x))) w:=
 (by simp[execOp])
theorem vX{c x y:Operand}{b:Bool}(hc:ev n σ c=.bool b)  :
  (execOp (ev n σ) ⟨some d,.pick c x y,ty,pos,aft,g⟩).run P w=.ok (.value ((bif b then ev n σ x else ev n σ y))) w:=
 (by cases b<;>simp[execOp,hc,asBool])
theorem bZ{x:Operand}{vs:Array Value}{v:Value}(hx:ev n σ x=.tuple vs)(hv:vs[i]? =some v)  :
  (execOp (ev n σ) ⟨some d,.extract x i,ty,pos,aft,g⟩).run P w=.ok (.value (v)) w:=
 (by simp[execOp,hx,Instr.extract,hv])
theorem jY{x:Operand}{a:Addr}(hx:ev n σ x=.pointer (some a))  :
  (execOp (ev n σ) ⟨some d,.nilCheck x,ty,pos,aft,g⟩).run P w=.ok (.value ((.pointer (some a)))) w:=
 (by simp[execOp,hx])
theorem zF{x:Operand}{b:Bool}{t:TypeId}(hx:ev n σ x=.bool b)  :
  (execOp (ev n σ) ⟨some d,.unOp .not t x,ty,pos,aft,g⟩).run P w=.ok (.value ((.bool (!b)))) w:=
 (by simp[execOp,hx,Op.unary])
theorem D2{a b:Int}{v:Value}(hx:ev n σ x=.int k a)(hy:ev n σ y=.int k b)
  (hr:∀w:World,(binOp op t (.int k a) (.int k b)).run P w=.ok v w)  :
  (execOp (ev n σ) ⟨some d,.binOp op t x y yt,ty,pos,aft,g⟩).run P w=.ok (.value (v)) w:=
 (by
  have he:(eqGuard op t x y (.int k a) (.int k b)).run P w=.ok () w:=by
   unfold eqGuard
   cases op<;>simp
  simp[execOp,hx,hy,he,hr])
theorem nY{yk:IntKind}{a b:Int}{v:Value}(hx:ev n σ x=.int k a)(hy:ev n σ y=.int yk b)(ho:op=.shl\/op=.shr)
  (hr:∀w:World,(Op.shift op k a yk b).run P w=.ok v w)  :
  (execOp (ev n σ) ⟨some d,.binOp op t x y yt,ty,pos,aft,g⟩).run P w=.ok (.value (v)) w:=
 (by
  rcases ho with rfl|rfl<;>simp[execOp,hx,hy,eqGuard,binOp,hr])
theorem IY{a:Int}{v:Value}{uo:UnOp}(hx:ev n σ x=.int k a)
  (hr:∀w:World,(Op.unary uo (.int k a)).run P w=.ok v w)  :
  (execOp (ev n σ) ⟨some d,.unOp uo t x,ty,pos,aft,g⟩).run P w=.ok (.value (v)) w:=
 (by simp[execOp,hx,hr])
theorem iP{a:Int}{ds:TypeDesc}{v:Int}(hs:P.underlying t=some ds)(hd:P.underlying yt=some (.int k'))(hx:ev n σ x=.int k a)
  (hr:k'.wrap a=v)  :
  (execOp (ev n σ) ⟨some d,.convert t yt x,ty,pos,aft,g⟩).run P w=.ok (.value ((.int k' v))) w:=
 (by
  have h1:(underlying t).run P w=.ok ds w:=run_underlying hs w
  have h2:(underlying yt).run P w=.ok (.int k') w:=run_underlying hd w
  cases ds<;>simp[execOp,hx,convert,h1,h2,Conv.intToInt,hr])
theorem OT{a b:Bool}(hu:P.underlying t=some .bool)(hx:ev n σ x=.bool a)(hy:ev n σ y=.bool b)  :
  (execOp (ev n σ) ⟨some d,.binOp .eql t x y yt,ty,pos,aft,g⟩).run P w=.ok (.value ((.bool (a==b)))) w:=
 (by
  have e1:(Op.equal t (.bool a) (.bool b)).run P w=.ok (a==b) w:=run_equal_bool hu a b w
  have e2:binOp .eql t (.bool a) (.bool b)=(do pure (.bool (<-Op.equal t (.bool a) (.bool b)))):=rfl
  simp[execOp,hx,hy,eqGuard,e2,e1])
theorem Br{a b:Bool}(hu:P.underlying t=some .bool)(hx:ev n σ x=.bool a)(hy:ev n σ y=.bool b)  :
  (execOp (ev n σ) ⟨some d,.binOp .neq t x y yt,ty,pos,aft,g⟩).run P w=.ok (.value ((.bool (!(a==b))))) w:=
 (by
  have e1:(Op.equal t (.bool a) (.bool b)).run P w=.ok (a==b) w:=run_equal_bool hu a b w
  have e2:binOp .neq t (.bool a) (.bool b)=(do pure (.bool (!(<-Op.equal t (.bool a) (.bool b))))):=rfl
  simp[execOp,hx,hy,eqGuard,e2,e1])
theorem OU{a b:ByteArray}{v:Value}(hx:ev n σ x=.string a)(hy:ev n σ y=.string b)
  (hr:∀w:World,(Op.stringOp op a b).run P w=.ok v w)(ho:op≠ .shl/\op≠ .shr)  :
  (execOp (ev n σ) ⟨some d,.binOp op t x y yt,ty,pos,aft,g⟩).run P w=.ok (.value (v)) w:=
 (by
  have he:(eqGuard op t x y (.string a) (.string b)).run P w=.ok () w:=by
   unfold eqGuard
   cases op<;>simp
  cases op<;>simp_all[execOp,binOp])
theorem eJ{b k:Nat}(hx:ev n σ x=.pointer (some ⟨b,o,none⟩))(hf:aP P t i=some k)  :
  (execOp (ev n σ) ⟨some d,.fieldAddr t x i,ty,pos,aft,g⟩).run P w=.ok (.value ((.pointer (some ⟨b,o+k,none⟩)))) w:=by
 unfold aP at hf
 cases hu:P.underlying t with
|none=>simp[hu]at hf
|some ds=>
  cases ds<;>simp only[hu]at hf<;>try (cases hf)
  rename_i fs
  cases Y6:fs[i]? with
 |none=>simp[Y6]at hf
 |some f=>
   cases hj:P.info? f.type with
  |none=>simp[Y6,hj]at hf
  |some j=>
    simp only[Y6,hj,CA]at hf
    split at hf
    ·cases hf
    ·cases hf
     rename_i G4
     simp[execOp,hx,Instr.fieldAt,run_underlying hu,Y6,Instr.sureAddr,fieldPlace,sizeOf,typeInfo,hj,G4,gU]
theorem T3{b sz:Nat}{i:Int}(hx:ev n σ x=.pointer (some ⟨b,o,none⟩))(hy:ev n σ y=.int k i)(ha:U7 P t=some (len,sz))(h0:0<=i)(h1:i<len)  :
  (execOp (ev n σ) ⟨some d,.indexAddr t x y,ty,pos,aft,g⟩).run P w=.ok (.value ((.pointer (some ⟨b,o+i.toNat*sz,none⟩)))) w:=by
 unfold U7 at ha
 cases hu:P.underlying t with
|none=>simp[hu]at ha
|some ds=>
  cases ds<;>simp only[hu]at ha<;>try (cases ha)
  rename_i l e
  cases hj:P.info? e with
 |none=>simp[hj]at ha
 |some j=>
   simp only[hj,X6,F2,G7]at ha
   obtain⟨rfl,rfl⟩:=ha
   simp[execOp,hx,hy,Instr.indexAt,run_underlying hu,asIntOf,Instr.sureAddr,h0,h1,sizeOf,typeInfo,hj,gU]
theorem Q4{b:Nat}{T:TypeId}{v:Value}(H:Hp w0 w S L)(hi:L[i]? =some (.blk b C T))(hx:ev n σ x=.pointer (some ⟨b,o,none⟩))(ht:O5 P t=true)(hv:C[o]? =some v)  :
  (execOp (ev n σ) ⟨some d,.load t x,ty,pos,aft,g⟩).run P w=.ok (.value (v)) w:=
 (by
  have hc:w.cell? ⟨b,o,none⟩=some v:=by simp[World.cell?, H.blk hi,hv]
  simp[execOp,hx,rN ht hc])
theorem IZ{b k:Nat}{T:TypeId}(H:Hp w0 w S L)(hi:L[i]? =some (.blk b C T))(hx:ev n σ x=.pointer (some ⟨b,o,none⟩))(ht:T2 P t=some k)(hk:o+k<=C.length)  :
  (execOp (ev n σ) ⟨some d,.load t x,ty,pos,aft,g⟩).run P w=.ok (.value ((.agg ((C.drop o).take k).toArray))) w:=
 (by simp[execOp,hx,zB (H.blk hi) ht hk])
theorem vY{b:Nat}{a:Option Addr}{v:Value}(hr:RdS w a vs)(ha:a=some ⟨b,o,none⟩)(hx:ev n σ x=.pointer (some ⟨b,o+i,none⟩))(ht:O5 P t=true)(hv:vs[i]? =some v)  :
  (execOp (ev n σ) ⟨some d,.load t x,ty,pos,aft,g⟩).run P w=.ok (.value (v)) w:=
 (by
  obtain⟨b',o',kU,hc⟩:=hr.cell hv
  rw[ha]at kU;cases kU
  simp[execOp,hx,rN ht hc])
theorem Bs{b k:Nat}{a:Option Addr}(hr:RdS w a vs)(ha:a=some ⟨b,o,none⟩)(hx:ev n σ x=.pointer (some ⟨b,o+i,none⟩))(ht:T2 P t=some k)(pV:0<k)(hk:i+k<=vs.length)  :
  (execOp (ev n σ) ⟨some d,.load t x,ty,pos,aft,g⟩).run P w=.ok (.value ((.agg ((vs.drop i).take k).toArray))) w:=by
 rcases hr with rfl|⟨b',o',C,T,fr,kU,hb,hc⟩
 ·simp at hk;omega
 ·rw[ha]at kU;cases kU
  have D8:o+vs.length<=C.size:=by
   have:=hc (vs.length-1) (vs[vs.length-1]'(by omega)) (B7 (by omega))
   have:=(Z3.1 this).1
   omega
  have e:=zB (P:=P) (t:=t) (k:=k) (b:=b) (o:=o+i) (C:=C.toList) (T:=T) (fr:=fr) (w:=w) (by simpa using hb) ht (by simp;omega)
  have e2:(C.toList.drop (o+i)).take k=(vs.drop i).take k:=by
   apply V5
   intro j
   by_cases hj:j<k
   ·rw[dU hj,dU hj,Q1,Q1,B7 (l:=vs) (by omega)]
    have:=hc (i+j) _ (B7 (by omega))
    simpa [O8] using this
   ·simp[r9,hj]
  rw[e2]at e
  simp[execOp,hx,e]
theorem JA{lo:Option Operand}{a:Option Addr}{sz l h:Nat}{lv mv:Option Value}(hx:ev n σ x=.slice a len cap)(ht:Z8 P t=some sz)
  (hl:lo.map (ev n σ)=lv)(hh:hi.map (ev n σ)=hv)(hm:mx.map (ev n σ)=mv)(hb:∀w,(Instr.sliceBounds true len cap lv hv mv).run P w=.ok (l,h,m) w)  :
  (execOp (ev n σ) ⟨some d,.slice t x lo hi mx,ty,pos,aft,g⟩).run P w=.ok (.value ((.slice (sa a l m sz) (h-l) (m-l)))) w:=by
 unfold Z8 at ht
 cases hu:P.underlying t with
|none=>simp[hu]at ht
|some ds=>
  cases ds<;>simp only[hu]at ht<;>try (cases ht)
  rename_i e
  cases hj:P.info? e with
 |none=>simp[hj]at ht
 |some j=>
   simp only[hj,X6,F2]at ht
   subst ht
   simp[execOp,hx,hl,hh,hm,Instr.sliceAt,Instr.slice,run_underlying hu,hb,sizeOf,typeInfo,hj,sa]
theorem DE{lo:Option Operand}{b sz l h:Nat}{lv mv:Option Value}(hx:ev n σ x=.pointer (some ⟨b,o,none⟩))(ht:U7 P t=some (len,sz))
  (hl:lo.map (ev n σ)=lv)(hh:hi.map (ev n σ)=hv)(hm:mx.map (ev n σ)=mv)(hb:∀w,(Instr.sliceBounds false len len lv hv mv).run P w=.ok (l,h,m) w)  :
  (execOp (ev n σ) ⟨some d,.slice t x lo hi mx,ty,pos,aft,g⟩).run P w=.ok (.value ((.slice (sa (some ⟨b,o,none⟩) l m sz) (h-l) (m-l)))) w:=by
 unfold U7 at ht
 cases hu:P.underlying t with
|none=>simp[hu]at ht
|some ds=>
  cases ds<;>simp only[hu]at ht<;>try (cases ht)
  rename_i n' e
  cases hj:P.info? e with
 |none=>simp[hj]at ht
 |some j=>
   simp only[hj,X6,F2,G7]at ht
   obtain⟨rfl,rfl⟩:=ht
   by_cases iA:m=l
   ·simp[execOp,hx,hl,hh,hm,Instr.sliceAt,Instr.sureAddr,run_underlying hu,hb,sizeOf,typeInfo,hj,sa,iA]
   ·simp[execOp,hx,hl,hh,hm,Instr.sliceAt,Instr.sureAddr,run_underlying hu,hb,sizeOf,typeInfo,hj,sa,iA]
theorem Bt{lo:Option Operand}{s:ByteArray}{l h:Nat}{lv:Option Value}(hu:P.underlying t=some .string)(hx:ev n σ x=.string s)
  (hl:lo.map (ev n σ)=lv)(hh:hi.map (ev n σ)=hv)(hb:∀w,(Instr.sliceBounds false s.size s.size lv hv none).run P w=.ok (l,h,m) w)  :
  (execOp (ev n σ) ⟨some d,.slice t x lo hi none,ty,pos,aft,g⟩).run P w=.ok (.value ((.string (s.extract l h)))) w:=
 (by simp[execOp,hx,hl,hh,Instr.sliceAt,Instr.slice,run_underlying hu,hb])
theorem z6{a:Option Addr}{sz:Nat}(ht:Z8 P t=some sz)(hx:ev n σ x=.slice a len cap)  :
  (execOp (ev n σ) ⟨some d,.call ⟨.builtin .len, #[x], #[t]⟩,ty,pos,aft,g⟩).run P w=.ok (.value ((VI len))) w:=
 (bY (s:=Builtin.len_ #[t] ty #[.slice a len cap]) (vs:= #[.slice a len cap]) (by simp[hx]) (fun _=>rfl) (by
  unfold Z8 at ht
  cases hu:P.underlying t with
 |none=>simp[hu]at ht
 |some ds=>
   cases ds<;>simp only[hu]at ht<;>try (cases ht)
   simp[Builtin.len_,run_underlying hu,goInt]))
theorem Bu{s:ByteArray}(hu:P.underlying t=some .string)(hx:ev n σ x=.string s)  :
  (execOp (ev n σ) ⟨some d,.call ⟨.builtin .len, #[x], #[t]⟩,ty,pos,aft,g⟩).run P w=.ok (.value ((VI s.size))) w:=
 (bY (s:=Builtin.len_ #[t] ty #[.string s]) (vs:= #[.string s]) (by simp[hx]) (fun _=>rfl) (by
   simp[Builtin.len_,run_underlying hu,goInt]))
theorem Bv{a b:Int}(hx:ev n σ x=.int k a)(hy:ev n σ y=.int k b)  :
  (execOp (ev n σ) ⟨some d,.call ⟨.builtin .min, #[x,y],V9⟩,ty,pos,aft,g⟩).run P w=.ok (.value ((.int k (if b<a then b else a)))) w:=
 (bY (s:=Builtin.min_ V9 ty #[.int k a,.int k b]) (vs:= #[.int k a,.int k b]) (by simp[hx,hy]) (fun _=>rfl) (run_min_int2 _ V9 ty k k a b))
theorem Bw{a b:Int}(hx:ev n σ x=.int k a)(hy:ev n σ y=.int k b)  :
  (execOp (ev n σ) ⟨some d,.call ⟨.builtin .max, #[x,y],V9⟩,ty,pos,aft,g⟩).run P w=.ok (.value ((.int k (if a<b then b else a)))) w:=
 (bY (s:=Builtin.max_ V9 ty #[.int k a,.int k b]) (vs:= #[.int k a,.int k b]) (by simp[hx,hy]) (fun _=>rfl) Bm)
theorem JB{F3:Array (Nat×Operand)}{cells:Array Value}
  (bH:W5 n σ F3.toList=pv)(hf:P.built t pv=some cells)  :
  (execOp (ev n σ) ⟨some d,.build t F3,ty,pos,aft,g⟩).run P w=.ok (.value ((.agg cells))) w:=by
 have hp:(F3.map fun(i,x)=>(i,ev n σ x)).toList=pv:=by rw[<-bH,rC,yJ]
 have:=run_build (P:=P) w t (F3.map fun(i,x)=>(i,ev n σ x)) cells (by rw[hp];exact hf)
 simp only[execOp,D1,this]
 simp
theorem Bx{a:Option Addr}{l:List UInt8}(hs:P.underlying t=some (.slice e))(he:P.underlying e=some (.int .u8))(hd:P.underlying yt=some .string)
  (hx:ev n σ x=.slice a len cap)(hr:RdS w a (l.map V8))(hl:l.length=len)  :
  (execOp (ev n σ) ⟨some d,.convert t yt x,ty,pos,aft,g⟩).run P w=.ok (.value ((.string ⟨l.toArray⟩))) w:=by
 subst hl
 exact(by
  simp only[execOp,D1,hx]
  cases a with
 |none=>
   have:l=[]:=by rcases hr with h|⟨_,_,_,_,_,h,_⟩<;>simp_all
   subst this
   rw[run_convert_bytes_string w t yt e none _ cap hs he hd]
   simp[Conv.bytesToString]
   rfl
 |some ad=>
   rw[run_convert_bytes_back w t yt e ad cap l hs he hd (fun j hj=>by
    obtain⟨b,o,ha,hc⟩:=hr.cell (i:=j) (v:=V8 l[j]) (by simp[hj])
    cases ha
    rw[gU];exact hc)]
   simp)
theorem Bz{s:ByteArray}{i:Int}{u:UInt8}(hu:P.underlying t=some .string)(hx:ev n σ x=.string s)(hy:ev n σ y=.int k i)(h0:0<=i)(hv:s.data.toList[i.toNat]? =some u)  :
  (execOp (ev n σ) ⟨some d,.index t x y,ty,pos,aft,g⟩).run P w=.ok (.value ((V8 u))) w:=by
 have hlt:i.toNat<s.size:=by
  have:=(N0.1 hv).1
  simpa using this
 have e:s[i.toNat]? =some u:=by
  rw[getElem?_pos s i.toNat hlt]
  have hh:i.toNat<s.data.toList.length:=by simpa using hlt
  rw[B7 hh]at hv
  rw[<-hv];rfl
 simp[execOp,hx,hy,Instr.index,asIntOf,run_underlying hu,h0,e]
theorem Ca{cs:Array Value}{v:Value}{fs:Array Field}{f:Field}(hu:P.underlying t=some (.struct fs))(hf:fs[i]? =some f)(hc:O5 P f.type=true)(hx:ev n σ x=.agg cs)(hv:cs[f.offset]? =some v)  :
  (execOp (ev n σ) ⟨some d,.field t x i,ty,pos,aft,g⟩).run P w=.ok (.value (v)) w:=
 (by simp[execOp,hx,Instr.field,run_underlying hu,hf,asAgg,part,nT hc,hv])
theorem Cb{a:Option Addr}{k:Nat}(hu:P.underlying t=some (.array k e))(hx:ev n σ x=.slice a len cap)(hk:k<=len)  :
  (execOp (ev n σ) ⟨some d,.sliceToArrayPointer t x,ty,pos,aft,g⟩).run P w=.ok (.value ((.pointer a))) w:=
 (by simp[execOp,hx,run_arrayAt (P:=P) (w:=w) t e k a len cap hu hk])
theorem DF{a:Option Addr}{b sz:Nat}{i:Int}(hx:ev n σ x=.slice a len cap)(hy:ev n σ y=.int k i)(ha:Z8 P t=some sz)(hb:a=some ⟨b,o,none⟩)(h0:0<=i)(h1:i<len):
  (execOp (ev n σ) ⟨some d,.indexAddr t x y,ty,pos,aft,g⟩).run P w=.ok (.value (.pointer (some ⟨b,o+i.toNat*sz,none⟩))) w:=by
 subst hb
 unfold Z8 at ha
 cases hu:P.underlying t with
|none=>simp[hu]at ha
|some ds=>
  cases ds<;>simp only[hu]at ha<;>try (cases ha)
  rename_i e
  cases hj:P.info? e with
 |none=>simp[hj]at ha
 |some j=>
   simp only[hj,X6,F2]at ha
   subst ha
   simp[execOp,hx,hy,Instr.indexAt,run_underlying hu,asIntOf,h0,h1,sizeOf,typeInfo,hj,gU]
variable {ops:Array Oper} {S':World->Prop} {fuel:Nat} {listed:Array Bool} {dst:Option Tmp} {oo:Op}
theorem Cc(i:Nat){v:Value}(hi:ops[i]? =some ⟨some d,oo,ty,pos,aft,none⟩)(hs:Region.noSelect ops=true)(hf:Region.free .any ops listed i=true)(hr:(Region.ready .any ops listed).contains i=true)
  (hQ:∀c a w,Q (.panic c) (a.put (some d) v) w->Q (.panic c) a w)
  (hy:∀w,S' w->(execOp (ev n σ) ⟨some d,oo,ty,pos,aft,none⟩).run P w=.ok (.value v) w)(hS:S' w)
  (h:wpAnyH P .any ops Q S' fuel (listed.setIfInBounds i true) (mk n (up σ d v)) w):wpAnyH P .any ops Q S' (fuel+1) listed (mk n σ) w:=
 wpAnyH_take (v:=v) hi hs hf hr hQ (.inl ⟨rfl,fun w hw=>by rw[W6];exact hy w hw⟩) hS (by show wpAnyH P .any ops Q S' fuel _ ((mk n σ).put (some d) v) w;rw[eF];exact h)
theorem Cd(i:Nat){b c:Bool}(hi:ops[i]? =some ⟨some d,oo,ty,pos,aft,some (j,b)⟩)(hs:Region.noSelect ops=true)(hf:Region.free .any ops listed i=true)(hr:(Region.ready .any ops listed).contains i=true)
  (hQ:∀c a w,Q (.panic c) (a.put (some d) undef) w->Q (.panic c) a w)(hg:yielded ops (mk n σ).tmps j=some c)(hc:(c==b)=false)(hS:S' w)
  (h:wpAnyH P .any ops Q S' fuel (listed.setIfInBounds i true) (mk n (up σ d undef)) w):wpAnyH P .any ops Q S' (fuel+1) listed (mk n σ) w:=
 wpAnyH_take (v:=undef) hi hs hf hr hQ (.inr ⟨by simp[Region.wanted,hg];intro e;subst e;simp at hc,rfl⟩) hS (by show wpAnyH P .any ops Q S' fuel _ ((mk n σ).put (some d) undef) w;rw[eF];exact h)
theorem JC(i:Nat){a:Act}(hi:ops[i]? =some ⟨dst,oo,ty,pos,aft,none⟩)(hr:Region.ready .any ops listed=[i])
  (h:Oper.wp P ⟨dst,oo,ty,pos,aft,none⟩ a w (fun a' w'=>S' w'/\wpAnyH P .any ops Q S' fuel (listed.setIfInBounds i true) a' w') Q):wpAnyH P .any ops Q S' (fuel+1) listed a w:=
 wpAnyH_all hr (by simp) (by
  simp only[O9,forall_eq]
  unfold wpOp
  simp only[hi]
  rw[if_pos (by simp[Region.wanted])]
  exact .inl h)
theorem OV{a:Act}(hr:Region.ready .any ops listed=[])(h:Q .normal a w):wpAnyH P .any ops Q S' fuel listed a w:=wpAnyH_done hr h fuel
theorem Ce(h:∀G:Nat->Array Bool->(Nat->Value)->World->Prop,(∀f l τ w,G f l τ w↔wpAnyH P .any ops Q S' f l (mk n τ) w)->G fuel listed σ w):wpAnyH P .any ops Q S' fuel listed (mk n σ) w:=
 (h (fun f l τ w=>wpAnyH P .any ops Q S' f l (mk n τ) w) (fun _ _ _ _=>Iff.rfl))
theorem zG{G:Nat->Array Bool->(Nat->Value)->World->Prop}(hG:∀f l τ w,G f l τ w↔wpAnyH P .any ops Q S' f l (mk n τ) w){G5:List (Nat×Value)}(h:∀τ,G fuel listed (l7 τ G5) w)(hp:fits σ G5):
  wpAnyH P .any ops Q S' fuel listed (mk n σ) w:=by
 have:=(hG _ _ _ _).1 (h σ)
 rwa [rE σ _ hp]at this
theorem Cg{G:Nat->Array Bool->(Nat->Value)->World->Prop}{G5:List (Nat×Value)}(h:∀τ,G fuel listed (l7 τ G5) w)(hp:fits σ G5):G fuel listed σ w:=by
 have:=h σ
 rwa [rE σ _ hp]at this
theorem Ci{a:Act}(rs:List Nat)(hr:Region.ready .any ops listed=rs)(D6:rs≠[])
  (h:∀i∈rs,wpOp P ops Q i (fun a' w'=>S' w'/\wpAnyH P .any ops Q S' fuel (listed.setIfInBounds i true) a' w') a w):wpAnyH P .any ops Q S' (fuel+1) listed a w:=wpAnyH_all hr D6 h
theorem vZ(i:Nat){a:Act}(hi:ops[i]? =some ⟨dst,oo,ty,pos,aft,none⟩)(h:Oper.wp P ⟨dst,oo,ty,pos,aft,none⟩ a w K Q):wpOp P ops Q i K a w:=by
 unfold wpOp
 simp only[hi]
 rw[if_pos (by simp[Region.wanted])]
 exact .inl h
theorem Hp.perm{L':List Ch}(h:Hp w0 w S L)(hp:L.Perm L'):Hp w0 w S L':=
 ⟨h.os,h.tape,h.output,h.size,h.frame,fun c hc=>h.has c (hp.mem_iff.2 hc),fun c hc=>h.fresh c (hp.mem_iff.2 hc),
  (hp.pairwise_iff (fun {_ _} hxy b hb hx=>hxy b hx hb)).1 h.nd⟩
theorem OW(A B:List Ch)(c:Ch):(A++B++[c]).Perm (A++c::B):=by
 rw[I0]
 exact List.Perm.append_left A (NV c B)
theorem rP{id:Nat}{a:Act}{l:List Oper}(hm:P.follows .mixedOrders=true)(hB:Region.lexB .any l.toArray=true)
  (h:wpStill P l.toArray w.drew (fun a'=>Q .normal a' w.drew) l a):(Code.region id l.toArray true).wp P Q a w:=wp_region_still_lit hm hB h
theorem JD{id:Nat}{a:Act}{l:List Oper}(k:Nat)(hm:P.follows .mixedOrders=true)(hB:Region.lexTailB .any l.toArray k=true)
  (h:wpStill P l.toArray w.drew (fun a'=>wpList P l.toArray Q (l.drop k) a' w.drew) (l.take k) a):(Code.region id l.toArray true).wp P Q a w:=wp_region_still_tail k hm hB h
variable {Qs:Act->Prop} {rest:List Oper}
theorem A9{v:Value}(hy:(execOp (ev n σ) ⟨some d,oo,ty,pos,aft,none⟩).run P w=.ok (.value v) w)(h:wpStill P ops w Qs rest (mk n (up σ d v))):
  wpStill P ops w Qs (⟨some d,oo,ty,pos,aft,none⟩::rest) (mk n σ):=by
 unfold wpStill
 rw[if_pos (by simp[Region.wanted])]
 unfold Oper.still
 rw[W6,hy]
 exact⟨rfl,by show wpStill P ops w Qs rest ((mk n σ).put (some d) v);rw[eF];exact h⟩
theorem jZ{a:Act}(h:Qs a):wpStill P ops w Qs [] a:=h
def Ret(P:Program)(f:FuncId)(vs:List Value)(w:World)(R:Value->World->Prop):Prop:=Calls P f vs.toArray w fun e w'=>∃v,e=.returned v/\R v w'
theorem Ret.mono{f:FuncId}{R R':Value->World->Prop}(h:Ret P f vs w R)(hr:∀v w',R v w'->R' v w'):Ret P f vs w R':=
 w9 h fun _ w' ⟨v,he,hv⟩=>⟨v,he,hr v w' hv⟩
theorem N4{f:FuncId}{fn:Func}{args:Array Operand}{vs:List Value}{R:Value->World->Prop}(hf:P.funcs[f]? =some fn)(hb:fn.body.isSome=true)(fA:(fn.name == "runtime.NumGoroutine")=false)
  (ha:rA n σ args.toList=vs)(hc:Ret P f vs w R)(h:∀v w',R v w'->K (mk n (up σ d v)) w'):
  Oper.wp P ⟨some d,.call ⟨.value (.func f),args,V9⟩,ty,pos,aft,g⟩ (mk n σ) w K Q:=
 Ao hf hb fA (vs:=vs.toArray) (by apply U0;rw[<-ha,yU];simp) (w9 hc fun e w' ⟨v,he,hv⟩=>by subst he;exact h v w' hv)
theorem nZ{f:FuncId}{fn:Func}{args:Array Operand}{vs:List Value}{v:Value}(hf:P.funcs[f]? =some fn)(hb:fn.body.isSome=true)(fA:(fn.name == "runtime.NumGoroutine")=false)
  (ha:rA n σ args.toList=vs)(hc:Ret P f vs w fun x w'=>x=v/\w'=w)(h:wpStill P ops w Qs rest (mk n (up σ d v))):
  wpStill P ops w Qs (⟨some d,.call ⟨.value (.func f),args,V9⟩,ty,pos,aft,none⟩::rest) (mk n σ):=by
 unfold wpStill
 rw[if_pos (by simp[Region.wanted])]
 unfold Oper.still
 have hn:fn.body≠none:=by cases hh:fn.body<;>simp_all
 have P0:fn.name≠ "runtime.NumGoroutine" :=by intro e;simp[e]at fA
 have kU:args.map (ev n σ)=vs.toArray:=by apply U0;rw[<-ha,yU];simp
 have:(execOp (mk n σ).eval ⟨some d,.call ⟨.value (.func f),args,V9⟩,ty,pos,aft,none⟩).run P w=.ok (.enter f vs.toArray) w:=by
  rw[W6]
  simp[execOp,resolve,ev,Deferred.ofValue,invoke,callFunc,hf,P0,hn,kU]
 rw[this]
 refine⟨rfl,v,w9 hc fun e w' ⟨x,he,hx,hw⟩=>⟨by rw[he,hx],hw⟩,?_⟩
 show wpStill P ops w Qs rest ((mk n σ).put (some d) v)
 rw[eF];exact h
theorem T4{f:FuncId}{fn:Func}{c:Code}{args:List Value}{R:Value->World->Prop}{n:Nat}
  (hf:P.funcs[f]? =some fn)(hb:fn.body=some c)(hn:fn.ntmps=n)(B3:args.length<=n)
  (h:c.wp P (bodyPost P fn fun e w'=>∃v,e=.returned v/\R v w') (mk n (fun t=>args.getD t undef)) w):Ret P f args w R:=
 IE hf hb hn B3 h
end
section
variable {P:Program} {n:Nat} {σ:Nat->Value} {w:World} {Q:Exit->Act->World->Prop}
end
theorem oM{p:Prop}(h:p:=by omega):p:=h
theorem bF{p:Prop} [Decidable p](h:¬ p):Value.bool (decide p)=Value.bool false:=congrArg Value.bool (decide_eq_false h)
theorem bT{p:Prop} [Decidable p](h:p):Value.bool (decide p)=Value.bool true:=congrArg Value.bool (decide_eq_true h)
theorem B9{K G:Prop}(k:K)(h:K->G:=by intro k;exact A3 (G6 L0 k)):G:=h k
theorem aZ{K G:Prop}(k:K)(h:K->G:=by intro k;exact A3 (G6 eG k)):G:=h k
theorem eN{K G:Prop}(k:K)(h:K->G:=by intro k;first|exact IF k|exact yV k):G:=h k
theorem rG{K G:Prop}(k:K)(h:K->G:=by intro k;(repeat refine D9 ?_);exact CM k):G:=h k
theorem l9{K G:Prop}(k:K)(h:K->G:=by intro k;refine iL ?_;(try dsimp only[Exit.then,Exit.inBlock]);exact k):G:=h k
theorem eZ{K G:Prop}(k:K)(h:K->G:=by intro k;(try simp only[Exit.then,Exit.inBlock, ↓reduceIte]);exact II k):G:=h k
theorem qN{K G:Prop}(k:K)(h:K->G:=by intro k;(repeat refine D9 ?_);exact bV rfl k):G:=h k
theorem qY{K G:Prop}(k:K)(h:K->G:=by intro k;(repeat refine D9 ?_);exact bU rfl k):G:=h k
theorem qB{K G:Prop}(k:K)(h:K->G:=by intro k;(repeat refine D9 ?_);exact OD k):G:=h k
theorem qS{K G:Prop}(k:K)(h:K->G:=by intro k;exact M5 k):G:=h k
section
variable {P:Program} {Q:Exit->Act->World->Prop} {n:Nat} {σ:Nat->Value} {w:World} {ty:TypeId} {pos:String} {aft:Array Edge} {d:Nat} {ops:Array Oper} {S':World->Prop} {fuel:Nat} {listed:Array Bool} {oo:Op}
theorem lV{rest:List Oper}{v:Value}(hr:(execOp (ev n σ) ⟨some d,oo,ty,pos,aft,none⟩).run P w=.ok (.value v) w)(h:wpList P ops Q rest (mk n (up σ d v)) w):wpList P ops Q (⟨some d,oo,ty,pos,aft,none⟩::rest) (mk n σ) w:=A3 (G6 hr h)
theorem tK(i:Nat){v:Value}(hi:ops[i]? =some ⟨some d,oo,ty,pos,aft,none⟩)(hr:∀w,S' w->(execOp (ev n σ) ⟨some d,oo,ty,pos,aft,none⟩).run P w=.ok (.value v) w)(hS:S' w)(h:wpAnyH P .any ops Q S' fuel (listed.setIfInBounds i true) (mk n (up σ d v)) w)
  (h1:Region.noSelect ops=true:=by kernel_rfl)(h2:Region.free .any ops listed i=true:=by kernel_rfl)(h3:(Region.ready .any ops listed).contains i=true:=by kernel_rfl)(hq:∀c (a:Act) w,Q (.panic c) (a.put (some d) v) w->Q (.panic c) a w:=by exact fun _ _ _ h=>h):
  wpAnyH P .any ops Q S' (fuel+1) listed (mk n σ) w:=Cc i hi h1 h2 h3 hq hr hS h
theorem yK{e:Nat}{b:Bool}(hd:(ops[j]?.bind fun x=>x.dst)=some e)(hl:e.blt n=true)(hs:σ e=Value.bool b):yielded ops (mk n σ).tmps j=some b:=CN ops j e hd b hl hs
theorem tNo(i:Nat){b c:Bool}(hi:ops[i]? =some ⟨some d,oo,ty,pos,aft,some (j,b)⟩)(hy:yielded ops (mk n σ).tmps j=some c)(hb:(c==b)=false)(hS:S' w)(h:wpAnyH P .any ops Q S' fuel (listed.setIfInBounds i true) (mk n (up σ d undef)) w)
  (h1:Region.noSelect ops=true:=by kernel_rfl)(h2:Region.free .any ops listed i=true:=by kernel_rfl)(h3:(Region.ready .any ops listed).contains i=true:=by kernel_rfl)(hq:∀c (a:Act) w,Q (.panic c) (a.put (some d) undef) w->Q (.panic c) a w:=by exact fun _ _ _ h=>h):
  wpAnyH P .any ops Q S' (fuel+1) listed (mk n σ) w:=Cd i hi h1 h2 h3 hq hy hb hS h
end
theorem mixed:Tryz.prog.follows .mixedOrders=true:=by kernel_rfl
theorem DG:O5 Tryz.prog 4=true:=by kernel_rfl
theorem Cj:K0 Tryz.prog 4=some 1:=by kernel_rfl
theorem oA:O5 Tryz.prog 5=true:=by kernel_rfl
theorem wA:K0 Tryz.prog 5=some 1:=by kernel_rfl
theorem oB:zeroCells Tryz.prog 5=some [Value.int .u8 0]:=by kernel_rfl
theorem aQ:T2 Tryz.prog 34=some 32:=by kernel_rfl
theorem iQ:K0 Tryz.prog 34=some 32:=by kernel_rfl
theorem aR:zeroCells Tryz.prog 34=some (replicate 32 (Value.int .u8 0)):=by kernel_rfl
theorem rQ:U7 Tryz.prog 34=some (32,1):=by kernel_rfl
theorem DH:O5 Tryz.prog 36=true:=by kernel_rfl
theorem JE:zeroCells Tryz.prog 36=some [Value.slice none 0 0]:=by kernel_rfl
theorem aS:Z8 Tryz.prog 36=some 1:=by kernel_rfl
theorem eK:SlTy Tryz.prog 36 5 1 1:=.mk' (by kernel_rfl) (by kernel_rfl)
theorem DI:O5 Tryz.prog 42=true:=by kernel_rfl
theorem Ck:K0 Tryz.prog 42=some 1:=by kernel_rfl
theorem DJ:Z8 Tryz.prog 68=some 1:=by kernel_rfl
theorem JF:SlTy Tryz.prog 68 36 1 24:=.mk' (by kernel_rfl) (by kernel_rfl)
theorem OX:Z8 Tryz.prog 153=some 35:=by kernel_rfl
theorem Cl:T2 Tryz.prog 156=some 35:=by kernel_rfl
theorem Cm:K0 Tryz.prog 156=some 35:=by kernel_rfl
theorem Cn:zeroCells Tryz.prog 156=some ([Value.string .empty]++[Value.int .i64 0]++(replicate 32 (Value.int .u8 0))++[Value.int .i64 0]):=by kernel_rfl
theorem Co:aP Tryz.prog 156 2=some 2:=by kernel_rfl
theorem zH:O5 Tryz.prog 181=true:=by kernel_rfl
theorem OY:K0 Tryz.prog 181=some 1:=by kernel_rfl
theorem Cp:zeroCells Tryz.prog 181=some [Value.slice none 0 0]:=by kernel_rfl
theorem zI:Z8 Tryz.prog 181=some 32:=by kernel_rfl
theorem oC:SlTy Tryz.prog 181 34 32 32:=.mk' (by kernel_rfl) (by kernel_rfl)
theorem OZ:Z8 Tryz.prog 184=some 33:=by kernel_rfl
theorem Cq:O5 Tryz.prog 201=true:=by kernel_rfl
theorem Cr:T2 Tryz.prog 234=some 33:=by kernel_rfl
theorem Cs:K0 Tryz.prog 234=some 33:=by kernel_rfl
theorem Ct:zeroCells Tryz.prog 234=some ((replicate 32 (Value.int .u8 0))++[Value.slice none 0 0]):=by kernel_rfl
theorem PA:aP Tryz.prog 234 0=some 0:=by kernel_rfl
theorem Cu:aP Tryz.prog 234 1=some 32:=by kernel_rfl
theorem JG:O5 Tryz.prog 241=true:=by kernel_rfl
theorem N9:O5 Tryz.prog 247=true:=by kernel_rfl
theorem DK:K0 Tryz.prog 247=some 1:=by kernel_rfl
theorem PB:T2 Tryz.prog 248=some 8:=by kernel_rfl
theorem PC:K0 Tryz.prog 248=some 8:=by kernel_rfl
theorem PD:zeroCells Tryz.prog 248=some (replicate 8 (Value.int .u32 0)):=by kernel_rfl
theorem R5:U7 Tryz.prog 248=some (8,1):=by kernel_rfl
theorem PE:Bld Tryz.prog 248 ((replicate 8 (Value.int .u32 0))).toArray (fun i=>some (i*1,1)):=Bld.arr R5 PD
theorem zJ:U7 Tryz.prog 249=some (64,1):=by kernel_rfl
theorem Cv:T2 Tryz.prog 251=some 74:=by kernel_rfl
theorem Cw:K0 Tryz.prog 251=some 74:=by kernel_rfl
theorem PF:zeroCells Tryz.prog 251=some ([Value.bool false]++(replicate 8 (Value.int .u32 0))++(replicate 64 (Value.int .u8 0))++[Value.int .u64 0]):=by kernel_rfl
theorem Cy:aP Tryz.prog 251 0=some 0:=by kernel_rfl
theorem DL:aP Tryz.prog 251 1=some 1:=by kernel_rfl
theorem PG:aP Tryz.prog 251 2=some 9:=by kernel_rfl
theorem zL:aP Tryz.prog 251 3=some 73:=by kernel_rfl
theorem Cz:nX Tryz.prog 251=some #[(0,1),(1,8),(9,64),(73,1)]:=by kernel_rfl
theorem Da:Bld Tryz.prog 251 (([Value.bool false]++(replicate 8 (Value.int .u32 0))++(replicate 64 (Value.int .u8 0))++[Value.int .u64 0])).toArray (fun i=>(#[(0,1),(1,8),(9,64),(73,1)]:Array (Nat×Nat))[i]?):=Bld.str Cz PF
theorem Db:T2 Tryz.prog 262=some 2:=by kernel_rfl
theorem PH:K0 Tryz.prog 262=some 2:=by kernel_rfl
theorem JH:zeroCells Tryz.prog 262=some ([Value.slice none 0 0]++[Value.bool false]):=by kernel_rfl
theorem Dc:aP Tryz.prog 262 0=some 0:=by kernel_rfl
theorem PI:aP Tryz.prog 262 1=some 1:=by kernel_rfl
theorem Dd:nX Tryz.prog 262=some #[(0,1),(1,1)]:=by kernel_rfl
theorem De:Bld Tryz.prog 262 (([Value.slice none 0 0]++[Value.bool false])).toArray (fun i=>(#[(0,1),(1,1)]:Array (Nat×Nat))[i]?):=Bld.str Dd JH
theorem JI:T2 Tryz.prog 265=some 64:=by kernel_rfl
theorem DM:K0 Tryz.prog 265=some 64:=by kernel_rfl
theorem wC:zeroCells Tryz.prog 265=some (replicate 64 (Value.int .u32 0)):=by kernel_rfl
theorem lP:U7 Tryz.prog 265=some (64,1):=by kernel_rfl
theorem Df:Bld Tryz.prog 265 ((replicate 64 (Value.int .u32 0))).toArray (fun i=>some (i*1,1)):=Bld.arr lP wC
def fU(x:UInt32)(k:Nat):UInt32:=(x<<<UInt32.ofNat k)|||(x>>>UInt32.ofNat (32-k))
def JJ(b:List UInt8)(j:Nat):UInt32:=
 (((b.getD (4*j) 0).toUInt32<<<UInt32.ofNat 24)|||((b.getD (4*j+1) 0).toUInt32<<<UInt32.ofNat 16)|||((b.getD (4*j+2) 0).toUInt32<<<UInt32.ofNat 8))|||(b.getD (4*j+3) 0).toUInt32
def oD(b:List UInt8):Nat->List UInt32
|0=>[]
|j+1=>oD b j++[JJ b j]
def PJ(x:UInt32):UInt32:=(fU x 25^^^fU x 14)^^^(x>>>UInt32.ofNat 3)
def PK(y:UInt32):UInt32:=(fU y 15^^^fU y 13)^^^(y>>>UInt32.ofNat 10)
def DN(l:List UInt32):UInt32:=
 (l.getD (l.length-16) 0+PJ (l.getD (l.length-15) 0)+l.getD (l.length-7) 0)+PK (l.getD (l.length-2) 0)
def Q5(b:List UInt8):Nat->List UInt32
|0=>oD b 16
|k+1=>Q5 b k++[DN (Q5 b k)]
structure S8 where
 a:UInt32
 b:UInt32
 c:UInt32
 d:UInt32
 e:UInt32
 f:UInt32
 g:UInt32
 h:UInt32
def S8.l(s:S8):List UInt32:=[s.a,s.b,s.c,s.d,s.e,s.f,s.g,s.h]
def iR:List UInt32:=[
 0x428a2f98,0x71374491,0xb5c0fbcf,0xe9b5dba5,0x3956c25b,0x59f111f1,0x923f82a4,0xab1c5ed5,
 0xd807aa98,0x12835b01,0x243185be,0x550c7dc3,0x72be5d74,0x80deb1fe,0x9bdc06a7,0xc19bf174,
 0xe49b69c1,0xefbe4786,0x0fc19dc6,0x240ca1cc,0x2de92c6f,0x4a7484aa,0x5cb0a9dc,0x76f988da,
 0x983e5152,0xa831c66d,0xb00327c8,0xbf597fc7,0xc6e00bf3,0xd5a79147,0x06ca6351,0x14292967,
 0x27b70a85,0x2e1b2138,0x4d2c6dfc,0x53380d13,0x650a7354,0x766a0abb,0x81c2c92e,0x92722c85,
 0xa2bfe8a1,0xa81a664b,0xc24b8b70,0xc76c51a3,0xd192e819,0xd6990624,0xf40e3585,0x106aa070,
 0x19a4c116,0x1e376c08,0x2748774c,0x34b0bcb5,0x391c0cb3,0x4ed8aa4a,0x5b9cca4f,0x682e6ff3,
 0x748f82ee,0x78a5636f,0x84c87814,0x8cc70208,0x90befffa,0xa4506ceb,0xbef9a3f7,0xc67178f2]
def zM:S8:=⟨0x6a09e667,0xbb67ae85,0x3c6ef372,0xa54ff53a,0x510e527f,0x9b05688c,0x1f83d9ab,0x5be0cd19⟩
def PL(s:S8)(k w:UInt32):S8:=
 let up:=(fU s.e 26^^^fU s.e 21)^^^fU s.e 7
 let x:=(((s.h+up)+((s.e&&&s.f)^^^(~~~s.e&&&s.g)))+k)+w
 let down:=(fU s.a 30^^^fU s.a 19)^^^fU s.a 10
 let y:=down+(((s.a&&&s.b)^^^(s.a&&&s.c))^^^(s.b&&&s.c))
 ⟨x+y,s.a,s.b,s.c,s.d+x,s.e,s.f,s.g⟩
def lQ(ws:List UInt32)(s:S8):Nat->S8
|0=>s
|i+1=>PL (lQ ws s i) (iR.getD i 0) (ws.getD i 0)
def fW(s t:S8):S8:=⟨s.a+t.a,s.b+t.b,s.c+t.c,s.d+t.d,s.e+t.e,s.f+t.f,s.g+t.g,s.h+t.h⟩
def rU(s:S8)(blk:List UInt8):S8:=fW s (lQ (Q5 blk 48) s 64)
theorem JK(b:List UInt8):∀j,(oD b j).length=j
|0=>rfl
|j+1=>by simp[oD,JK b j]
theorem DO(b:List UInt8):∀k,(Q5 b k).length=16+k
|0=>JK b 16
|k+1=>by simp[Q5,DO b k];omega
def L3(l:List UInt32):List Value:=l.map E9++replicate (64-l.length) (E9 0)
theorem zN(l:List UInt32)(h:l.length<=64):(L3 l).length=64:=by simp[L3];omega
theorem JL(l:List UInt32)(j:Nat)(h:j<l.length):(L3 l)[j]? =some (E9 (l.getD j 0)):=by
 rw[L3,N7 (by simpa using h)]
 simp[h]
theorem PM(l:List UInt32)(v:UInt32)(h:l.length<64):(L3 l).set l.length (E9 v)=L3 (l++[v]):=by
 unfold L3
 rw[cS _ _ (by simp)]
 have:64-l.length=(64-(l++[v]).length)+1:=by simp;omega
 rw[this,List.replicate_succ]
 simp
theorem Dg:∀kk:Fin 32,(UInt64.ofNat (18446744073709551584+kk.val))&&&UInt64.ofNat 31=UInt64.ofNat kk.val:=by decide
theorem Dh(kk:Nat)(_h:kk<32):u64.wrap ((kk:Int)-32)=((UInt64.ofNat (18446744073709551584+kk)).toNat:Int):=by
 rw[lN,aH];omega
theorem kC(x:UInt32)(kk:Nat)(w:World)(h2:kk<32)(h3:0<kk)(k:Int)(hk:k=(kk:Int)-32):
  Ret Tryz.prog 200 [E9 x,VI k] w fun v w'=>v=E9 (fU x kk)/\w'=w:=by
 subst hk
 refine T4 Tryz.func200 rfl Tryz.ntmps200 (by simp) ?_
 refine rG ?_;refine A3 (U5 ?_);refine eN ?_
 have e:=Dg ⟨kk,h2⟩
 simp only at e
 have hk:((UInt64.ofNat kk).toNat:Int)=kk:=by rw[aH];omega
 have hs:((UInt64.ofNat 32-UInt64.ofNat kk).toNat:Int)=32-kk:=by rw[UInt64.toNat_sub,aH,aH];omega
 refine rG ?_;refine A3 (E8 ?_);refine A3 (rJ Tryz.underlying3 Tryz.underlying172 rfl (Dh kk h2) ?_);refine A3 (J2 rfl (yZ 31 (by decide)) (fun _=>Ay) ?_);refine A3 (U5 ?_);refine eN ?_
 rw[e]
 refine rG ?_;refine A3 (E8 ?_);refine A3 (E8 ?_);refine A3 (rI rfl rfl (.inl rfl) (fun _=>CV oM oM) ?_);refine A3 (E8 ?_);refine A3 (E8 ?_);refine A3 (J2 (yZ 32 (by decide)) rfl (fun _=>Av) ?_);refine A3 (rI rfl rfl (.inr rfl) (fun _=>CW oM oM) ?_);refine A3 (J2 rfl rfl (fun _=>CU) ?_);refine A3 (U5 ?_);refine eN ?_
 refine iL (v8 (v:=.int _ _) Tryz.results200 rfl ⟨_,rfl,?_,rfl⟩);have e1:((UInt64.ofNat kk).toNat:Int).toNat=kk:=by omega
 have e2:((UInt64.ofNat 32-UInt64.ofNat kk).toNat:Int).toNat=32-kk:=by omega
 rw[fU,e1,e2]
theorem PN(w:World)(b:Nat)(on:Bool)(C:List Value)(T:TypeId)(hH:w.heap[b]? =some (.cells C.toArray T (0,0)))(hC:C[0]? =some (.bool on)):
  Ret Tryz.prog 178 [.pointer (some ⟨b,0,none⟩)] w fun v w'=>v=.bool (!on)/\w'=w:=by
 refine T4 Tryz.func178 rfl Tryz.ntmps178 (by simp) ?_
 have H:=Hp.start w (.blk b C T) b hH rfl
 refine rG ?_;refine A3 (U5 ?_);refine eN ?_
 refine rG ?_;refine A3 (E8 ?_);refine A3 (Bp Tryz.underlying205 rfl rfl ?_);refine A3 (E8 ?_);refine bR rfl rfl rfl (E8 ?_);refine bR rfl rfl rfl (rF rfl ?_);refine bR rfl rfl rfl (nU rfl Cy ?_);refine bR rfl rfl rfl (w3 H (i:=0) rfl rfl DG hC ?_);refine bR rfl rfl rfl (An rfl ?_);refine A3 (Am rfl ?_);refine A3 (U5 ?_);refine eN ?_
 exact iL (v8 (v:=.bool _) Tryz.results178 rfl ⟨_,rfl,rfl,rfl⟩)
theorem DP(b:List UInt8)(j:Nat)(h:j<b.length):(b.map V8)[j]? =some (V8 (b.getD j 0)):=by simp[h]
set_option maxHeartbeats 1000000 in
theorem Di(w0:World)(p o:Nat)(bs:List UInt8)(hb:bs.length=64)(hr:RdS w0 (some ⟨p,o,none⟩) (bs.map V8)):
  Ret Tryz.prog 199 [.pointer (some ⟨p,o,none⟩)] w0 fun v w'=>v=.agg (L3 (Q5 bs 48)).toArray/\Hp w0 w' [] []:=by
 refine T4 Tryz.func199 rfl Tryz.ntmps199 (by simp) ?_
 have H:=Hp.refl w0 []
 refine rG ?_;refine A3 (W8 H wC (fun b2 w H U1=>?_));refine eN ?_
 refine rG ?_;refine A3 (W8 H wC (fun b3 w H x7=>?_));refine eN ?_
 refine rG ?_;refine A3 (E8 ?_);refine eN ?_
 refine qB ?_;refine y7 (ι:=Nat) (fun i=>[(8,VI i),(3,.pointer (some ⟨b3,0,none⟩)),(2,.pointer (some ⟨b2,0,none⟩)),(0,.pointer (some ⟨p,o,none⟩))])
  (fun i w=>i<=16/\Hp w0 w [] [.blk b2 (L3 []) 265,.blk b3 (L3 (oD bs i)) 265]) (fun i=>16-i) 0 ⟨rfl,rfl,rfl,rfl,trivial⟩ ⟨by omega,H⟩ ?_
 clear H
 rintro i τ w ⟨hi,H⟩
 refine rG ?_;refine A3 (J2 rfl rfl (fun _=>y8) ?_);refine eN ?_
 repeat refine D9 ?_
 refine iJ rfl (fun hlt=>?_) (fun hlt=>?_)
 ·have aI:i<16:=by omega
  have cX:=JK bs i
  refine M5 ?_;refine qB ?_;refine rG ?_;refine A3 (E8 ?_);refine A3 (U5 ?_);refine eN ?_
  repeat refine D9 ?_
  refine JD 38 mixed (by kernel_rfl) ?_;replace H:=H.drew
  refine A9 (L0) ?_;refine A9 (L0) ?_;refine A9 (L0) ?_;refine A9 (D2 rfl rfl (fun _=>rK oM oM)) ?_;refine A9 (jY rfl) ?_;refine A9 (T3 rfl rfl zJ oM oM) ?_;refine A9 (vY (H.rd hr (U6 _)) rfl rfl oA (DP bs _ oM)) ?_;refine A9 (iP Tryz.underlying5 Tryz.underlying247 rfl (CY _)) ?_;refine A9 (nY rfl rfl (.inl rfl) (fun _=>CV (by decide) (by decide))) ?_;refine A9 (L0) ?_;refine A9 (L0) ?_;refine A9 (D2 rfl rfl (fun _=>rK oM oM)) ?_;refine A9 (D2 rfl rfl (fun _=>Z7 oM oM)) ?_;refine A9 (jY rfl) ?_;refine A9 (T3 rfl rfl zJ oM oM) ?_;refine A9 (vY (H.rd hr (U6 _)) rfl rfl oA (DP bs _ oM)) ?_;refine A9 (iP Tryz.underlying5 Tryz.underlying247 rfl (CY _)) ?_;refine A9 (nY rfl rfl (.inl rfl) (fun _=>CV (by decide) (by decide))) ?_;refine A9 (D2 rfl rfl (fun _=>CU)) ?_;refine A9 (L0) ?_;refine A9 (L0) ?_;refine A9 (D2 rfl rfl (fun _=>rK oM oM)) ?_;refine A9 (D2 rfl rfl (fun _=>Z7 oM oM)) ?_;refine A9 (jY rfl) ?_;refine A9 (T3 rfl rfl zJ oM oM) ?_;refine A9 (vY (H.rd hr (U6 _)) rfl rfl oA (DP bs _ oM)) ?_;refine A9 (iP Tryz.underlying5 Tryz.underlying247 rfl (CY _)) ?_;refine A9 (nY rfl rfl (.inl rfl) (fun _=>CV (by decide) (by decide))) ?_;refine A9 (D2 rfl rfl (fun _=>CU)) ?_;refine A9 (L0) ?_;refine A9 (L0) ?_;refine A9 (D2 rfl rfl (fun _=>rK oM oM)) ?_;refine A9 (D2 rfl rfl (fun _=>Z7 oM oM)) ?_;refine A9 (jY rfl) ?_;refine A9 (T3 rfl rfl zJ oM oM) ?_;refine A9 (vY (H.rd hr (U6 _)) rfl rfl oA (DP bs _ oM)) ?_;refine A9 (iP Tryz.underlying5 Tryz.underlying247 rfl (CY _)) ?_;refine A9 (D2 rfl rfl (fun _=>CU)) ?_;refine jZ ?_;refine A3 (bW rfl rfl lP oM oM ?_);refine A3 (nW H (i:=1) (v:=E9 (JJ bs i)) rfl rfl ?_ DK rfl (by rw[zN _ oM];omega) (fun w H=>?_))
  ·have h0:(4*(i:Int)).toNat*1=4*i:=by omega
   have h1:(4*(i:Int)+1).toNat*1=4*i+1:=by omega
   have h2:(4*(i:Int)+2).toNat*1=4*i+2:=by omega
   have h3:(4*(i:Int)+3).toNat*1=4*i+3:=by omega
   show E9 ((((bs.getD ((4*(i:Int)).toNat*1) 0).toUInt32<<<UInt32.ofNat (24:Int).toNat|||(bs.getD ((4*(i:Int)+1).toNat*1) 0).toUInt32<<<UInt32.ofNat (16:Int).toNat)|||(bs.getD ((4*(i:Int)+2).toNat*1) 0).toUInt32<<<UInt32.ofNat (8:Int).toNat)|||(bs.getD ((4*(i:Int)+3).toNat*1) 0).toUInt32)=_
   rw[h0,h1,h2,h3];rfl
  refine eN ?_
  have e:(L3 (oD bs i)).set (0+(i:Int).toNat*1) (E9 (JJ bs i))=L3 (oD bs (i+1)):=by
   rw[oD, <-PM _ _ oM,cX];congr 1;omega
  rw[e]at H
  refine rG ?_;refine A3 (J2 rfl rfl (fun _=>Z7 oM oM) ?_);refine A3 (E8 ?_);refine eN ?_
  refine U4 (i+1) ?_ ?_ ?_
  ·exact⟨rfl,rfl,rfl,rfl,trivial⟩
  ·exact⟨by omega,H⟩
  ·show 16-(i+1)<16-i;omega
 ·have hi16:i=16:=by omega
  subst hi16
  clear hlt hi
  refine W7 ?_;refine rG ?_;refine A3 (U5 ?_);refine eN ?_
  refine qB ?_;refine y7 (ι:=Nat) (fun k=>[(5,VI (16+k:Nat)),(3,.pointer (some ⟨b3,0,none⟩)),(2,.pointer (some ⟨b2,0,none⟩))])
   (fun k w=>k<=48/\Hp w0 w [] [.blk b2 (L3 []) 265,.blk b3 (L3 (Q5 bs k)) 265]) (fun k=>48-k) 0 ⟨rfl,rfl,rfl,trivial⟩ ⟨by omega,H⟩ ?_
  clear H
  rintro k τ w ⟨hk,H⟩
  have pW:=DO bs k
  refine rG ?_;refine A3 (E8 ?_);refine A3 (J2 rfl rfl (fun _=>y8) ?_);refine eN ?_
  repeat refine D9 ?_
  refine iJ rfl (fun hlt=>?_) (fun hlt=>?_)
  ·have aI:k<48:=by omega
   have hg:∀j,j<16+k->(L3 (Q5 bs k))[j]? =some (E9 ((Q5 bs k).getD j 0)):=fun j hj=>JL _ _ oM
   refine M5 ?_;refine qB ?_;repeat refine D9 ?_
   refine rP mixed (by kernel_rfl) ?_;replace H:=H.drew
   refine A9 (L0) ?_;refine A9 (D2 rfl rfl (fun _=>fS oM oM)) ?_;refine A9 (T3 rfl rfl lP oM oM) ?_;refine A9 (Q4 H (i:=1) rfl rfl N9 (hg _ oM)) ?_;refine A9 (L0) ?_;refine A9 (D2 rfl rfl (fun _=>fS oM oM)) ?_;refine A9 (T3 rfl rfl lP oM oM) ?_;refine A9 (Q4 H (i:=1) rfl rfl N9 (hg _ oM)) ?_;refine A9 (eG) ?_;refine A9 (eG) ?_;refine jZ ?_;have x0:0+(((16+k:Nat):Int)-16).toNat*1=16+k-16:=by omega
   have x1:0+(((16+k:Nat):Int)-15).toNat*1=16+k-15:=by omega
   have x2:0+(((16+k:Nat):Int)-2).toNat*1=16+k-2:=by omega
   have x3:0+(((16+k:Nat):Int)-7).toNat*1=16+k-7:=by omega
   refine rG ?_;refine A3 (E8 ?_);refine A3 (N4 Tryz.func200 rfl rfl rfl (kC _ 25 _ oM oM _ rfl) ?_);rintro _ w ⟨rfl,rfl⟩
   refine A3 (E8 ?_);refine A3 (N4 Tryz.func200 rfl rfl rfl (kC _ 14 _ oM oM _ rfl) ?_);rintro _ w ⟨rfl,rfl⟩
   refine A3 (J2 rfl rfl (fun _=>iN) ?_);refine A3 (E8 ?_);refine A3 (rI rfl rfl (.inr rfl) (fun _=>CW (by decide) (by decide)) ?_);refine A3 (J2 rfl rfl (fun _=>iN) ?_);refine A3 (U5 ?_);refine eN ?_
   refine rG ?_;refine A3 (E8 ?_);refine A3 (N4 Tryz.func200 rfl rfl rfl (kC _ 15 _ oM oM _ rfl) ?_);rintro _ w ⟨rfl,rfl⟩
   refine A3 (E8 ?_);refine A3 (N4 Tryz.func200 rfl rfl rfl (kC _ 13 _ oM oM _ rfl) ?_);rintro _ w ⟨rfl,rfl⟩
   refine A3 (J2 rfl rfl (fun _=>iN) ?_);refine A3 (E8 ?_);refine A3 (rI rfl rfl (.inr rfl) (fun _=>CW (by decide) (by decide)) ?_);refine A3 (J2 rfl rfl (fun _=>iN) ?_);refine A3 (U5 ?_);refine eN ?_
   repeat refine D9 ?_
   refine JD 15 mixed (by kernel_rfl) ?_;replace H:=H.drew
   refine A9 (L0) ?_;refine A9 (L0) ?_;refine A9 (D2 rfl rfl (fun _=>fS oM oM)) ?_;refine A9 (T3 rfl rfl lP oM oM) ?_;refine A9 (Q4 H (i:=1) rfl rfl N9 (hg _ oM)) ?_;refine A9 (L0) ?_;refine A9 (D2 rfl rfl (fun _=>iM)) ?_;refine A9 (L0) ?_;refine A9 (D2 rfl rfl (fun _=>fS oM oM)) ?_;refine A9 (T3 rfl rfl lP oM oM) ?_;refine A9 (Q4 H (i:=1) rfl rfl N9 (hg _ oM)) ?_;refine A9 (D2 rfl rfl (fun _=>iM)) ?_;refine A9 (L0) ?_;refine A9 (D2 rfl rfl (fun _=>iM)) ?_;refine A9 (T3 rfl rfl lP oM oM) ?_;refine jZ ?_;refine A3 (nW H (i:=1) (v:=E9 (DN (Q5 bs k))) rfl rfl ?_ DK rfl (by rw[zN _ oM];omega) (fun w H=>?_))
   ·show E9 (((Q5 bs k).getD (0+(((16+k:Nat):Int)-16).toNat*1) 0+PJ ((Q5 bs k).getD (0+(((16+k:Nat):Int)-15).toNat*1) 0)+(Q5 bs k).getD (0+(((16+k:Nat):Int)-7).toNat*1) 0)+PK ((Q5 bs k).getD (0+(((16+k:Nat):Int)-2).toNat*1) 0))=_
    rw[x0,x1,x2,x3,DN,pW]
   refine eN ?_
   have e:(L3 (Q5 bs k)).set (0+((16+k:Nat):Int).toNat*1) (E9 (DN (Q5 bs k)))=L3 (Q5 bs (k+1)):=by
    rw[Q5, <-PM _ _ oM,pW];congr 1;omega
   rw[e]at H
   refine rG ?_;refine A3 (E8 ?_);refine A3 (J2 rfl rfl (fun _=>Z7 oM oM) ?_);refine A3 (U5 ?_);refine eN ?_
   refine U4 (k+1) ?_ ?_ ?_
   ·exact⟨rfl,rfl,rfl,trivial⟩
   ·exact⟨by omega,H⟩
   ·show 48-(k+1)<48-k;omega
  ·have hk48:k=48:=by omega
   subst hk48
   clear hlt hk
   refine W7 ?_;have pX:(L3 (Q5 bs 48)).length=64:=zN _ oM
   have jO:((L3 (Q5 bs 48)).drop 0).take 64=L3 (Q5 bs 48):=by rw[pJ,V7 oM]
   have kW:(L3 (Q5 bs 48)).toArray.all (·.oneCell')=true:=by
    rw[mP];simp[L3,Value.oneCell']
   refine rG ?_;refine A3 (CZ H (i:=1) rfl rfl JI (by rw[pX];exact B5 _) ?_)
   rw[jO]
   refine A3 (iO H (i:=0) rfl rfl rfl (by rw[DM];simp[pX]) kW (by simp[pX,zN]) (fun w H=>?_));refine eN ?_
   refine iL (zD Tryz.results199 H (i:=0) rfl rfl JI (by simp[pX]) ⟨_,rfl,rfl,?_⟩);exact H.sub (P6 _)
section
def O0(s:S8)(wt:List UInt8)(m:UInt64):List Value:=.bool true::(s.l.map E9++(wt.map V8++[L9 m]))
theorem JM(l:List UInt32):(l.map E9).toArray.all (·.oneCell')=true:=by
 rw[mP];simp[Value.oneCell']
def kD(l:List UInt32)(wt:List UInt8)(m:UInt64):List Value:=.bool true::(l.map E9++(wt.map V8++[L9 m]))
theorem Dj(l:List UInt32)(wt:List UInt8)(m:UInt64)(i:Nat)(h:i<l.length):(kD l wt m)[1+i]? =some (E9 (l.getD i 0)):=by
 rw[kD,Nat.add_comm,CC,N7 (by simpa using h)]
 simp[h]
theorem Dk(l:List UInt32)(wt:List UInt8)(m:UInt64)(i:Nat)(v:UInt32)(h:i<l.length):(kD l wt m).set (1+i) (E9 v)=kD (l.set i v) wt m:=by
 rw[kD,Nat.add_comm,List.set_cons_succ,List.set_append_left _ _ (by simpa using h)]
 simp[kD,List.map_set]
def F3(A B:List UInt32)(i:Nat):List UInt32:=A.take i++B.drop i
theorem PO(A B:List UInt32)(i:Nat)(h:A.length=B.length)(hi:i<=A.length):(F3 A B i).length=B.length:=by simp only[F3,D0,F7,K4];omega
theorem Dl(A B:List UInt32)(i:Nat)(h:A.length=B.length)(hi:i<A.length):(F3 A B i).getD i 0=B.getD i 0:=by
 have:(A.take i).length=i:=by rw[F7];omega
 simp only[F3,j7]
 rw[L7 oM,this];simp
theorem Dm(A B:List UInt32)(i:Nat)(h:A.length=B.length)(hi:i<A.length):(F3 A B i).set i (A.getD i 0)=F3 A B (i+1):=by
 have h1:(A.take i).length=i:=by rw[F7];omega
 apply V5
 intro j
 rw[List.getElem?_set]
 have hl:(F3 A B i).length=B.length:=PO A B i h oM
 by_cases h2:i=j
 ·subst h2
  rw[if_pos rfl,if_pos oM]
  rw[F3,N7 (by rw[F7];omega),dU oM]
  simp[hi]
 ·rw[if_neg h2]
  have h4:(A.take (i+1)).length=i+1:=by rw[F7];omega
  by_cases h3:j<i
  ·rw[F3,F3,N7 oM,N7 oM,dU h3,dU oM]
  ·rw[F3,F3,L7 oM,L7 oM,h1,h4,Q1,Q1]
   congr 1;omega
theorem Dn(s t:S8)(i:Nat)(hi:i<8):s.l.getD i 0+t.l.getD i 0=(fW s t).l.getD i 0:=by
 have e:(fW s t).l=List.zipWith (·+·) s.l t.l:=rfl
 have h1:s.l.length=8:=rfl
 have h2:t.l.length=8:=rfl
 rw[e]
 simp only[j7,List.getElem?_zipWith]
 rw[B7 (by omega:i<s.l.length),B7 (by omega:i<t.l.length)]
 rfl
theorem Dp(w0:World):Ret Tryz.prog 198 [] w0 fun v w'=>v=.agg (L3 iR).toArray/\Hp w0 w' [] []:=by
 refine T4 Tryz.func198 rfl Tryz.ntmps198 (by simp) ?_
 have H:=Hp.refl w0 []
 refine rG ?_;refine A3 (W8 H wC (fun b0 w H S9=>?_));refine eN ?_
 refine rG ?_;refine A3 (DD (cells:=(L3 iR).toArray) Df rfl (by kernel_rfl) ?_);refine A3 (iO H (i:=0) rfl rfl rfl (by rw[DM];rfl) (by kernel_rfl) (by rfl) (fun w H=>?_));refine eN ?_
 refine iL (zD Tryz.results198 H (i:=0) rfl rfl JI (by rfl) ⟨_,rfl,rfl,?_⟩);exact H.sub (P6 _)
theorem Dq(w0:World):Ret Tryz.prog 139 [] w0 fun v w'=>∃b,v=.pointer (some ⟨b,0,none⟩)/\Hp w0 w' [] [.blk b (O0 zM (replicate 64 0) 0) 251]:=by
 refine T4 Tryz.func139 rfl Tryz.ntmps139 (by simp) ?_
 have H:=Hp.refl w0 []
 refine rG ?_;refine A3 (U5 ?_);refine eN ?_
 refine rG ?_;refine A3 (DD (cells:=(zM.l.map E9).toArray) PE rfl (by kernel_rfl) ?_);refine A3 (DD (cells:=(O0 zM (replicate 64 0) 0).toArray) Da rfl (by kernel_rfl) ?_);refine A3 (zC H rfl (fun b w H hb=>?_));refine A3 (U5 ?_);refine eN ?_
 exact iL (v8 Tryz.results139 rfl ⟨_,rfl,b,rfl,H⟩)
theorem zP(s:S8)(wt:List UInt8)(m:UInt64)(h:wt.length=64):(O0 s wt m).length=74:=by simp[O0,S8.l,h]
theorem Dr(s:S8)(wt:List UInt8)(m:UInt64)(h:wt.length=64):((O0 s wt m).drop 9).take 64=wt.map V8:=by
 simp[O0,S8.l,tY,h]
theorem DQ(s:S8)(wt:List UInt8)(m:UInt64)(h:wt.length=64):(O0 s wt m)[73]? =some (L9 m):=by
 simp[O0,S8.l,h]
theorem Ds(s:S8)(wt:List UInt8)(m m':UInt64)(h:wt.length=64):(O0 s wt m).set 73 (L9 m')=O0 s wt m':=by
 simp[O0,S8.l,h]
attribute [local irreducible] Q5 lQ
set_option maxHeartbeats 8000000 in
def eL(n t:Nat)(a:Option Nat):List Ch:=match a with|none=>[]|some x=>[.blk x (replicate n (Value.int .u32 0)) t]
def fX(h:Ch)(a b c:Option Nat):List Ch:=h::(eL 64 265 a++(eL 64 265 b++eL 8 248 c))
def DR(d:Nat)(a:Option Nat):List (Nat×Value):=match a with|none=>[]|some x=>[(d,.pointer (some ⟨x,0,none⟩))]
def PP(hb:Nat)(D A B:Value)(k:Nat)(a b c:Option Nat):List (Nat×Value):=(0,.pointer (some ⟨hb,0,none⟩))::(14,.pointer (some ⟨hb,0+9,none⟩))::(19,D)::((match k with|0=>[]|1=>[(11,A)]|_=>[(11,A),(15,B)])++(DR 2 a++(DR 3 b++DR 4 c)))
def zQ(a:Option Nat):Nat:=match a with|none=>1|_=>0
def DS(k:Nat)(a b c:Option Nat):Nat:=3+((2-k)+(zQ a+(zQ b+zQ c)))
def JN(k:Nat)(a b c:Option Nat):List Nat:=(match k with|0=>[0]|1=>[4]|_=>[])++((match a with|none=>[9]|_=>[])++((match b with|none=>[10]|_=>[])++(match c with|none=>[11]|_=>[])))
def Dt(k:Nat)(a b c:Option Nat):Array Bool:= #[blt 0 k,true,true,true,blt 1 k,true,true,true,true,a.isSome,b.isSome,c.isSome,false,false,false]
theorem Du{h:Ch}{b c:Option Nat}{x:Nat}(H:Hp w0 w S (fX h none b c++[.blk x (replicate 64 (Value.int .u32 0)) 265])):Hp w0 w S (fX h (some x) b c):=H.perm (OW [h] (eL 64 265 b++eL 8 248 c) _)
theorem Dv{h:Ch}{a c:Option Nat}{x:Nat}(H:Hp w0 w S (fX h a none c++[.blk x (replicate 64 (Value.int .u32 0)) 265])):Hp w0 w S (fX h a (some x) c):=by
 have:=H.perm (L':=(h::eL 64 265 a)++_::eL 8 248 c) (by simpa [fX,eL] using OW (h::eL 64 265 a) (eL 8 248 c) _)
 simpa [fX,eL] using this
theorem Dw{h:Ch}{a b:Option Nat}{x:Nat}(H:Hp w0 w S (fX h a b none++[.blk x (replicate 8 (Value.int .u32 0)) 248])):Hp w0 w S (fX h a b (some x)):=by simpa [fX,eL] using H
set_option maxHeartbeats 1000000 in
theorem Dx(w0:World)(hb:Nat)(st:S8)(wt:List UInt8)(m:UInt64)(P3:wt.length=64)(hH:w0.heap[hb]? =some (.cells (O0 st wt m).toArray 251 (0,0))):
  Ret Tryz.prog 179 [.pointer (some ⟨hb,0,none⟩)] w0 fun v w'=>v=.tuple #[]/\Hp w0 w' [hb] [.blk hb (O0 (rU st wt) wt m) 251]:=by
 refine T4 Tryz.func179 rfl Tryz.ntmps179 (by simp) ?_
 have H:=Hp.start w0 (.blk hb (O0 st wt m) 251) hb hH rfl
 have pX:(L3 (Q5 wt 48)).length=64:=zN _ (by rw[DO];omega)
 have kW:(L3 (Q5 wt 48)).toArray.all (·.oneCell')=true:=by
  rw[mP];simp[L3,Value.oneCell']
 refine D9 ?_;refine Ak (ι:=Nat×Nat×Nat) (fun i=>[(2,.pointer (some ⟨i.1,0,none⟩)),(3,.pointer (some ⟨i.2.1,0,none⟩)),(4,.pointer (some ⟨i.2.2,0,none⟩)),(0,.pointer (some ⟨hb,0,none⟩))])
  (fun i w=>Hp w0 w [hb] [.blk hb (O0 st wt m) 251,.blk i.1 (L3 iR) 265,.blk i.2.1 (L3 (Q5 wt 48)) 265,.blk i.2.2 (st.l.map E9) 248]) ?_ ?_
 ·as_aux_lemma=>
  repeat refine D9 ?_
  refine Bq (fun w=>Hp w0 w [hb] [.blk hb (O0 st wt m) 251]) mixed ?_;replace H:=H.drew
  have HS:(fun w=>Hp w0 w [hb] [.blk hb (O0 st wt m) 251]) _:=H.sub (List.Sublist.cons_cons _ (P6 _))
  refine tK 1 rfl (fun w HS=>L0) HS ?_;refine tK 2 rfl (fun w HS=>jY rfl) HS ?_;refine tK 3 rfl (fun w HS=>eJ rfl PG) HS ?_;refine tK 5 rfl (fun w HS=>L0) HS ?_;refine tK 6 rfl (fun w HS=>jY rfl) HS ?_;refine tK 7 rfl (fun w HS=>eJ rfl DL) HS ?_;refine tK 8 rfl  (fun w HS=>IZ HS (i:=0) rfl rfl PB (by rw[zP _ _ _ P3];decide)) HS ?_;refine Ce fun G hG=>?_
  have sb:∀{a b c},List.Sublist [Ch.blk hb (O0 st wt m) 251] (fX (.blk hb (O0 st wt m) 251) a b c):=List.Sublist.cons_cons _ (P6 _)
  have key:∀n k a b c w,Hp w0 w [hb] (fX (.blk hb (O0 st wt m) 251) a b c)->k<=2->DS k a b c=n+3->∀τ,G (DS k a b c) (Dt k a b c) (l7 τ (PP hb (.agg (st.l.map E9).toArray) (.agg (L3 iR).toArray) (.agg (L3 (Q5 wt 48)).toArray) k a b c)) w:=by
   intro n
   induction n with
  |zero=>
    intro k a b c w H hk hn τ
    rw[hG]
    rcases k with _|_|k<;>rcases a with _|b9<;>rcases b with _|b10<;>rcases c with _|b11<;>try (simp[DS,zQ]at hn;done)
    obtain rfl:k=0:=by omega
    have HS:(fun w=>Hp w0 w [hb] [.blk hb (O0 st wt m) 251]) _:=H.sub sb
    dsimp only[PP,DR,fX,eL,t6,Y3]at H ⊢
    refine JC (fuel:=2) 12 rfl (by kernel_rfl) (iO H (i:=1) rfl rfl rfl (by rw[DM];rfl) (by kernel_rfl) (by rfl) (fun w H=>?_));refine⟨H.sub (List.Sublist.cons_cons _ (P6 _)),?_⟩
    refine JC 13 rfl (by kernel_rfl) (iO H (i:=2) rfl rfl rfl (by rw[DM];simp[pX]) kW (by simp[pX]) (fun w H=>?_));refine⟨H.sub (List.Sublist.cons_cons _ (P6 _)),?_⟩
    refine JC 14 rfl (by kernel_rfl) (iO H (i:=3) rfl rfl rfl (by rw[PC];rfl) (JM _) (by rfl) (fun w H=>?_));refine⟨H.sub (List.Sublist.cons_cons _ (P6 _)),?_⟩
    refine OV (by kernel_rfl) ?_;exact Al (b9,b10,b11) ⟨rfl,rfl,rfl,rfl,trivial⟩ H
  |succ n ih=>
    intro k a b c w H hk hn τ
    rw[hG]
    obtain⟨R,hR⟩:∃R,R=JN k a b c:=⟨_,rfl⟩
    rcases k with _|_|k<;>try obtain rfl:k=0:=by omega
    all_goals
     rcases a with _|b9<;>rcases b with _|b10<;>rcases c with _|b11
     all_goals try (simp[DS,zQ]at hn;done)
     all_goals (refine Ci R (by rw[hR];kernel_rfl) (by rw[hR];simp[JN]) ?_;subst hR;intro i hi;simp only[JN,Y3,t6,K5,List.not_mem_nil,or_false]at hi)
     all_goals repeat' (rcases hi with rfl|hi)
     all_goals try subst hi
     all_goals first
     |(show wpOp _ _ _ 0 _ _ _;refine vZ 0 rfl (N4 Tryz.func198 rfl rfl rfl (Dp _) ?_);rintro _ w ⟨rfl,Hc⟩;replace H:=H.call Hc;rw[Z4]at H;exact⟨H.sub sb,zG hG (ih 1 _ _ _ _ H (by decide) (Nat.succ.inj hn)) (by repeat' first|exact trivial|refine⟨rfl,?_⟩)⟩)
     |(show wpOp _ _ _ 4 _ _ _;refine vZ 4 rfl (N4 Tryz.func199 rfl rfl rfl (Di _ hb (0+9) wt P3 (by rw[<-Dr st wt m P3];exact(Ch.rd_blk (H.has _ X7) (0+9)).take 64)) ?_);rintro _ w ⟨rfl,Hc⟩;replace H:=H.call Hc;rw[Z4]at H;exact⟨H.sub sb,zG hG (ih 2 _ _ _ _ H (by decide) (Nat.succ.inj hn)) (by repeat' first|exact trivial|refine⟨rfl,?_⟩)⟩)
     |(show wpOp _ _ _ 9 _ _ _;refine vZ 9 rfl (W8 H wC fun b9 w H _=>?_);exact⟨H.sub (sb.trans (CD _ _)),zG hG (ih _ _ _ _ _ (Du H) hk (Nat.succ.inj hn)) (by repeat' first|exact trivial|refine⟨rfl,?_⟩)⟩)
     |(show wpOp _ _ _ 10 _ _ _;refine vZ 10 rfl (W8 H wC fun b9 w H _=>?_);exact⟨H.sub (sb.trans (CD _ _)),zG hG (ih _ _ _ _ _ (Dv H) hk (Nat.succ.inj hn)) (by repeat' first|exact trivial|refine⟨rfl,?_⟩)⟩)
     |(show wpOp _ _ _ 11 _ _ _;refine vZ 11 rfl (W8 H PD fun b9 w H _=>?_);exact⟨H.sub (sb.trans (CD _ _)),zG hG (ih _ _ _ _ _ (Dw H) hk (Nat.succ.inj hn)) (by repeat' first|exact trivial|refine⟨rfl,?_⟩)⟩)
  exact Cg (key 5 0 none none none _ H (by decide) rfl) ⟨rfl,rfl,rfl,trivial⟩
 ·as_aux_lemma=>
  rintro⟨b2,b3,b4⟩ τ w H
  have pW:=DO wt 48
  have hcomp:rU st wt=fW st (lQ (Q5 wt 48) st 64):=rfl
  simp only[hcomp]
  clear hcomp pX kW hH
  obtain⟨sc,hsc⟩:∃sc,Q5 wt 48=sc:=⟨_,rfl⟩
  simp only[hsc]at H pW ⊢
  clear hsc
  refine rG ?_;refine A3 (E8 ?_);refine eN ?_
  refine qB ?_;refine y7 (ι:=Nat) (fun i=>[(20,VI i),(2,.pointer (some ⟨b2,0,none⟩)),(3,.pointer (some ⟨b3,0,none⟩)),(4,.pointer (some ⟨b4,0,none⟩)),(0,.pointer (some ⟨hb,0,none⟩))])
   (fun i w=>i<=64/\Hp w0 w [hb] [.blk hb (O0 st wt m) 251,.blk b2 (L3 iR) 265,.blk b3 (L3 sc) 265,.blk b4 ((lQ sc st i).l.map E9) 248])
   (fun i=>64-i) 0 ⟨rfl,rfl,rfl,rfl,rfl,trivial⟩ ⟨by omega,by rw[lQ];exact H⟩ ?_
  clear H
  rintro i τ w ⟨hi,H⟩
  have hpw:iR.length=64:=rfl
  refine rG ?_;refine A3 (J2 rfl rfl (fun _=>y8) ?_);refine eN ?_
  repeat refine D9 ?_
  refine iJ rfl (fun hlt=>?_) (fun hlt=>?_)
  ·have aI:i<64:=by omega
   have g1:∀j,j<64->(L3 iR)[j]? =some (E9 (iR.getD j 0)):=fun j hj=>JL _ _ oM
   have g2:∀j,j<64->(L3 sc)[j]? =some (E9 (sc.getD j 0)):=fun j hj=>JL _ _ oM
   have x1:0+(i:Int).toNat*1=i:=by omega
   refine M5 ?_;refine qB ?_;refine rG ?_;refine A3 (E8 ?_);refine A3 (U5 ?_);refine eN ?_
   repeat refine D9 ?_
   refine rP mixed (by kernel_rfl) ?_;replace H:=H.drew
   refine A9 (T3 rfl rfl R5 oM oM) ?_;refine A9 (Q4 H (i:=3) rfl rfl N9 rfl) ?_;refine nZ Tryz.func200 rfl rfl rfl (kC _ 26 _ oM oM _ rfl) ?_
   refine A9 (T3 rfl rfl R5 oM oM) ?_;refine A9 (Q4 H (i:=3) rfl rfl N9 rfl) ?_;refine nZ Tryz.func200 rfl rfl rfl (kC _ 21 _ oM oM _ rfl) ?_
   refine A9 (D2 rfl rfl (fun _=>iN)) ?_;refine A9 (T3 rfl rfl R5 oM oM) ?_;refine A9 (Q4 H (i:=3) rfl rfl N9 rfl) ?_;refine nZ Tryz.func200 rfl rfl rfl (kC _ 7 _ oM oM _ rfl) ?_
   refine A9 (D2 rfl rfl (fun _=>iN)) ?_;refine A9 (eG) ?_;refine jZ ?_;repeat refine D9 ?_
   refine rP mixed (by kernel_rfl) ?_;replace H:=H.drew
   refine A9 (T3 rfl rfl R5 oM oM) ?_;refine A9 (Q4 H (i:=3) rfl rfl N9 rfl) ?_;refine A9 (L0) ?_;refine A9 (D2 rfl rfl (fun _=>iM)) ?_;refine A9 (T3 rfl rfl R5 oM oM) ?_;refine A9 (Q4 H (i:=3) rfl rfl N9 rfl) ?_;refine A9 (T3 rfl rfl R5 oM oM) ?_;refine A9 (Q4 H (i:=3) rfl rfl N9 rfl) ?_;refine A9 (D2 rfl rfl (fun _=>yY)) ?_;refine A9 (T3 rfl rfl R5 oM oM) ?_;refine A9 (Q4 H (i:=3) rfl rfl N9 rfl) ?_;refine A9 (IY rfl (fun _=>As)) ?_;refine A9 (T3 rfl rfl R5 oM oM) ?_;refine A9 (Q4 H (i:=3) rfl rfl N9 rfl) ?_;refine A9 (D2 rfl rfl (fun _=>yY)) ?_;refine A9 (D2 rfl rfl (fun _=>iN)) ?_;refine A9 (D2 rfl rfl (fun _=>iM)) ?_;refine A9 (L0) ?_;refine A9 (T3 rfl rfl lP oM oM) ?_;refine A9 (Q4 H (i:=1) rfl rfl N9 (by rw[x1];exact g1 i aI)) ?_;refine A9 (D2 rfl rfl (fun _=>iM)) ?_;refine A9 (L0) ?_;refine A9 (T3 rfl rfl lP oM oM) ?_;refine A9 (Q4 H (i:=2) rfl rfl N9 (by rw[x1];exact g2 i aI)) ?_;refine A9 (D2 rfl rfl (fun _=>iM)) ?_;refine A9 (eG) ?_;refine jZ ?_;repeat refine D9 ?_
   refine rP mixed (by kernel_rfl) ?_;replace H:=H.drew
   refine A9 (T3 rfl rfl R5 oM oM) ?_;refine A9 (Q4 H (i:=3) rfl rfl N9 rfl) ?_;refine nZ Tryz.func200 rfl rfl rfl (kC _ 30 _ oM oM _ rfl) ?_
   refine A9 (T3 rfl rfl R5 oM oM) ?_;refine A9 (Q4 H (i:=3) rfl rfl N9 rfl) ?_;refine nZ Tryz.func200 rfl rfl rfl (kC _ 19 _ oM oM _ rfl) ?_
   refine A9 (D2 rfl rfl (fun _=>iN)) ?_;refine A9 (T3 rfl rfl R5 oM oM) ?_;refine A9 (Q4 H (i:=3) rfl rfl N9 rfl) ?_;refine nZ Tryz.func200 rfl rfl rfl (kC _ 10 _ oM oM _ rfl) ?_
   refine A9 (D2 rfl rfl (fun _=>iN)) ?_;refine A9 (eG) ?_;refine jZ ?_;refine rG ?_;refine A3 (E8 ?_);refine A3 (bW rfl rfl R5 oM oM ?_);refine A3 (w3 H (i:=3) rfl rfl N9 rfl ?_);refine A3 (bW rfl rfl R5 oM oM ?_);refine A3 (w3 H (i:=3) rfl rfl N9 rfl ?_);refine A3 (J2 rfl rfl (fun _=>yY) ?_);refine A3 (bW rfl rfl R5 oM oM ?_);refine A3 (w3 H (i:=3) rfl rfl N9 rfl ?_);refine A3 (bW rfl rfl R5 oM oM ?_);refine A3 (w3 H (i:=3) rfl rfl N9 rfl ?_);refine A3 (J2 rfl rfl (fun _=>yY) ?_);refine A3 (J2 rfl rfl (fun _=>iN) ?_);refine A3 (bW rfl rfl R5 oM oM ?_);refine A3 (w3 H (i:=3) rfl rfl N9 rfl ?_);refine A3 (bW rfl rfl R5 oM oM ?_);refine A3 (w3 H (i:=3) rfl rfl N9 rfl ?_);refine A3 (J2 rfl rfl (fun _=>yY) ?_);refine A3 (J2 rfl rfl (fun _=>iN) ?_);refine A3 (J2 rfl rfl (fun _=>iM) ?_);refine A3 (U5 ?_);refine eN ?_
   refine rG ?_;refine A3 (E8 ?_);refine A3 (E8 ?_);refine A3 (J2 rfl rfl (fun _=>iM) ?_);refine A3 (bW rfl rfl R5 oM oM ?_);refine A3 (w3 H (i:=3) rfl rfl N9 rfl ?_);refine A3 (bW rfl rfl R5 oM oM ?_);refine A3 (w3 H (i:=3) rfl rfl N9 rfl ?_);refine A3 (bW rfl rfl R5 oM oM ?_);refine A3 (w3 H (i:=3) rfl rfl N9 rfl ?_);refine A3 (bW rfl rfl R5 oM oM ?_);refine A3 (w3 H (i:=3) rfl rfl N9 rfl ?_);refine A3 (E8 ?_);refine A3 (J2 rfl rfl (fun _=>iM) ?_);refine A3 (bW rfl rfl R5 oM oM ?_);refine A3 (w3 H (i:=3) rfl rfl N9 rfl ?_);refine A3 (bW rfl rfl R5 oM oM ?_);refine A3 (w3 H (i:=3) rfl rfl N9 rfl ?_);refine A3 (bW rfl rfl R5 oM oM ?_);refine A3 (w3 H (i:=3) rfl rfl N9 rfl ?_);refine A3 (DD (pv:=en 0 ((PL (lQ sc st i) (iR.getD i 0) (sc.getD i 0)).l.map E9)) PE rfl (OP _ (JM _) rfl) ?_);refine A3 (iO H (i:=3) rfl rfl rfl (by rw[PC];rfl) (JM _) (by rfl) (fun w H=>?_));refine eN ?_
   have e9:=lQ.eq_2 sc st i
   refine rG ?_;refine A3 (J2 rfl rfl (fun _=>Z7 oM oM) ?_);refine A3 (E8 ?_);refine eN ?_
   refine U4 (i+1) ?_ ?_ ?_
   ·exact⟨rfl,rfl,rfl,rfl,rfl,trivial⟩
   ·exact⟨by omega,by rw[e9];exact H⟩
   ·show 64-(i+1)<64-i;omega
  ·have hi64:i=64:=by omega
   subst hi64
   clear hlt hi
   obtain⟨rr,mT⟩:∃rr,lQ sc st 64=rr:=⟨_,rfl⟩
   simp only[mT]at H ⊢
   clear mT
   refine W7 ?_;refine rG ?_;refine A3 (E8 ?_);refine eN ?_
   refine qB ?_;refine y7 (ι:=Nat) (fun i=>[(110,VI i),(4,.pointer (some ⟨b4,0,none⟩)),(0,.pointer (some ⟨hb,0,none⟩))])
    (fun i w=>i<=8/\Hp w0 w [hb] [.blk hb (kD (F3 (fW st rr).l st.l i) wt m) 251,.blk b2 (L3 iR) 265,.blk b3 (L3 sc) 265,.blk b4 (rr.l.map E9) 248])
    (fun i=>8-i) 0 ⟨rfl,rfl,rfl,trivial⟩ ⟨by omega,H⟩ ?_
   clear H
   rintro i τ w ⟨hi,H⟩
   refine rG ?_;refine A3 (J2 rfl rfl (fun _=>y8) ?_);refine eN ?_
   repeat refine D9 ?_
   refine iJ rfl (fun hlt=>?_) (fun hlt=>?_)
   ·have aI:i<8:=by omega
    have h8:(fW st rr).l.length=8:=rfl
    have h8':st.l.length=8:=rfl
    have hpl8:(F3 (fW st rr).l st.l i).length=8:=PO _ _ i rfl oM
    have x1:0+1+(i:Int).toNat*1=1+i:=by omega
    have x2:0+(i:Int).toNat*1=i:=by omega
    have g1:(rr.l.map E9)[i]? =some (E9 (rr.l.getD i 0)):=by
     have:i<rr.l.length:=aI
     simp[this]
    refine M5 ?_;refine qB ?_;refine rG ?_;refine A3 (E8 ?_);refine A3 (U5 ?_);refine eN ?_
    repeat refine D9 ?_
    refine JD 13 mixed (by kernel_rfl) ?_;replace H:=H.drew
    refine A9 (L0) ?_;refine A9 (L0) ?_;refine A9 (jY rfl) ?_;refine A9 (eJ rfl DL) ?_;refine A9 (T3 rfl rfl R5 oM oM) ?_;refine A9 (Q4 H (i:=0) rfl rfl N9 (by rw[x1];exact Dj _ _ _ i oM)) ?_;refine A9 (L0) ?_;refine A9 (T3 rfl rfl R5 oM oM) ?_;refine A9 (Q4 H (i:=3) rfl rfl N9 (by rw[x2];exact g1)) ?_;refine A9 (D2 rfl rfl (fun _=>iM)) ?_;refine A9 (jY rfl) ?_;refine A9 (eJ rfl DL) ?_;refine A9 (T3 rfl rfl R5 oM oM) ?_;refine jZ ?_;refine A3 (nW H (i:=0) (v:=E9 ((fW st rr).l.getD i 0)) rfl rfl ?_ DK rfl (by rw[x1];simp[kD,hpl8];omega) (fun w H=>?_))
    ·show E9 ((F3 (fW st rr).l st.l i).getD i 0+rr.l.getD i 0)=_
     rw[Dl _ _ i (h8.trans h8'.symm) oM,Dn _ _ i aI]
    refine eN ?_
    have e:(kD (F3 (fW st rr).l st.l i) wt m).set (0+1+(i:Int).toNat*1) (E9 ((fW st rr).l.getD i 0))=kD (F3 (fW st rr).l st.l (i+1)) wt m:=by
     rw[x1,Dk _ _ _ i _ oM,Dm _ _ i (h8.trans h8'.symm) oM]
    rw[e]at H
    refine rG ?_;refine A3 (J2 rfl rfl (fun _=>Z7 oM oM) ?_);refine A3 (E8 ?_);refine eN ?_
    refine U4 (i+1) ?_ ?_ ?_
    ·exact⟨rfl,rfl,rfl,trivial⟩
    ·exact⟨by omega,H⟩
    ·show 8-(i+1)<8-i;omega
   ·have hi8:i=8:=by omega
    subst hi8
    refine W7 ?_
    simp only[Exit.then,Exit.inBlock, ↓reduceIte]
    refine II (CO Tryz.results179 ?_);refine⟨_,rfl,rfl,?_⟩
    exact H.sub (List.Sublist.cons_cons _ (P6 _))
end
structure HS where
 st:S8
 wt:List UInt8
 m:UInt64
def HS.at_(s:HS):Nat:=s.m.toNat % 64
def iS(s:HS)(b:UInt8):HS:=
 if s.at_=63 then ⟨rU s.st (s.wt.set s.at_ b),s.wt.set s.at_ b,s.m+1⟩ else ⟨s.st,s.wt.set s.at_ b,s.m+1⟩
def I4(s:HS):List UInt8->HS
|[]=>s
|b::l=>I4 (iS s b) l
def HS.init:HS:=⟨zM,replicate 64 0,0⟩
theorem DT(s:HS)(a b:List UInt8):I4 s (a++b)=I4 (I4 s a) b:=by
 induction a generalizing s with
|nil=>rfl
|cons x a ih=>simp[I4,ih]
theorem Dy(s:HS)(b:UInt8):(iS s b).wt.length=s.wt.length:=by unfold iS;split<;>simp
theorem JO(s:HS)(l:List UInt8):(I4 s l).wt.length=s.wt.length:=by
 induction l generalizing s with
|nil=>rfl
|cons x l ih=>rw[I4,ih,Dy]
def aT(wt:List UInt8)(k:Nat)(l:List UInt8):List UInt8:=wt.take k++l++wt.drop (k+l.length)
theorem Dz(wt:List UInt8)(k:Nat)(l:List UInt8)(h:k+l.length<=wt.length):(aT wt k l).length=wt.length:=by simp[aT];omega
theorem JP(wt:List UInt8)(k:Nat)(b:UInt8)(l:List UInt8)(h:k+(l.length+1)<=wt.length):aT (wt.set k b) (k+1) l=aT wt k (b::l):=by
 unfold aT
 have e1:(wt.set k b).take (k+1)=wt.take k++[b]:=by
  rw[List.take_set,List.take_succ_eq_append_getElem oM]
  have:(wt.take k).length=k:=by rw[F7];omega
  rw[cS _ _ oM,this];simp
 have e2:(wt.set k b).drop (k+1+l.length)=wt.drop (k+(b::l).length):=by
  rw[List.drop_set_of_lt oM];congr 1;simp;omega
 rw[e1,e2];simp
theorem PQ(m:UInt64)(k:Nat)(h:m.toNat % 64+k<64):(m+UInt64.ofNat k).toNat % 64=m.toNat % 64+k:=by
 rw[BY,aH];omega
theorem JQ(m:UInt64)(k:Nat):m+1+UInt64.ofNat k=m+UInt64.ofNat (k+1):=by
 apply UInt64.toNat_inj.1
 rw[BY,BY,BY,aH,aH]
 have:(1:UInt64).toNat=1:=rfl
 omega
theorem Ea(l:List UInt8):∀s:HS,s.wt.length=64->s.at_+l.length<64->I4 s l=⟨s.st,aT s.wt s.at_ l,s.m+UInt64.ofNat l.length⟩:=by
 induction l with
|nil=>intro s hw _;simp[I4,aT]
|cons b l ih=>
  intro s hw h
  have uL:s.at_≠63:=by simp at h;omega
  have e:iS s b=⟨s.st,s.wt.set s.at_ b,s.m+1⟩:=by unfold iS;rw[if_neg uL]
  have ha:(s.m+1).toNat % 64=s.at_+1:=PQ s.m 1 (by simp[HS.at_]at h ⊢;omega)
  rw[I4,e,ih _ (by simpa using hw) (by simp only[HS.at_,I6]at h ha ⊢;omega)]
  simp only[HS.at_]at ha ⊢
  rw[ha]
  have:=JP s.wt (s.m.toNat % 64) b l (by simp[HS.at_]at h;omega)
  rw[this,JQ];rfl
theorem Eb(l:List UInt8):∀s:HS,s.wt.length=64->s.at_+l.length=64->l≠[]->I4 s l=⟨rU s.st (aT s.wt s.at_ l),aT s.wt s.at_ l,s.m+UInt64.ofNat l.length⟩:=by
 induction l with
|nil=>intro s _ _ h;exact absurd rfl h
|cons b l ih=>
  intro s hw h _
  by_cases hl:l=[]
  ·subst hl
   have uL:s.at_=63:=by simp at h;omega
   have e:iS s b=⟨rU s.st (s.wt.set s.at_ b),s.wt.set s.at_ b,s.m+1⟩:=by unfold iS;rw[if_pos uL]
   have e2:aT s.wt s.at_ [b]=s.wt.set s.at_ b:=by
    have:=JP s.wt s.at_ b [] (by simp;omega)
    rw[<-this,aT];simp
   rw[I4,I4,e,e2];rfl
  ·have hpos:0<l.length:=HR.2 hl
   have uL:s.at_≠63:=by simp at h;omega
   have e:iS s b=⟨s.st,s.wt.set s.at_ b,s.m+1⟩:=by unfold iS;rw[if_neg uL]
   have ha:(s.m+1).toNat % 64=s.at_+1:=PQ s.m 1 (by simp[HS.at_]at h ⊢;omega)
   rw[I4,e,ih _ (by simpa using hw) (by simp only[HS.at_,I6]at h ha ⊢;omega) hl]
   simp only[HS.at_]at ha ⊢
   rw[ha]
   have:=JP s.wt (s.m.toNat % 64) b l (by simp[HS.at_]at h;omega)
   rw[this,JQ];rfl
def S2(s:HS):List Value:=O0 s.st s.wt s.m
theorem Ec(s:S8)(wt:List UInt8)(m:UInt64):∀v∈O0 s wt m,v.oneCell'=true:=by
 intro v hv
 simp only[O0,K5,R9,J4,List.not_mem_nil,or_false]at hv
 rcases hv with rfl|⟨_,_,rfl⟩|⟨_,_,rfl⟩|rfl<;>rfl
theorem Ed(s:S8)(wt:List UInt8)(m:UInt64)(k:Nat)(l:List UInt8)(h:wt.length=64)(hk:k+l.length<=64):
  (O0 s wt m).take (0+9+k*1)++l.map V8++(O0 s wt m).drop (0+9+k*1+l.length)=O0 s (aT wt k l) m:=by
 have e:O0 s wt m=(.bool true::s.l.map E9)++(wt.map V8++[L9 m]):=rfl
 have h9:(Value.bool true::s.l.map E9).length=9:=by simp[S8.l]
 have e2:O0 s (aT wt k l) m=(.bool true::s.l.map E9)++((aT wt k l).map V8++[L9 m]):=rfl
 have e3:0+9+k*1=(Value.bool true::s.l.map E9).length+k:=by omega
 rw[e,e2,e3,O8,List.take_length_add_append,List.drop_length_add_append,kR (by simp;omega),pK (by simp;omega)]
 simp[aT,uB,List.map_drop]
theorem Ee(m:UInt64):i64.wrap ((m.toNat:Int) % 64)=((m.toNat % 64:Nat):Int):=by
 rw[wrap_i64 oM oM];omega
theorem Ef(k:Nat)(_h:k<18446744073709551616):u64.wrap (k:Int)=((UInt64.ofNat k).toNat:Int):=by
 rw[lN,aH];omega
set_option maxHeartbeats 4000000 in
theorem PR(w0:World)(hb:Nat)(s:HS)(a:Option Addr)(len cap:Nat)(l:List UInt8)(P3:s.wt.length=64)(hH:w0.heap[hb]? =some (.cells (S2 s).toArray 251 (0,0)))
  (hr:RdS w0 a (l.map V8))(hl:l.length=len)(t8:len<=cap)(Y5:l≠[]->Apart a [hb])(N2:len<=9223372036854775807):
  Ret Tryz.prog 140 [.pointer (some ⟨hb,0,none⟩),.slice a len cap] w0 fun v w'=>v=.tuple #[]/\Hp w0 w' [hb] [.blk hb (S2 (I4 s l)) 251]:=by
 refine T4 Tryz.func140 rfl Tryz.ntmps140 (by simp) ?_
 have H:=Hp.start w0 (.blk hb (S2 s) 251) hb hH rfl
 refine rG ?_;refine A3 (E8 ?_);refine A3 (N4 Tryz.func178 rfl rfl rfl (PN _ hb true _ _ hH rfl) ?_);rintro _ w ⟨rfl,hw⟩
 rw[hw];clear hw w
 refine eN ?_
 refine qN ?_;refine M5 ?_;refine qB ?_;refine y7 (ι:=Option Addr×Nat×Nat×List UInt8×HS) (fun i=>[(0,.pointer (some ⟨hb,0,none⟩)),(1,.slice i.1 i.2.1 i.2.2.1)])
  (fun i w=>i.2.1<=i.2.2.1/\i.2.1<=9223372036854775807/\i.2.2.2.1.length=i.2.1/\RdS w0 i.1 (i.2.2.2.1.map V8)/\(i.2.2.2.1≠[]->Apart i.1 [hb])/\i.2.2.2.2.wt.length=64/\I4 i.2.2.2.2 i.2.2.2.1=I4 s l/\Hp w0 w [hb] [.blk hb (S2 i.2.2.2.2) 251])
  (fun i=>i.2.1) (a,len,cap,l,s) ⟨rfl,rfl,trivial⟩ ⟨t8,N2,hl,hr,Y5,P3,rfl,H⟩ ?_
 clear H hr hl t8 Y5 N2 P3 hH
 rintro⟨a,len,cap,rest,s'⟩ τ w ⟨t8,N2,hl,hr,Y5,P3,uM,H⟩
 simp only at t8 N2 hl hr Y5 P3 uM H
 refine rG ?_;refine A3 (E8 ?_);refine A3 (OL aS rfl ?_);refine A3 (J2 rfl rfl (fun _=>yW) ?_);refine eN ?_
 repeat refine D9 ?_
 refine iJ rfl (fun hlt=>?_) (fun hlt=>?_)
 ·have D8:0<len:=by have:(0:Int)<(len:Int):=hlt;omega
  have hne0:rest≠[]:=fun e=>by rw[e]at hl;simp at hl;omega
  obtain⟨st,wt,m⟩:=s'
  simp only[S2]at P3 H
  obtain⟨iB,kX⟩:∃iB,m.toNat % 64=iB:=⟨_,rfl⟩
  have hat64:iB<64:=by omega
  obtain⟨k,hk⟩:∃k,min len (64-iB)=k:=⟨_,rfl⟩
  have mU:0<k:=by omega
  have hk2:k<=len:=by omega
  have hk3:iB+k<=64:=by omega
  have uO:(rest.take k).length=k:=by rw[F7];omega
  have hC:=zP st wt m P3
  refine M5 ?_;refine qB ?_;refine rG ?_;refine A3 (E8 ?_);refine A3 (rF rfl ?_);refine A3 (nU rfl zL ?_);refine A3 (w3 H (i:=0) rfl rfl DI (DQ _ _ _ P3) ?_);refine A3 (J2 rfl rfl (fun _=>OE oM oM) ?_);refine A3 (rJ Tryz.underlying42 Tryz.underlying3 rfl ((Ee m).trans (congrArg _ kX)) ?_);refine A3 (U5 ?_);refine eN ?_
  refine rG ?_;refine A3 (E8 ?_);refine A3 (rF rfl ?_);refine A3 (nU rfl PG ?_);refine A3 (E8 ?_);refine A3 (Bl (l:=iB) rfl zJ rfl rfl rfl (fun w=>by exact DB oM oM w) oM ?_);refine A3 (E8 ?_);refine A3 (OQ H (i:=0) (vs:=rest.map V8) rfl Tryz.underlying36 Tryz.underlying36 wA (by decide) rfl rfl (H.rd hr (Y5 hne0)) (by simp[hl]) (by simp[Value.oneCell']) (by rw[hC];omega) (fun w H=>?_))
  rw[hk]at H ⊢
  have e1:(rest.map V8).take (k*1)=(rest.take k).map V8:=by rw[j6,uB]
  have e2:0+9+iB*1+k*1=0+9+iB*1+(rest.take k).length:=by rw[uO];omega
  rw[e1,e2,Ed st wt m iB (rest.take k) P3 oM]at H
  refine A3 (U5 ?_);refine eN ?_
  obtain⟨kY,hwt'⟩:∃x,aT wt iB (rest.take k)=x:=⟨_,rfl⟩
  have hwl:kY.length=64:=by rw[<-hwt',Dz _ _ _ oM,P3]
  rw[hwt']at H
  refine rG ?_;refine A3 (E8 ?_);refine A3 (E8 ?_);refine A3 (Bi (a:=a) (len:=len) (cap:=cap) (l:=k) rfl aS rfl rfl rfl (fun w=>by exact DB oM oM w) ?_);refine A3 (U5 ?_);refine eN ?_
  have cY:RdS w0 (sa a k cap 1) ((rest.drop k).map V8):=by
   have:=hr.sa k cap 1 (by simp;omega)
   rwa [j6, <-List.map_drop]at this
  refine rG ?_;refine A3 (E8 ?_);refine A3 (rF rfl ?_);refine A3 (nU rfl zL ?_);refine A3 (w3 H (i:=0) rfl rfl DI (DQ _ _ _ hwl) ?_);refine A3 (E8 ?_);refine A3 (rJ Tryz.underlying3 Tryz.underlying42 rfl (Ef k oM) ?_);refine A3 (J2 rfl rfl (fun _=>Au) ?_);refine A3 (rF rfl ?_);refine A3 (nU rfl zL ?_);refine A3 (nW H (i:=0) (v:=L9 (m+UInt64.ofNat k)) rfl rfl rfl Ck rfl (by rw[zP _ _ _ hwl];decide) (fun w H=>?_));refine eN ?_
  have e3:(O0 st kY m).set (0+73) (L9 (m+UInt64.ofNat k))=O0 st kY (m+UInt64.ofNat k):=Ds _ _ _ _ hwl
  simp only[List.set_cons_zero]at H
  rw[e3]at H
  refine rG ?_;refine A3 (E8 ?_);refine A3 (E8 ?_);refine A3 (J2 rfl rfl (fun _=>Z7 oM oM) ?_);refine A3 (J2 rfl rfl (fun _=>IL) ?_);refine eN ?_
  have hsum:I4 ⟨st,wt,m⟩ rest=I4 (I4 ⟨st,wt,m⟩ (rest.take k)) (rest.drop k):=by rw[<-DT,tX]
  repeat refine D9 ?_
  refine iJ rfl (fun h64=>?_) (fun h64=>?_)
  ·have hfull:I4 ⟨st,wt,m⟩ (rest.take k)=⟨rU st kY,kY,m+UInt64.ofNat k⟩:=by
    have D6:rest.take k≠[]:=fun e=>by rw[e]at uO;simp at uO;omega
    have:=Eb (rest.take k) ⟨st,wt,m⟩ P3 (by show m.toNat % 64+_=64;omega) D6
    have e4:HS.at_ ⟨st,wt,m⟩=iB:=kX
    rw[this,e4,uO];simp only[hwt']
   refine rG ?_;refine A3 (E8 ?_);refine A3 (N4 Tryz.func179 rfl rfl rfl (Dx _ hb st kY (m+UInt64.ofNat k) hwl (H.blk (i:=0) rfl)) ?_);rintro _ w ⟨rfl,Hc⟩
   replace H:=H.callAt (i:=0) rfl rfl rfl Hc
   refine eN ?_
   refine U4 (sa a k cap 1,len-k,cap-k,rest.drop k,⟨rU st kY,kY,m+UInt64.ofNat k⟩) ?_ ?_ ?_
   ·exact⟨rfl,rfl,trivial⟩
   ·exact⟨by simp only;omega,by simp only;omega,by simp only[K4];omega,cY,fun _=>(Y5 hne0).sa k cap 1,hwl,by simp only;rw[<-hfull, <-hsum,uM],H⟩
   ·show len-k<len;omega
  ·have hless:I4 ⟨st,wt,m⟩ (rest.take k)=⟨st,kY,m+UInt64.ofNat k⟩:=by
    have:=Ea (rest.take k) ⟨st,wt,m⟩ P3 (by show m.toNat % 64+_<64;omega)
    have e4:HS.at_ ⟨st,wt,m⟩=iB:=kX
    rw[this,e4,uO];simp only[hwt']
   refine M5 ?_;refine U4 (sa a k cap 1,len-k,cap-k,rest.drop k,⟨st,kY,m+UInt64.ofNat k⟩) ?_ ?_ ?_
   ·exact⟨rfl,rfl,trivial⟩
   ·exact⟨by simp only;omega,by simp only;omega,by simp only[K4];omega,cY,fun _=>(Y5 hne0).sa k cap 1,hwl,by simp only;rw[<-hless, <-hsum,uM],H⟩
   ·show len-k<len;omega
 ·have h0:rest=[]:=j5.1 (by have:¬ (0:Int)<(len:Int):=hlt;omega)
  subst h0
  refine W7 ?_
  simp only[Exit.then,Exit.inBlock, ↓reduceIte]
  refine II (CO Tryz.results140 ?_);refine⟨_,rfl,rfl,?_⟩
  rw[<-uM];exact H
theorem Hp.unS{L:List Ch}{b:Nat}{T:TypeId}(H:Hp w0 w (b::S) (.blk b C T::L))(h0:w0.heap[b]? =some (.cells C.toArray T (0,0))):Hp w0 w S L:=by
 have gY:=List.pairwise_cons.1 H.nd
 refine⟨H.os,H.tape,H.output,H.size,fun b' I3 hn=>?_,fun c hc=>H.has c (by simp[hc]),fun c hc b' hk=>?_,gY.2⟩
 ·by_cases h:b'=b
  ·subst h;rw[h0];exact H.has (.blk b' C T) (by simp)
  ·exact H.frame b' I3 (fun hm=>by rcases K5.1 hm with h1|h1;exact h h1;exact hn h1)
 ·rcases H.fresh c (by simp[hc]) b' hk with h1|h1
  ·simp only[K5]at h1
   rcases h1 with rfl|h1
   ·exact absurd hk (gY.1 c hc _ rfl)
   ·exact .inl h1
  ·exact .inr h1
theorem Eg(s:HS)(P3:s.wt.length=64):((S2 s).drop 0).take 74=S2 s:=by
 rw[pJ,V7 (by rw[S2,zP _ _ _ P3];decide)]
theorem Eh(s:HS):(S2 s).toArray.all (·.oneCell')=true:=by
 rw[mP,Q7];exact Ec _ _ _
theorem DU(s:HS)(P3:s.wt.length=64):(S2 s).length=74:=zP _ _ _ P3
theorem Ei(s:HS)(b:UInt8):(iS s b).m=s.m+1:=by unfold iS;split<;>rfl
theorem Ej(l:List UInt8):∀s:HS,(I4 s l).m=s.m+UInt64.ofNat l.length:=by
 induction l with
|nil=>intro s;simp[I4]
|cons b l ih=>intro s;rw[I4,ih,Ei,JQ];rfl
def dF(m:UInt64):Nat:=(119-m.toNat % 64) % 64
def iT(m:UInt64):List UInt8:=(List.range 8).map fun i=>((m<<<3)>>>UInt64.ofNat (56-8*i)).toUInt8
theorem PS(m:UInt64):(iT m).length=8:=by simp[iT]
theorem Ek(m:UInt64)(i:Nat)(h:i<8):(iT m).take (i+1)=(iT m).take i++[((m<<<3)>>>UInt64.ofNat (56-8*i)).toUInt8]:=by
 rw[List.take_succ_eq_append_getElem (by rw[PS];exact h)]
 simp[iT]
def PT(m:UInt64):List UInt8:=128::(replicate (dF m) 0++iT m)
def zR(s:HS):HS:=I4 s (PT s.m)
def fY(l:List UInt32):List UInt8:=(List.range 32).map fun j=>((l.getD (j / 4) 0)>>>UInt32.ofNat (24-8*(j % 4))).toUInt8
def rV(s:HS):List UInt8:=fY (zR s).st.l
theorem PU(l:List UInt32):(fY l).length=32:=by simp[fY]
theorem PV(s:HS):(rV s).length=32:=PU _
def iU(l:List UInt8)(j n:Nat):List Value:=(l.take j).map V8++replicate (n-j) (V8 0)
theorem El(l:List UInt8)(n:Nat):iU l 0 n=replicate n (V8 0):=by simp[iU]
theorem Em(l:List UInt8)(n:Nat)(h:l.length=n):iU l n n=l.map V8:=by simp[iU,V7 (Nat.le_of_eq h)]
theorem En(l:List UInt8)(j n:Nat)(h:l.length=n)(hj:j<=n):(iU l j n).length=n:=by simp[iU];omega
theorem Eo(l:List UInt8)(j n:Nat)(h:l.length=n)(hj:j<n)(v:UInt8)(hv:l[j]? =some v):(iU l j n).set j (V8 v)=iU l (j+1) n:=by
 have h1:((l.take j).map V8).length=j:=by simp;omega
 have h2:l.take (j+1)=l.take j++[v]:=by
  rw[CE,hv];rfl
 unfold iU
 rw[cS _ _ oM,h1,h2,bG]
 have:n-j=(n-(j+1))+1:=by omega
 rw[this,List.replicate_succ]
 simp
theorem Ep(l:List UInt32)(i k:Nat)(hi:i<8)(hk:k<4):(fY l)[4*i+k]? =some ((l.getD i 0)>>>UInt32.ofNat (24-8*k)).toUInt8:=by
 have e1:(4*i+k) / 4=i:=by omega
 have e2:(4*i+k) % 4=k:=by omega
 simp[fY,Y4,HV (show 4*i+k<32 by omega),e1,e2]
theorem PW{a:Int}(h0:0<=a)(h1:a<18446744073709551616):u64.wrap a=a:=by rw[lN];omega
theorem JR{L:List Ch}{b hb:Nat}{s:HS}{x:UInt8}{T:TypeId}(H:Hp w0 w S (L++[.blk b [V8 x] T]))(hi:L[i]? =some (.blk hb (S2 s) 251))(P3:s.wt.length=64):
  Ret Tryz.prog 140 [.pointer (some ⟨hb,0,none⟩),.slice (some ⟨b,0,none⟩) 1 1] w fun v w'=>v=.tuple #[]/\Hp w0 w' S (L.set i (.blk hb (S2 (I4 s [x])) 251)):=by
 have hlt:i<L.length:=(N0.1 hi).1
 have H7:(L++[Ch.blk b [V8 x] T])[i]? =some (.blk hb (S2 s) 251):=by rw[N7 hlt];exact hi
 have I3:(Ch.blk b [V8 x] T).ok w:=H.has _ (by simp)
 have D6:b≠hb:=by
  intro e
  have:=IS H.nd (i:=i) (j:=L.length) (e:=.blk b [V8 x] T) H7 (by simp) oM (b:=hb) rfl
  exact this (by rw[e];rfl)
 refine(PR w hb s (some ⟨b,0,none⟩) 1 1 [x] P3 (H.has _ (E3 H7)) (Ch.rd_all I3) rfl (B5 _) (fun _ y hy=>?_) (by decide)).mono fun v w' ⟨hv,Hc⟩=>⟨hv,?_⟩
 ·cases hy;simpa using D6
 ·have:=H.callAt H7 rfl rfl Hc
  rw[Z4,List.set_append_left _ _ hlt]at this
  exact this.sub (CD _ _)
theorem JS(z v:Value)(hv:v.oneCell'=true):Instr.fill (fun i=>some (i*1,1)) ((Array.range (1*1)).map (([z].toArray)[· % ([z].toArray).size]!)) [(0,v)]=some #[v]:=by
 have:v.cells= #[v]:=by cases v<;>simp_all[Value.cells,Value.oneCell']
 have e:Array.range (1*1)= #[0]:=by decide
 rw[e]
 simp[Instr.fill,this,Array.zipIdx]
set_option maxHeartbeats 4000000 in
theorem Er(w0:World)(S9:Nat)(s:HS)(P3:s.wt.length=64)(hH:w0.heap[S9]? =some (.cells (S2 s).toArray 251 (0,0))):
  Ret Tryz.prog 141 [.pointer (some ⟨S9,0,none⟩)] w0 fun v w'=>v=.agg ((rV s).map V8).toArray/\Hp w0 w' [] []:=by
 refine T4 Tryz.func141 rfl Tryz.ntmps141 (by simp) ?_
 have H:=Hp.start w0 (.blk S9 (S2 s) 251) S9 hH rfl
 refine rG ?_;refine A3 (W8 H aR (fun b2 w H U1=>?_));refine eN ?_
 refine rG ?_;refine A3 (W8 H aR (fun b3 w H x7=>?_));refine eN ?_
 refine rG ?_;refine A3 (E8 ?_);refine A3 (N4 Tryz.func178 rfl rfl rfl (PN _ S9 true _ _ (H.blk (i:=0) rfl) rfl) ?_);rintro _ w' ⟨rfl,hw⟩
 rw[hw];clear hw w'
 refine eN ?_
 refine qN ?_;refine M5 ?_;refine rG ?_;refine A3 (E8 ?_);refine A3 (rF rfl ?_);refine A3 (CZ H (i:=0) rfl rfl Cv (by rw[DU s P3];decide) ?_)
 rw[Eg s P3]
 refine A3 (W8 H PF (fun b4 w H hb4=>?_));refine A3 (iO H (i:=3) rfl rfl rfl (by rw[Cw];simp[DU s P3]) (Eh s) (by simp[DU s P3]) (fun w H=>?_));refine eN ?_
 refine rG ?_;refine A3 (E8 ?_);refine A3 (rF rfl ?_);refine A3 (nU rfl zL ?_);refine A3 (w3 H (i:=0) rfl rfl DI (DQ _ _ _ P3) ?_);refine A3 (rI rfl rfl (.inl rfl) (fun _=>Az (by decide) (by decide)) ?_);refine A3 (U5 ?_);refine eN ?_
 refine rG ?_;refine A3 (rO H eK oB (by decide) rfl (by decide) (JS _ (V8 128) rfl) (fun b w H hb=>?_));refine A3 (N4 Tryz.func140 rfl rfl rfl (JR (x:=128) H (i:=3) rfl P3) ?_);rintro _ w ⟨rfl,Hc⟩
 clear H
 have H:=Hc;clear Hc
 refine eN ?_
 have e1:s.m.toNat<18446744073709551616:=CX s.m
 refine qB ?_;refine y7 (ι:=Nat) (fun _=>[(5,L9 (s.m<<<3)),(4,.pointer (some ⟨b4,0,none⟩)),(3,.pointer (some ⟨b3,0,none⟩)),(2,.pointer (some ⟨b2,0,none⟩))])
  (fun j w=>j<=dF s.m/\Hp w0 w [S9] [.blk S9 (S2 s) 251,.blk b2 (replicate 32 (V8 0)) 34,.blk b3 (replicate 32 (V8 0)) 34,.blk b4 (S2 (I4 s (128::replicate j 0))) 251])
  (fun j=>dF s.m-j) 0 ⟨rfl,rfl,rfl,rfl,trivial⟩ ⟨L8 _,H⟩ ?_
 clear H
 rintro j τ w ⟨hj,H⟩
 have kZ:(I4 s (128::replicate j 0)).wt.length=64:=by rw[JO,P3]
 have u6:(I4 s (128::replicate j 0)).m.toNat % 64=(s.m.toNat+1+j) % 64:=by
  rw[Ej,BY,aH,I6,jK];omega
 refine rG ?_;refine A3 (nU rfl zL ?_);refine A3 (w3 H (i:=3) rfl rfl DI (DQ _ _ _ kZ) ?_);refine A3 (J2 rfl rfl (fun _=>OE oM oM) ?_);refine A3 (J2 rfl rfl (fun _=>CQ) ?_);refine eN ?_
 repeat refine D9 ?_
 refine iJ rfl (fun D6=>?_) (fun D6=>?_)
 ·have hjz:j<dF s.m:=by
   simp only[dF]at hj ⊢
   omega
  clear u6 D6
  generalize hc:I4 s (128::replicate j 0)=c at H kZ
  refine M5 ?_;refine qB ?_;refine rG ?_;refine A3 (rO H eK oB (by decide) rfl (by decide) (JS _ (V8 0) rfl) (fun b w H hb=>?_));refine A3 (N4 Tryz.func140 rfl rfl rfl (JR (x:=0) H (i:=3) rfl kZ) ?_);rintro _ w ⟨rfl,Hc⟩
  clear H
  have H:=Hc;clear Hc
  refine eN ?_
  refine U4 (j+1) ?_ ?_ ?_
  ·exact⟨rfl,rfl,rfl,rfl,trivial⟩
  ·refine⟨hjz,?_⟩
   have e:I4 s (128::replicate (j+1) 0)=I4 c [0]:=by
    rw[List.replicate_succ', <-hc, <-DT];rfl
   rw[e];exact H
  ·show dF s.m-(j+1)<dF s.m-j;omega
 ·have hjz:j=dF s.m:=by
   simp only[dF]at hj ⊢
   omega
  subst hjz
  clear u6 D6 hj kZ
  refine W7 ?_;refine rG ?_;refine A3 (E8 ?_);refine eN ?_
  refine qB ?_;refine y7 (ι:=Nat) (fun i=>[(29,VI i),(5,L9 (s.m<<<3)),(4,.pointer (some ⟨b4,0,none⟩)),(3,.pointer (some ⟨b3,0,none⟩)),(2,.pointer (some ⟨b2,0,none⟩))])
   (fun i w=>i<=8/\Hp w0 w [S9] [.blk S9 (S2 s) 251,.blk b2 (replicate 32 (V8 0)) 34,.blk b3 (replicate 32 (V8 0)) 34,.blk b4 (S2 (I4 s (128::(replicate (dF s.m) 0++(iT s.m).take i)))) 251])
   (fun i=>8-i) 0 ⟨rfl,rfl,rfl,rfl,rfl,trivial⟩ ⟨by omega,by rw[List.take_zero,Z4];exact H⟩ ?_
  clear H
  rintro i τ w ⟨hi,H⟩
  have kZ:(I4 s (128::(replicate (dF s.m) 0++(iT s.m).take i))).wt.length=64:=by rw[JO,P3]
  refine rG ?_;refine A3 (J2 rfl rfl (fun _=>y8) ?_);refine eN ?_
  repeat refine D9 ?_
  refine iJ rfl (fun hlt=>?_) (fun hlt=>?_)
  ·have aI:i<8:=by omega
   generalize hc:I4 s (128::(replicate (dF s.m) 0++(iT s.m).take i))=c at H kZ
   have e2:(56-8*(i:Int)).toNat=56-8*i:=by omega
   refine M5 ?_;refine qB ?_;refine rG ?_;refine A3 (E8 ?_);refine A3 (U5 ?_);refine eN ?_
   refine rG ?_;refine A3 (E8 ?_);refine A3 (E8 ?_);refine A3 (J2 rfl rfl (fun _=>rK oM oM) ?_);refine A3 (J2 rfl rfl (fun _=>fS oM oM) ?_);refine A3 (rJ Tryz.underlying3 Tryz.underlying172 rfl (PW (a:=56-8*(i:Int)) oM oM) ?_);refine A3 (rI rfl rfl (.inr rfl) (fun _=>OH oM oM) ?_)
   rw[e2]
   refine A3 (rJ Tryz.underlying42 Tryz.underlying5 rfl (IQ _) ?_);refine A3 (rO H eK oB (by decide) rfl (by decide) (JS _ (V8 (((s.m<<<3)>>>UInt64.ofNat (56-8*i)).toUInt8)) rfl) (fun b w H hb=>?_));refine A3 (N4 Tryz.func140 rfl rfl rfl (JR (x:=((s.m<<<3)>>>UInt64.ofNat (56-8*i)).toUInt8) H (i:=3) rfl kZ) ?_);rintro _ w ⟨rfl,Hc⟩
   clear H
   have H:=Hc;clear Hc
   refine eN ?_
   refine rG ?_;refine A3 (J2 rfl rfl (fun _=>Z7 oM oM) ?_);refine A3 (E8 ?_);refine eN ?_
   refine U4 (i+1) ?_ ?_ ?_
   ·exact⟨rfl,rfl,rfl,rfl,rfl,trivial⟩
   ·refine⟨aI,?_⟩
    have e:I4 s (128::(replicate (dF s.m) 0++(iT s.m).take (i+1)))=I4 c [((s.m<<<3)>>>UInt64.ofNat (56-8*i)).toUInt8]:=by
     rw[Ek s.m i aI, <-hc, <-DT, <-I0];rfl
    rw[e];exact H
   ·show 8-(i+1)<8-i;omega
  ·have hi8:i=8:=by omega
   subst hi8
   have bJ:I4 s (128::(replicate (dF s.m) 0++(iT s.m).take 8))=zR s:=by
    rw[V7 (Nat.le_of_eq (PS _)),zR,PT]
   rw[bJ]at H kZ
   have hdg:rV s=fY (zR s).st.l:=rfl
   rw[hdg]
   generalize zR s=c at H kZ
   have hl8:c.st.l.length=8:=rfl
   have hld:((S2 c).drop (0+1)).take 8=c.st.l.map E9:=rfl
   refine W7 ?_;refine rG ?_;refine A3 (nU rfl DL ?_);refine A3 (CZ H (i:=3) rfl rfl PB (by rw[DU c kZ];decide) ?_)
   rw[hld]
   refine A3 (E8 ?_);refine eN ?_
   generalize c.st.l=l at hl8
   have hW:=PU l
   refine qB ?_;refine y7 (ι:=Nat) (fun i=>[(44,VI i),(43,.agg (l.map E9).toArray),(3,.pointer (some ⟨b3,0,none⟩)),(2,.pointer (some ⟨b2,0,none⟩))])
    (fun i w=>i<=8/\Hp w0 w [S9] [.blk S9 (S2 s) 251,.blk b2 (replicate 32 (V8 0)) 34,.blk b3 (iU (fY l) (4*i) 32) 34])
    (fun i=>8-i) 0 ⟨rfl,rfl,rfl,rfl,trivial⟩ ⟨by omega,by rw[El];exact H.sub (CD _ [_])⟩ ?_
   clear H
   rintro i τ w ⟨hi,H⟩
   refine rG ?_;refine A3 (J2 rfl rfl (fun _=>y8) ?_);refine eN ?_
   repeat refine D9 ?_
   refine iJ rfl (fun hlt=>?_) (fun hlt=>?_)
   ·have aI:i<8:=by omega
    have mW:(l.map E9).toArray[(i:Int).toNat]? =some (E9 (l.getD i 0)):=by
     have:i<l.length:=by omega
     simp[this]
    refine M5 ?_;refine qB ?_;refine rG ?_;refine A3 (E8 ?_);refine A3 (Bo Tryz.underlying248 N9 DK rfl rfl oM oM mW ?_);refine A3 (U5 ?_);refine A3 (U5 ?_);refine eN ?_
    refine rG ?_;refine A3 (E8 ?_);refine eN ?_
    refine qB ?_;refine y7 (ι:=Nat) (fun k=>[(48,VI k),(44,VI i),(7,VI i),(8,E9 (l.getD i 0)),(43,.agg (l.map E9).toArray),(3,.pointer (some ⟨b3,0,none⟩)),(2,.pointer (some ⟨b2,0,none⟩))])
     (fun k w=>k<=4/\Hp w0 w [S9] [.blk S9 (S2 s) 251,.blk b2 (replicate 32 (V8 0)) 34,.blk b3 (iU (fY l) (4*i+k) 32) 34])
     (fun k=>4-k) 0 ⟨rfl,rfl,rfl,rfl,rfl,rfl,rfl,trivial⟩ ⟨by omega,H⟩ ?_
    clear H
    rintro k τ w ⟨hk,H⟩
    refine rG ?_;refine A3 (J2 rfl rfl (fun _=>y8) ?_);refine eN ?_
    repeat refine D9 ?_
    refine iJ rfl (fun hlk=>?_) (fun hlk=>?_)
    ·have hlk':k<4:=by omega
     have e2:(24-8*(k:Int)).toNat=24-8*k:=by omega
     have e3:0+(4*(i:Int)+(k:Int)).toNat*1=4*i+k:=by omega
     have e4:=Eo (fY l) (4*i+k) 32 hW oM _ (Ep l i k aI hlk')
     refine M5 ?_;refine qB ?_;refine rG ?_;refine A3 (E8 ?_);refine A3 (U5 ?_);refine eN ?_
     refine rG ?_;refine A3 (E8 ?_);refine A3 (J2 rfl rfl (fun _=>rK oM oM) ?_);refine A3 (E8 ?_);refine A3 (J2 rfl rfl (fun _=>Z7 oM oM) ?_);refine A3 (E8 ?_);refine A3 (E8 ?_);refine A3 (J2 rfl rfl (fun _=>rK oM oM) ?_);refine A3 (J2 rfl rfl (fun _=>fS oM oM) ?_);refine A3 (rJ Tryz.underlying3 Tryz.underlying172 rfl (PW (a:=24-8*(k:Int)) oM oM) ?_);refine A3 (rI rfl rfl (.inr rfl) (fun _=>CW oM oM) ?_)
     rw[e2]
     refine A3 (rJ Tryz.underlying247 Tryz.underlying5 rfl (Ba _) ?_);refine A3 (bW rfl rfl rQ oM oM ?_);refine A3 (nW H (i:=2) (v:=V8 ((l.getD i 0)>>>UInt32.ofNat (24-8*k)).toUInt8) rfl rfl rfl wA rfl (by rw[En _ _ _ hW oM];omega) (fun w H=>?_));refine eN ?_
     rw[e3,e4]at H
     refine rG ?_;refine A3 (J2 rfl rfl (fun _=>Z7 oM oM) ?_);refine A3 (E8 ?_);refine eN ?_
     refine U4 (k+1) ?_ ?_ ?_
     ·exact⟨rfl,rfl,rfl,rfl,rfl,rfl,rfl,trivial⟩
     ·exact⟨hlk',H⟩
     ·show 4-(k+1)<4-k;omega
    ·have hk4:k=4:=by omega
     subst hk4
     refine W7 ?_;refine rG ?_;refine A3 (J2 rfl rfl (fun _=>Z7 oM oM) ?_);refine A3 (E8 ?_);refine eN ?_
     refine U4 (i+1) ?_ ?_ ?_
     ·exact⟨rfl,rfl,rfl,rfl,trivial⟩
     ·exact⟨aI,H⟩
     ·show 8-(i+1)<8-i;omega
   ·have hi8:i=8:=by omega
    subst hi8
    rw[Em _ _ hW]at H
    have hWa:((fY l).map V8).toArray.all (·.oneCell')=true:=by rw[mP];simp[Value.oneCell']
    have hWt:(((fY l).map V8).drop 0).take 32=(fY l).map V8:=by rw[pJ,V7 (by simp[hW])]
    refine W7 ?_;refine rG ?_;refine A3 (CZ H (i:=2) rfl rfl aQ (by simp[hW]) ?_)
    rw[hWt]
    refine A3 (iO H (i:=1) rfl rfl rfl (by rw[iQ];simp[hW]) hWa (by simp[hW]) (fun w H=>?_));refine eN ?_
    refine iL (zD Tryz.results141 H (i:=1) rfl rfl aQ (by simp[hW]) ⟨_,rfl,rfl,?_⟩);exact(H.unS hH).sub (P6 _)
section
variable {P:Program} {Q:Exit->Act->World->Prop} {n:Nat} {σ:Nat->Value} {w w0:World} {K:Act->World->Prop}
 {ty:TypeId} {pos:String} {aft:Array Edge} {g:Option (Nat×Bool)} {d:Nat} {t:TypeId} {x:Operand} {S:List Nat} {L:List Ch}
end
structure Sl where
 a:Option Addr
 len:Nat
 cap:Nat
 l:List UInt8
def Sl.v(s:Sl):Value:=.slice s.a s.len s.cap
structure Sl.ok (s:Sl) (w:World):Prop where
 rd:RdS w s.a (s.l.map V8)
 ln:s.l.length=s.len
 le:s.len<=s.cap
 mx:s.len<=9223372036854775807
theorem Hp.rd'{L:List Ch}(h:Hp w0 w S L){a:Option Addr}(hr:RdS w0 a vs)(Y5:vs≠[]->Apart a S):RdS w a vs:=by
 by_cases hv:vs=[]
 ·exact .inl hv
 ·exact h.rd hr (Y5 hv)
theorem Sl.ok.up{x:Sl}{L:List Ch}(hx:x.ok w0)(H:Hp w0 w S L)(Y5:x.l≠[]->Apart x.a S):x.ok w:=
 ⟨H.rd' hx.rd (fun h=>Y5 (by simpa using h)),hx.ln,hx.le,hx.mx⟩
theorem Sl.ok.apart{x:Sl}(hx:x.ok w0){b:Nat}(hb:w0.heap.size<=b):x.l≠[]->Apart x.a [b]:=by
 intro D6 y hy
 rcases hx.rd with h|⟨b',o,C,T,fr,ha,hh,_⟩
 ·exact absurd (by simpa using h) D6
 ·rw[ha]at hy
  cases hy
  have:=(Z3.1 hh).1
  simp only[O9];omega
theorem Hp.newer{L:List Ch}(H:Hp w0 w [] L){b:Nat}{c:Ch}(hi:L[i]? =some c)(hk:c.key=some b):w0.heap.size<=b:=by
 rcases H.fresh c (E3 hi) b hk with h|h
 ·simp at h
 ·exact h
def eM(ps:List Sl):List UInt8:=ps.flatMap (·.l)
theorem Es(ps:List Sl)(i:Nat)(p:Sl)(h:ps[i]? =some p):eM (ps.take (i+1))=eM (ps.take i)++p.l:=by
 rw[CE,h];simp[eM]
theorem Et{L:List Ch}{hb:Nat}{s:HS}{x:Sl}(H:Hp w0 w S L)(hi:L[i]? =some (.blk hb (S2 s) 251))(P3:s.wt.length=64)(hx:x.ok w)(Y5:x.l≠[]->Apart x.a [hb]):
  Ret Tryz.prog 140 [.pointer (some ⟨hb,0,none⟩),x.v] w fun v w'=>v=.tuple #[]/\Hp w0 w' S (L.set i (.blk hb (S2 (I4 s x.l)) 251)):=by
 refine(PR w hb s x.a x.len x.cap x.l P3 (H.has _ (E3 hi)) hx.rd hx.ln hx.le Y5 hx.mx).mono fun v w' ⟨hv,Hc⟩=>⟨hv,?_⟩
 have:=H.callAt hi rfl rfl Hc
 rw[Z4]at this
 exact this
theorem Eu:O0 zM (replicate 64 0) 0=S2 HS.init:=rfl
theorem PX(l:List UInt8):(I4 HS.init l).wt.length=64:=by rw[JO];rfl
theorem JT(w0:World)(pa:Option Addr)(len cap:Nat)(ps:List Sl)(hr:RdS w0 pa (ps.map Sl.v))(hl:ps.length=len)(M3:∀p∈ps,p.ok w0)(N2:len<9223372036854775807):
  Ret Tryz.prog 87 [.slice pa len cap] w0 fun v w'=>v=.agg ((rV (I4 HS.init (eM ps))).map V8).toArray/\Hp w0 w' [] []:=by
 refine T4 Tryz.func87 rfl Tryz.ntmps87 (by simp) ?_
 have H:=Hp.refl w0 []
 refine rG ?_;refine A3 (W8 H aR (fun b2 w H U1=>?_));refine eN ?_
 refine rG ?_;refine A3 (N4 Tryz.func139 rfl rfl rfl (Dq _) ?_);rintro _ w ⟨hb,rfl,Hc⟩
 replace H:=H.call Hc
 rw[Eu]at H
 clear Hc
 refine A3 (U5 ?_);refine eN ?_
 refine rG ?_;refine A3 (E8 ?_);refine A3 (OL DJ rfl ?_);refine A3 (E8 ?_);refine eN ?_
 refine qB ?_;refine y7 (ι:=Nat) (fun i=>[(9,VI i),(8,VI len),(7,.slice pa len cap),(3,.pointer (some ⟨hb,0,none⟩)),(2,.pointer (some ⟨b2,0,none⟩))])
  (fun i w=>i<=len/\Hp w0 w [] [.blk b2 (replicate 32 (V8 0)) 34,.blk hb (S2 (I4 HS.init (eM (ps.take i)))) 251])
  (fun i=>len-i) 0 ⟨rfl,rfl,rfl,rfl,rfl,trivial⟩ ⟨by omega,H⟩ ?_
 clear H
 rintro i τ w ⟨hi,H⟩
 refine rG ?_;refine A3 (J2 rfl rfl (fun _=>y8) ?_);refine eN ?_
 repeat refine D9 ?_
 refine iJ rfl (fun hlt=>?_) (fun hlt=>?_)
 ·have aI:i<len:=by omega
  have mW:ps[i]? =some (ps[i]'oM):=B7 _
  generalize (ps[i]'oM)=p at mW
  have hp:=M3 p (E3 mW)
  have hv:(ps.map Sl.v)[(i:Int).toNat*1]? =some p.v:=by simp[mW]
  refine M5 ?_;refine qB ?_;refine rG ?_;refine A3 (Bd rfl rfl DJ oM oM (by decide) (H.rd hr (U6 _)) (by simp[hl]) (fun b o ha=>?_));refine A3 (Be (H.rd hr (U6 _)) ha rfl DH hv ?_);refine A3 (U5 ?_);refine eN ?_
  refine rG ?_;refine A3 (E8 ?_);refine A3 (E8 ?_);refine A3 (N4 Tryz.func140 rfl rfl rfl (Et H (i:=1) rfl (PX _) (hp.up H (fun _=>U6 _)) (hp.apart (H.newer (i:=1) rfl rfl))) ?_);rintro _ w ⟨rfl,Hc⟩
  clear H
  have H:=Hc;clear Hc
  rw[<-DT, <-Es ps i p mW]at H
  refine eN ?_
  refine rG ?_;refine A3 (J2 rfl rfl (fun _=>Z7 oM oM) ?_);refine A3 (E8 ?_);refine eN ?_
  refine U4 (i+1) ?_ ?_ ?_
  ·exact⟨rfl,rfl,rfl,rfl,rfl,trivial⟩
  ·exact⟨aI,H⟩
  ·show len-(i+1)<len-i;omega
 ·have H7:i=len:=by omega
  subst H7
  rw[V7 (Nat.le_of_eq hl)]at H
  have hd:=PV (I4 HS.init (eM ps))
  refine W7 ?_;refine rG ?_;refine A3 (E8 ?_);refine A3 (N4 Tryz.func141 rfl rfl rfl (Er _ hb _ (PX _) (H.blk (i:=1) rfl)) ?_);rintro _ w ⟨rfl,Hc⟩
  replace H:=H.call Hc
  rw[Z4]at H
  refine A3 (iO H (i:=0) rfl rfl rfl (by rw[iQ];simp[hd]) (by rw[mP];simp[Value.oneCell']) (by simp[hd]) (fun w H=>?_));refine eN ?_
  refine iL (zD Tryz.results87 H (i:=0) rfl rfl aQ (by simp[hd]) ⟨_,rfl,rfl,?_⟩);exact H.sub (P6 _)
section
open Go Go.ChangeShapes Go.WideShapes Go.ChangeAt Go.RowKit
theorem Tryz.own:ownKnob Tryz.prog.godebug=none:=by kernel_rfl
theorem Tryz.laidOut:laidOutB Tryz.prog=true:=by kernel_rfl
section
variable {H:Type} {enc:TypeId×Value->H} {P:Program}
theorem PY(hl:laidOutB P=true){W W':World}(hb:Below W.heap.size W W'):
  ∀{ts:List TypeId} {vs:List Value} {ds:List (DataW H)} {ps:List MemPlace},(∀t∈ts,P.readableRec t=true/\t<P.types.size)->DataW.TrodAll enc P W 0 (fun _=>true) true ts vs ds ps->(∀x∈ps,x.block<W.heap.size)->
   DataW.TrodAll enc P W' 0 (fun b=>decide (b<W.heap.size)) true ts vs ds ps
|[],_,_,_,_,h,_=>by
  obtain⟨rfl,rfl,rfl⟩:=trodAll_nil h
  exact trodAll_mk0
|t::ts,_,_,_,ht,h,hlt=>by
  obtain⟨v,vs,d,ds,p,q,rfl,rfl,rfl,h1,h2⟩:=trodAll_cons h
  exact⟨p,q,Below.trod hl (ht t (by simp)).1 (ht t (by simp)).2 h1 hb (fun x hx=>hlt x (by simp[hx])),PY hl hb (fun u hu=>ht u (by simp[hu])) h2 (fun x hx=>hlt x (by simp[hx])),rfl⟩
theorem Ew(tb:TypeId)(hb:P.underlying tb=some .bool)(w:World)(b:Bool)(P4:Nat)(sp:Nat->Bool)(held:Bool):DataW.Trod enc P w P4 sp held tb (.bool b) (.lit (.bool b)) []:=⟨1,by simp[DataW.trod,hb,Value.cells]⟩
theorem Ex{f:Func}{s:ChangeSpec}{apart fresh handsOn:Bool}{W W':World}{args:Array Value}{ds gs:List (DataW H)}{before:List MemPlace}{tb:TypeId}(hl:laidOutB P=true)
  (hts:∀t∈f.params.toList,P.readableRec t=true/\t<P.types.size)(hW:DataW.Whole enc P f.params.toList s.vars apart W args.toList ds gs before)(hH:Hp W W' [] [])(hv:s.vars=[])
  (hs:s.fn H ds={ results:=[.lit (.bool true)],args:=ds })(hr:f.resultTypes= #[tb])(hb:P.underlying tb=some .bool):s.post enc P f apart fresh handsOn false W args (.bool true) W':=by
 have hlt:=hW.lt
 have hW':=hW
 obtain⟨p,q,hA,hV,rfl,_,_⟩:=hW
 rw[hv]at hV
 cases gs with
|cons g gs=>simp[DataW.TrodVars]at hV
|nil=>
  have hq:q=[]:=by simpa [DataW.TrodVars] using hV
  subst hq
  have hbel:=hH.below
  have hs':s.fn H (ds++[])={ results:=[.lit (.bool true)],args:=ds}:=by rw[Z4];exact hs
  have mX:(Value.bool true).resultList f.resultTypes.size=[.bool true]:=by rw[hr];rfl
  refine⟨ds,[],p++[],[],p,[],hW',?_,?_,?_,hbel.frame _,fun h=>by cases h⟩
  ·rw[hs',mX,hr]
   exact trodAll_mk1 (Ew tb hb W' true _ _ _)
  ·rw[hs']
   exact PY hl hbel hts hA (fun x hx=>hlt x (by simp[hx]))
  ·rw[hs',hv];rfl
theorem Ey{f:FuncId}{fn:Func}{s:ChangeSpec}{apart fresh handsOn:Bool}{W:World}{args:Array Value}{ds gs:List (DataW H)}{before:List MemPlace}{tb:TypeId}(hl:laidOutB P=true)
  (hts:∀t∈fn.params.toList,P.readableRec t=true/\t<P.types.size)(hW:DataW.Whole enc P fn.params.toList s.vars apart W args.toList ds gs before)(hv:s.vars=[])
  (hs:s.fn H ds={ results:=[.lit (.bool true)],args:=ds })(hr:fn.resultTypes= #[tb])(hb:P.underlying tb=some .bool)
  (h:Ret P f args.toList W fun v w'=>v=.bool true/\Hp W w' [] []):Calls P f args W fun e W'=>∃v,e=.returned v/\s.post enc P fn apart fresh handsOn false W args v W':=by
 have h':Calls P f args W fun e w'=>∃v,e=.returned v/\v=.bool true/\Hp W w' [] []:=by simpa [Ret] using h
 exact w9 h' fun e w' ⟨v,he,uP,hH⟩=>⟨v,he,by subst uP;exact Ex hl hts hW hH hv hs hr hb⟩
end
def Ez(P:Program)(ts:List TypeId):Bool:=ts.all fun t=>P.readableRec t&&decide (t<P.types.size)
theorem Fa{ts:List TypeId}(h:Ez Tryz.prog ts=true):∀t∈ts,Tryz.prog.readableRec t=true/\t<Tryz.prog.types.size:=by
 intro t ht
 have:=Q7.1 h t ht
 simpa using this
theorem Fb(P:Program)(cs:List Char)(h:P.initOrder=String.ofList cs)(hb:((behindMainWord (wordsSigns cs)).head? == some "cut".toList)=true):∃rest,behindMainWord (wordsSigns P.initOrder.toList)= "cut".toList::rest:=by
 rw[h,String.toList_ofList]
 generalize behindMainWord (wordsSigns cs)=l at hb
 cases l with
|nil=>simp at hb
|cons c r=>exact⟨r,by simpa using hb⟩
set_option maxRecDepth 100000 in
theorem Tryz.cut:∃rest,behindMainWord (wordsSigns Tryz.prog.initOrder.toList)= "cut".toList::rest:=by
 refine Fb Tryz.prog _ rfl ?_
 kernel_rfl
theorem PZ(rest:List (List Char)):stripLifts liftWords ("cut".toList::rest)=([], "cut".toList::rest):=by
 kernel_rfl
theorem Fc{rest:List (List Char)}(h:behindMainWord (wordsSigns P.initOrder.toList)= "cut".toList::rest):P.headLifts=[]:=by
 unfold Program.headLifts
 rw[h,PZ]
 simp
theorem Fd{rest:List (List Char)}(h:behindMainWord (wordsSigns P.initOrder.toList)= "cut".toList::rest):P.liftsFinal=false:=by
 unfold Program.liftsFinal
 rw[h,Fc h]
 simp
theorem Fe{rest:List (List Char)}(h:behindMainWord (wordsSigns P.initOrder.toList)= "cut".toList::rest):P.make=some .cut:=by
 unfold Program.make
 rw[h]
 simp
theorem Ff{rest:List (List Char)}(h:behindMainWord (wordsSigns P.initOrder.toList)= "cut".toList::rest)(h1:P.laysLater=false)(h2:P.bearsReflect=false)(h3:P.doorFits []=true):P.mayEnter=true:=by
 unfold Program.mayEnter
 rw[h]
 simp only[PZ,h1,h2,h3]
 simp
theorem Fg(P:Program)(f:FuncId)(fn:Func)(s:ChangeSpec)(c:OpenClaim)(h1:laidOutB P=true)(h2:mapsRowed P=true)(h3:P.stops=[])(h4:P.stopKnobs=[])(h5:P.stopsHeard=true)(h6:P.mayEnter=true)(h7:P.liftsFinal=false)(h8:P.make=some .cut)(pk:Bool)(h9:P.plainKeys=pk)
  (r:(c.wf (OpenSpec.ofChange s)&&fn.params.all (P.readableRec ·)&&namedTie P c.named s.vars &&
 (c.stops==[])&&(c.knobs==[]) && 
 (c.inPlace==P.inPlace f)&&(c.unfollowed==P.unfollowed f)&&(c.recurses==P.recurses f)&&(c.named==P.varsNamed f))=true)
  (r2:((c.maps==(fn.params.toList++s.plain.varTypes P).any (P.mapsRec ·))&&(c.ifaces==(fn.params.toList++s.plain.varTypes P).any (P.ifacesRec ·))&&(c.mapsOut==P.mapsAmong fn.resultTypes.toList) &&
 (c.loops==(fn.params.toList++s.plain.varTypes P).any (P.loopsFrom ·))&&(c.wideKeys==(fn.params.toList++s.plain.varTypes P++fn.resultTypes.toList).any (P.wideKeysFrom ·)) &&
 s.vars.all (P.varReadable ·)&&fn.resultTypes.all (fun t=>P.readableRec t&&decide (t<P.types.size))&&(c.ifacesOut==fn.resultTypes.toList.any (P.ifacesRec ·))&&(c.loopsOut==fn.resultTypes.toList.any (P.loopsFrom ·))&&(c.plainKeys==pk)&&c.shortTexts.isNone&&(c.lifted==false)&&(some Make.cut==some c.make)&&(c.kinds==(if c.domain.isEmpty then [] else fn.params.toList.map fun t=>match P.underlying t with|some (.int k)=>some k|_=>none))&&(c.pinned==c.pinnedBy) &&
 (c.veiled==(fn.params.toList++s.plain.varTypes P++fn.resultTypes.toList).any (P.veiledRec ·))&&c.veiledFits P fn.params.toList (fn.params.toList++s.plain.varTypes P++fn.resultTypes.toList))=true):joinedFacts P f fn s c=true:=by
 simp only[B2]at r r2
 obtain⟨⟨⟨⟨⟨⟨⟨⟨k1,k4⟩,k5⟩,k6⟩,k8⟩,k10⟩,k11⟩,k12⟩,k13⟩:=r
 obtain⟨⟨⟨⟨⟨⟨⟨⟨⟨⟨⟨⟨⟨⟨⟨⟨m1,m2⟩,m3⟩,m4⟩,m5⟩,m6⟩,m7⟩,m8⟩,m9⟩,m10⟩,m11⟩,m12⟩,m13⟩,m14⟩,m15⟩,m16⟩,m17⟩:=r2
 unfold joinedFacts
 rw[h3,h4,h7,h8,h9]
 simp only[B2]
 exact⟨⟨⟨⟨⟨⟨⟨⟨⟨⟨⟨⟨⟨⟨⟨⟨⟨⟨⟨⟨⟨⟨⟨⟨⟨⟨⟨⟨⟨⟨⟨k1,h1⟩,h2⟩,k4⟩,k5⟩,k6⟩,rfl⟩,k8⟩,rfl⟩,k10⟩,k11⟩,k12⟩,k13⟩,m1⟩,m2⟩,m3⟩,m4⟩,m5⟩,m6⟩,m7⟩,m8⟩,m9⟩,m10⟩,m11⟩,h5⟩,h6⟩,m12⟩,m13⟩,m14⟩,m15⟩,m16⟩,m17⟩
theorem Tryz.mapsRowed:mapsRowed Tryz.prog=true:=by kernel_rfl
theorem Tryz.stops:Tryz.prog.stops=[]:=by kernel_rfl
theorem Tryz.stopKnobs:Tryz.prog.stopKnobs=[]:=by kernel_rfl
theorem Tryz.stopsHeard:Tryz.prog.stopsHeard=true:=by kernel_rfl
theorem Tryz.laysLater:Tryz.prog.laysLater=false:=by kernel_rfl
theorem Tryz.bearsReflect:Tryz.prog.bearsReflect=false:=by kernel_rfl
theorem Tryz.doorFits:Tryz.prog.doorFits []=true:=by kernel_rfl
theorem Tryz.mayEnter:Tryz.prog.mayEnter=true:=Tryz.cut.elim fun _ h=>Ff h Tryz.laysLater Tryz.bearsReflect Tryz.doorFits
theorem Tryz.liftsFinal:Tryz.prog.liftsFinal=false:=Tryz.cut.elim fun _ h=>Fd h
theorem Tryz.make:Tryz.prog.make=some .cut:=Tryz.cut.elim fun _ h=>Fe h
theorem Tryz.plainKeys:Tryz.prog.plainKeys=false:=by kernel_rfl
end
section
open Go Go.ChangeShapes Go.WideShapes Go.ChangeAt Go.RowKit Go.Deep
section
variable {H:Type} {enc:TypeId×Value->H} {W:World}
theorem Fh:Tryz.prog.cellsOf 5=1:=by kernel_rfl
instance:Inhabited Sl:=⟨⟨none,0,0,[]⟩⟩
end
end
inductive Stp where|f (i off:Nat)|e (i z n:Nat)
def Stp.off:Stp->Nat
|.f _ o=>o
|.e i z _=>i*z
def Stp.ok:Stp->Prop
|.f _ _=>True
|.e i _ n=>i<n
def C1:List Stp->Nat
|[]=>0
|x::p=>x.off+C1 p
structure MS where
 s:Nat
 K:List (List UInt8)
inductive V where
|i (k:IntKind) (n:Int)|b (p:Bool)|bc (p:Bool)|s (l:List UInt8)
|st (n:Nat) (g:Nat->V)|ar (z n:Nat) (g:Nat->V)|bs (n:Nat) (l:List UInt8)|tu (n:Nat) (g:Nat->V)
|bl (t:Nat) (l:List UInt8)|sl (t z n:Nat) (g:Nat->V)
|np|pr (r j:Nat) (p:List Stp)|pz (v:V)|ro (v:V)|lit (x:Value)|fn (f:FuncId) (n:Nat) (g:Nat->V)
|os (r z:Nat)|uk (n:Nat)|fo (z:Nat) (b:V) (i:Nat) (v:V)|lb (l:List UInt8)|vw (r:Nat) (p:List Stp) (a n:Nat)
|mp (b n:Nat) (t:MS)
|un
instance:Inhabited V:=⟨.un⟩
inductive Ow where|no|fz (x:Value)|rt (r j k:Nat)|tp (t:Nat)
structure Cx where
 G:Nat->Nat->Ow
 ρ:Nat->Nat->Option (Nat×Nat×Nat)
 Φ:(Nat->Nat->Ow)->(Nat->Nat->Option (Nat×Nat×Nat))->List Nat->Prop
 κ:Nat
 ν:Nat
 wr:Bool
def O1(t:MS):Value:=.tuple #[.int .u8 t.s,.agg (t.K.map fun k=>.agg (k.map fun u=>.int .u8 (u.toNat:Int)).toArray).toArray]
def JU(b:Nat):Nat->Value
|0=>.map (some b)
|n+1=>.int .i64 n
abbrev F0(u:UInt8):Value:=.int .u8 (u.toNat:Int)
def dG:Nat->(Nat->List Value->Prop)->List Value->Prop
|0,_,cs=>cs=[]
|n+1,R,cs=>∃a b,cs=a++b/\dG n R a/\R n b
def FzAt(G:Nat->Nat->Ow)(b o:Nat)(cs:List Value):Prop:=∀(k:Nat) x,cs[k]? =some x->G b (o+k)=.fz x
def SlR(G:Nat->Nat->Ow)(lv:List Nat)(c t n z:Nat)(W:Nat->Nat->Prop)(cs:List Value):Prop:=
 ∃a cap,cs=[.slice a n cap]/\n<=cap/\cap<=maxLen/\t<c/\(t=1->cap=n)/\
  (((a=none\/t=0)/\cap=0)\/∃b o,a=some ⟨b,o,none⟩/\W b o/\(t∈lv->∀i,n*z<=i->i<cap*z->G b (o+i)=.tp t))
def A4(cs:List Value)(o:Nat)(xs:List Value):List Value:=cs.take o++xs++cs.drop (o+xs.length)
theorem n9(h:o+xs.length<=cs.length):(A4 cs o xs).length=cs.length:=by simp[A4];omega
def V.sz:V->Nat
|.st n g=>sum n fun k=>(g k).sz
|.ar z n _=>n*z
|.bs n _=>n
|.uk n=>n
|.fo _ y _ _=>y.sz
|_=>1
where sum:Nat->(Nat->Nat)->Nat
|0,_=>0
|n+1,f=>sum n f+f n
def V.mem:V->Bool
|.st n g=>all n fun k=>(g k).mem
|.tu _ _|.ro _|.un=>false
|.fo z y _ v=>y.mem&&v.mem&&beq v.sz z
|_=>true
where all:Nat->(Nat->Bool)->Bool
|0,_=>true
|n+1,f=>all n f&&f n
def rep(X:Cx):V->List Nat->Nat->List Value->Prop
|.i k n,_,_,cs=>cs=[.int k n]/\k.wrap n=n
|.b p,_,_,cs=>cs=[.bool p]
|.s l,_,_,cs=>cs=[.string ⟨l.toArray⟩]/\l.length<=maxLen
|.st n g,lv,c,cs=>dG n (fun k=>rep X (g k) lv c) cs
|.ar z n g,_,_,cs=>cs.length=n*z/\∀k,k<n->rep X (g k) [] 2 ((cs.drop (k*z)).take z)/\(g k).mem=true
|.bs n l,_,_,cs=>l.length=n/\cs=l.map F0
|.tu _ _,_,_,_=>False
|.bl t l,lv,c,cs=>SlR X.G lv c t l.length 1 (fun b o=>FzAt X.G b o (l.map F0)) cs
|.sl t z n g,lv,c,cs=>0<z/\SlR X.G lv c t n z (fun b o=>∀i,i<n->∃es,rep X (g i) [] 2 es/\es.length=z/\(g i).mem=true/\FzAt X.G b (o+i*z) es) cs
|.np,_,_,cs=>cs=[.pointer none]
|.pr r j p,_,c,cs=>(2<=r/\r<c)/\∃b o0 N,X.ρ r j=some (b,o0,N)/\cs=[.pointer (some ⟨b,o0+C1 p,none⟩)]/\∀x∈p,x.ok
|.pz v,_,_,cs=>∃b o es,cs=[.pointer (some ⟨b,o,none⟩)]/\rep X v [] 2 es/\0<es.length/\FzAt X.G b o es
|.lit x,_,_,cs=>cs=[x]/\x.oneCell'=true
|.fn f n g,lv,c,cs=>∃vs:List Value,cs=[.func (.func f) #[] vs.toArray]/\vs.length=n/\∀k,k<n->∃x,vs[k]? =some x/\rep X (g k) lv c [x]
|.ro _,_,_,_=>False
|.bc p,_,_,cs=>cs=[.bool p]
|.os r z,lv,c,cs=>2<=r/\0<z/\∃b n,X.ρ r 0=some (b,0,n*z)/\SlR X.G lv c r n z (fun b' o'=>0<n->b'=b/\o'=0) cs/\(n=0->r∈lv->∃a,cs=[.slice a 0 0])
|.uk n,_,_,cs=>cs.length=n/\∀x∈cs,x.oneCell'=true
|.fo z b i v,lv,c,cs=>i*z+z<=cs.length/\(∃es,es.length=z/\rep X b lv c (A4 cs (i*z) es))/\rep X v lv c ((cs.drop (i*z)).take z)
|.lb l,lv,c,cs=>2<c/\SlR X.G lv c 1 l.length 1 (fun b o=>X.ν<=b/\o=0/\FzAt X.G b o (l.map F0)) cs
|.vw r p a n,_,c,cs=>(2<=r/\r<c)/\(∀x∈p,x.ok)/\∃b o N cap,X.ρ r 0=some (b,o,N)/\cs=[.slice (some ⟨b,o+C1 p+a,none⟩) n cap]/\n<=cap/\cap<=maxLen
|.mp b n t,_,c,cs=>cs=[JU b n]/\(∃t',X.G b n=.fz (O1 t')/\(n=0->t'=t))/\2<c
|.un,_,_,_=>True
def V.strip:V->V
|.bl t l=>.bl (bif blt t 2 then t else 0) l
|.sl t z n g=>.sl (bif blt t 2 then t else 0) z n g
|.st n g=>.st n fun k=>(g k).strip
|.fn f n g=>.fn f n fun k=>(g k).strip
|.fo z y m v=>.fo z y.strip m v.strip
|.lb l=>.bl 1 l
|x=>x
def Z9:Nat->Bool:=fun _=>false
def V.prs(S:Nat->Bool):V->Bool
|.pr r j _=>S r&&beq j 0
|.os r _|.vw r _ _ _=>S r
|.fo _ y _ v=>y.prs S&&v.prs S
|.st n g|.tu n g|.fn _ n g=>V.mem.all n fun k=>(g k).prs S
|.mp _ _ _=>false
|_=>true
theorem w4{n:Nat}{f:Nat->Bool}(h:V.mem.all n f=true):∀k,k<n->f k=true:=by
 induction n with
|zero=>intro k hk;omega
|succ n ih=>
  simp only[V.mem.all,B2]at h
  intro k hk
  by_cases he:k=n
  ·subst he;exact h.2
  ·exact ih h.1 k oM
theorem DV{n:Nat}{R:Nat->List Value->Prop}{f:Nat->Nat}{cs:List Value}(h:dG n R cs)(hl:∀k cs,k<n->R k cs->cs.length=f k):cs.length=V.sz.sum n f:=by
 induction n generalizing cs with
|zero=>simp[dG]at h;subst h;rfl
|succ n ih=>
  obtain⟨a,b,rfl,h1,h2⟩:=h
  rw[D0,ih h1 (fun k cs hk=>hl k cs oM),hl n b oM h2]
  rfl
theorem W9{X:Cx}:∀{v:V} {lv c cs},v.mem=true->rep X v lv c cs->cs.length=v.sz:=by
 intro v
 induction v with
|st n g ih=>
  intro lv c cs hm h
  exact DV h fun k cs hk hr=>ih k (w4 hm k hk) hr
|ar z n g ih=>intro lv c cs _ h;exact h.1
|bs n l=>intro lv c cs _ h;obtain⟨h1,rfl⟩:=h;simp[V.sz,h1]
|b|bc|np=>intro lv c cs _ h;simp only[rep]at h;subst h;rfl
|i|s=>intro lv c cs _ h;obtain⟨rfl,_⟩:=h;rfl
|lit x=>intro lv c cs _ h;obtain⟨rfl,_⟩:=h;rfl
|bl t l=>intro lv c cs _ h;obtain⟨_,_,rfl,_⟩:=h;rfl
|sl t z n g=>intro lv c cs _ h;obtain⟨_,_,_,rfl,_⟩:=h;rfl
|pr=>intro lv c cs _ h;obtain⟨_,_,_,_,_,rfl,_⟩:=h;rfl
|pz=>intro lv c cs _ h;obtain⟨_,_,_,rfl,_⟩:=h;rfl
|os r z=>intro lv c cs _ h;obtain⟨_,_,_,_,_,⟨_,_,rfl,_⟩,_⟩:=h;rfl
|mp b n t=>intro lv c cs _ h;obtain⟨rfl,_⟩:=h;rfl
|uk n=>intro lv c cs _ h;exact h.1
|lb l=>intro lv c cs _ h;obtain⟨_,_,_,rfl,_⟩:=h;rfl
|vw=>intro lv c cs _ h;obtain⟨_,_,_,_,_,_,_,rfl,_⟩:=h;rfl
|fo z b i v N3 _=>
  intro lv c cs hm h
  obtain⟨h1,⟨es,h2,h3⟩,_⟩:=h
  simp only[V.mem,B2]at hm
  have:=N3 hm.1.1 h3
  rw[n9 oM]at this
  exact this
|fn=>intro lv c cs _ h;obtain⟨_,rfl,_⟩:=h;rfl
|tu|ro|un=>intro lv c cs hm;cases hm
theorem a7{n:Nat}{R R':Nat->List Value->Prop}{cs:List Value}(h:dG n R cs)(hr:∀k cs,k<n->R k cs->R' k cs):dG n R' cs:=by
 induction n generalizing cs with
|zero=>exact h
|succ n ih=>
  obtain⟨a,b,rfl,h1,h2⟩:=h
  exact⟨a,b,rfl,ih h1 (fun k cs hk=>hr k cs oM),hr n b oM h2⟩
structure Cx.le (X X':Cx) (lv lv':List Nat) (c:Nat):Prop where
 fz:∀b i x,X.G b i=.fz x->X'.G b i=.fz x
 tp:∀b i t,t∈lv'->t<c->X.G b i=.tp t->X'.G b i=.tp t
 lv:∀t,t∈lv'->t<c->t∈lv
 ρ:∀r j p,2<=r->r<c->X.ρ r j=some p->X'.ρ r j=some p
 ν:X'.ν=X.ν
structure Gle (G:Nat->Nat->Ow) (ρ:Nat->Nat->Option (Nat×Nat×Nat)) (G':Nat->Nat->Ow) (ρ':Nat->Nat->Option (Nat×Nat×Nat)) (lv lv':List Nat) (c:Nat):Prop where
 fz:∀b i x,G b i=.fz x->G' b i=.fz x
 tp:∀b i t,t∈lv'->t<c->G b i=.tp t->G' b i=.tp t
 lv:∀t,t∈lv'->t<c->t∈lv
 ρ:∀r j p,2<=r->r<c->ρ r j=some p->ρ' r j=some p
theorem Cx.le.g{X X':Cx}(h:X.le X' lv lv' c)(hc:c'<=c):Gle X.G X.ρ X'.G X'.ρ lv lv' c':=
 ⟨h.fz,fun b i t ht hlt hx=>h.tp b i t ht (X5 hlt hc) hx,fun t ht hlt=>h.lv t ht (X5 hlt hc),fun r j p h2 hr h'=>h.ρ r j p h2 (X5 hr hc) h'⟩
theorem FzAt.mono{G G':Nat->Nat->Ow}{b:Nat}(h:∀b i x,G b i=.fz x->G' b i=.fz x)(hf:FzAt G b o cs):FzAt G' b o cs:=fun k x hk=>h _ _ _ (hf k x hk)
theorem SlR.mono{X X':Cx}{t n z:Nat}{W W':Nat->Nat->Prop}(hl:X.le X' lv lv' c)(hc:c<=c')(hw:∀b o,W b o->W' b o)(h:SlR X.G lv c t n z W cs):SlR X'.G lv' c' t n z W' cs:=by
 obtain⟨a,cap,h1,h2,h3,h4,h5,h6⟩:=h
 refine⟨a,cap,h1,h2,h3,by omega,h5,?_⟩
 rcases h6 with h6|⟨b,o,q1,q2,q3⟩
 ·exact .inl h6
 ·exact .inr ⟨b,o,q1,hw _ _ q2,fun ht i hi H7=>hl.tp _ _ _ ht h4 (q3 (hl.lv _ ht h4) i hi H7)⟩
theorem Cx.le.nil{X X':Cx}(h:X.le X' lv lv' c):X.le X' [] [] 2:=⟨h.fz,fun _ _ _ ht=>by simp at ht,fun _ ht=>by simp at ht,fun r _ _ h2 hr _=>by omega,h.ν⟩
theorem rep.mono{X X':Cx}:∀{v:V} {lv lv':List Nat} {c c':Nat} {cs:List Value},X.le X' lv lv' c->c<=c'->rep X v lv c cs->rep X' v lv' c' cs:=by
 intro v
 induction v with
|i|b|bc|np|s|bs|lit|un|uk=>intro lv lv' c c' cs _ _ h;exact h
|os r z=>
  intro lv lv' c c' cs hl hc h
  obtain⟨h1,h2,b,n,h3,h4,h5⟩:=h
  have pY:r<c:=by obtain⟨_,_,_,_,_,q,_⟩:=h4;exact q
  exact⟨h1,h2,b,n,hl.ρ _ _ _ h1 pY h3,SlR.mono hl hc (fun _ _ h=>h) h4,fun e hr=>h5 e (hl.lv r hr pY)⟩
|mp b n t=>intro lv lv' c c' cs hl hc h;exact⟨h.1,h.2.1.imp fun _ q=>⟨hl.fz _ _ _ q.1,q.2⟩,X5 h.2.2 hc⟩
|lb l=>intro lv lv' c c' cs hl hc h;exact⟨by have:=h.1;omega,SlR.mono hl hc (fun b o h=>⟨by rw[hl.ν];exact h.1,h.2.1,h.2.2.mono hl.fz⟩) h.2⟩
|vw r p a n=>
  intro lv lv' c c' cs hl hc h
  obtain⟨⟨e1,e2⟩,e3,b,o,N,cap,q1,q2⟩:=h
  exact⟨⟨e1,by omega⟩,e3,b,o,N,cap,hl.ρ _ _ _ e1 e2 q1,q2⟩
|fo z b i v N3 Q2=>
  intro lv lv' c c' cs hl hc h
  obtain⟨h1,⟨es,h2,h3⟩,h4⟩:=h
  exact⟨h1,⟨es,h2,N3 hl hc h3⟩,Q2 hl hc h4⟩
|tu|ro=>intro lv lv' c c' cs _ _ h;exact h.elim
|st n g ih=>intro lv lv' c c' cs hl hc h;exact a7 h fun k cs _ hk=>ih k hl hc hk
|ar z n g ih=>intro lv lv' c c' cs hl hc h;exact⟨h.1,fun k hk=>⟨ih k hl.nil (B5 _) (h.2 k hk).1,(h.2 k hk).2⟩⟩
|bl t l=>intro lv lv' c c' cs hl hc h;exact SlR.mono hl hc (fun b o=>FzAt.mono hl.fz) h
|sl t z n g ih=>
  intro lv lv' c c' cs hl hc h
  refine⟨h.1,SlR.mono hl hc (fun b o hw i hi=>?_) h.2⟩
  obtain⟨es,q1,q2,q4,q3⟩:=hw i hi
  exact⟨es,ih i hl.nil (B5 _) q1,q2,q4,q3.mono hl.fz⟩
|pr r j p=>
  intro lv lv' c c' cs hl hc h
  obtain⟨⟨e1,e2⟩,b,o0,N,q1,q2⟩:=h
  exact⟨⟨e1,by omega⟩,b,o0,N,hl.ρ _ _ _ e1 e2 q1,q2⟩
|pz v ih=>
  intro lv lv' c c' cs hl hc h
  obtain⟨b,o,es,q1,q2,q3,q4⟩:=h
  exact⟨b,o,es,q1,ih hl.nil (B5 _) q2,q3,q4.mono hl.fz⟩
|fn f n g ih=>
  intro lv lv' c c' cs hl hc h
  obtain⟨vs,q1,q2,q3⟩:=h
  exact⟨vs,q1,q2,fun k hk=>by obtain⟨x,h1,h2⟩:=q3 k hk;exact⟨x,h1,ih k hl hc h2⟩⟩
def repv(X:Cx)(lv:List Nat)(c:Nat):V->Value->Prop
|.tu n g,x=>∃C:Array Value,x=.tuple C/\C.size=n/\∀k,k<n->∃y,C[k]? =some y/\repv X lv c (g k) y
|.un,_=>True
|.st n g,x=>∃C:Array Value,x=.agg C/\rep X (.st n g) lv c C.toList
|.ar z n g,x=>∃C:Array Value,x=.agg C/\rep X (.ar z n g) lv c C.toList
|.bs n l,x=>∃C:Array Value,x=.agg C/\rep X (.bs n l) lv c C.toList
|w,x=>rep X w lv c [x]
theorem repv.mono{X X':Cx}:∀{v:V} {lv lv':List Nat} {c c':Nat} {x:Value},X.le X' lv lv' c->c<=c'->repv X lv c v x->repv X' lv' c' v x:=by
 intro v
 induction v with
|tu n g ih=>
  intro lv lv' c c' x hl hc h
  obtain⟨C,h1,h2,h3⟩:=h
  exact⟨C,h1,h2,fun k hk=>by obtain⟨y,q1,q2⟩:=h3 k hk;exact⟨y,q1,ih k hl hc q2⟩⟩
|st|ar|bs=>intro lv lv' c c' x hl hc h;obtain⟨C,h1,h2⟩:=h;exact⟨C,h1,rep.mono hl hc h2⟩
|un=>intro _ _ _ _ _ _ _ _;trivial
|_=>intro lv lv' c c' x hl hc h;exact rep.mono (v:=_) hl hc h
def DW(X:Cx):MemPlace->Prop
|.cell b i=>(∃r j k,X.G b i=.rt r j k)\/∃t,X.G b i=.tp t
|.map b=>X.wr=true/\∃t,X.G b 0=.fz (O1 t)
abbrev ad(b i:Nat):Addr:=⟨b,i,none⟩
def FrN(w:World)(b i:Nat):Prop:=w.frozen? (ad b i)=false/\(i=0->∀j,w.frozen? (ad b j)=false)
theorem FrN.to{b:Nat}(hh:∀j,w'.frozen? (ad b j)=w.frozen? (ad b j))(h:FrN w b i):FrN w' b i:=⟨(hh i).trans h.1,fun e j=>(hh j).trans (h.2 e j)⟩
theorem FrN.all{b:Nat}(h:∀j,w.frozen? (ad b j)=false):FrN w b i:=⟨h i,fun _=>h⟩
def Q6(X:Cx)(w:World)(r j b o:Nat)(cs:List Value):Prop:=∀(k:Nat) x,cs[k]? =some x->X.G b (o+k)=.rt r j k/\w.cell? (ad b (o+k))=some x/\FrN w b (o+k)
def RtR(X:Cx)(lv:List Nat)(c:Nat)(w:World)(r j b o N:Nat):V->Prop
|.ro v=>∃cs,rep X v [] 2 cs/\v.mem=true/\cs.length=N/\FzAt X.G b o cs
|.un=>True
|v=>∃cs,rep X v lv c cs/\v.mem=true/\cs.length=N/\Q6 X w r j b o cs
def UnM(w:World)(b:Nat):Prop:=∀C T fr,w.heap[b]? =some (.cells C T fr)->fr=(0,0)\/C.size<=fr.1
def NoMark(G:Nat->Nat->Ow)(n:Nat)(w:World):Prop:=∀b,n<=b->(∃i,G b i≠ .no)->UnM w b
theorem NoMark.sub{G G':Nat->Nat->Ow}{n:Nat}(h:NoMark G n w)(hs:∀b i,n<=b->G' b i≠ .no->(∃i',G b i'≠ .no)\/UnM w b):NoMark G' n w:=fun b hb ⟨i,hi⟩=>(hs b i hb hi).elim (h b hb) id
def F9(k:List UInt8):Value:=.agg (k.map F0).toArray
def X3:Nat->V->Bool
|0,.i .i64 _=>true
|1,.bl t l=>beq t 0&&Nat.ble l.length 1000000
|2,.st n g=>beq n 2&&(match g 0,g 1 with|.bl t l,.b _=>beq t 0&&Nat.ble l.length 1000000|_,_=>false)
|_,_=>false
def MapC(X:Cx)(w:World)(b n:Nat)(t:MS):Prop:=∃es F8,w.heap[b]? =some (.map es F8)/\
 match n with
|0=>(es.toList.map (·.key)).Nodup/\(es.toList.map (·.born)).Nodup/\∀e∈es.toList,e.born<F8/\(∃k:List UInt8,k.length=32/\e.key=F9 k/\k∈t.K)/\∃v,X3 t.s v=true/\repv X [] 2 v e.val
|n+1=>∃e∈es.toList,e.born=n
structure FzOk (X:Cx) (w:World) (b i:Nat) (x:Value):Prop where
 c:x.oneCell'=true->w.cell? (ad b i)=some x
 m:∀t,x=O1 t->MapC X w b i t
 o:x.oneCell'=true\/∃t,x=O1 t
theorem QA:∀{l m:List UInt8},l.map F0=m.map F0->l=m
|[],[],_=>rfl
|[],_::_,h=>by simp at h
|_::_,[],h=>by simp at h
|a::l,b::m,h=>by
  simp only[T9,uC,Value.int.injEq,true_and]at h
  rw[QA h.2,CB.1 (Int.ofNat_inj.1 h.1)]
theorem Fi{l m:List UInt8}(h:F9 l=F9 m):l=m:=by
 unfold F9 at h
 simp only[Value.agg.injEq]at h
 exact QA (by simpa using congrArg Array.toList h)
theorem QB:∀{K K':List (List UInt8)},K.map F9=K'.map F9->K=K'
|[],[],_=>rfl
|[],_::_,h=>by simp at h
|_::_,[],h=>by simp at h
|a::l,b::m,h=>by
  simp only[T9,uC]at h
  rw[Fi h.1,QB h.2]
theorem QC{t t':MS}(h:O1 t=O1 t'):t=t':=by
 obtain⟨s,K⟩:=t
 obtain⟨s',K'⟩:=t'
 unfold O1 at h
 simp only[Value.tuple.injEq]at h
 have h:=congrArg Array.toList h
 simp only[uC,Value.int.injEq,true_and,Value.agg.injEq,and_true]at h
 obtain⟨h1,h2⟩:=h
 have h1:s=s':=Int.ofNat_inj.1 h1
 subst h1
 have h2:(K.map F9).toArray=(K'.map F9).toArray:=h2
 have h2:K.map F9=K'.map F9:=by simpa only[CF] using congrArg Array.toList h2
 rw[QB h2]
theorem oE{t:MS}(h:(O1 t).oneCell'=true):False:=by cases h
theorem FzOk.cell{X:Cx}{b:Nat}(h1:w.cell? (ad b i)=some x)(h2:x.oneCell'=true):FzOk X w b i x:=⟨fun _=>h1,fun t e=>by subst e;exact(oE h2).elim,.inl h2⟩
def eO:List Value:=Lib.pow10Tab.map (.int .u64)
def JV(g:Nat):Prop:=Tryz.prog.globalNamed "internal/strconv.uint64pow10" =some g
structure Wd (X0 X:Cx) (h:Nat->Nat->V) (lv:List Nat) (c:Nat) (w0 w:World):Prop where
 kb:w0.keptBut w (DW X0)
 tape:w.tape=w0.tape
 fz0:∀b i x,X0.G b i=.fz x->X.G b i=.fz x
 no0:∀b i,b<w0.heap.size->X0.G b i=.no->X.G b i=.no\/∃t,X.G b i=.fz (O1 t)
 mp0:∀b t,b<w0.heap.size->X.G b 0=.fz (O1 t)->X0.G b 0=.fz (O1 t)
 ρ0:∀r j p,X0.ρ r j=some p->X.ρ r j=some p
 ex:∀b i,X.G b i≠ .no->b<w.heap.size
 fz:∀b i x,X.G b i=.fz x->FzOk X w b i x
 tp:∀b i t,X.G b i=.tp t->(w.cell? (ad b i)).isSome=true/\w.frozen? (ad b i)=false
 rt:∀r j b o N,X.ρ r j=some (b,o,N)->RtR X lv c w r j b o N (h r j)
 c2:2<=c
 lvc:∀t,t∈lv->2<=t/\t<c
 ρc:∀r j p,X.ρ r j=some p->r<c
 inv:X0.Φ X.G X.ρ lv
 imo:∀G ρ G' ρ' lv1 S3,Gle G ρ G' ρ' lv1 S3 X0.κ->X0.Φ G ρ lv1->X0.Φ G' ρ' S3
 κc:X0.κ<=c
 νe:X.ν=X0.ν
 we:X.wr=X0.wr
 gz:∀g,JV g->FzAt X0.G g 0 eO/\∃C T fr,w0.heap[g]? =some (.cells C T fr)/\C.size=eO.length
 ν0:w0.heap.size<=X0.ν
 νs:X0.ν<=w.heap.size
 nf:NoMark X.G X0.ν w
theorem Fj{a b:World}{m:MemPlace->Prop}(h:a.keptBut b m){x:Nat}{C:Array Value}{T:TypeId}{fr:Nat×Nat}(ha:a.heap[x]? =some (.cells C T fr)):∃C' T' bK,b.heap[x]? =some (.cells C' T' bK)/\C'.size=C.size:=by
 have:=h.2.2 x (Z3.1 ha).1
 rw[ha]at this
 cases hb:b.heap[x]? with
|none=>rw[hb]at this;simp at this
|some o=>
  rw[hb]at this
  cases o with
 |cells C' T' bK=>exact⟨C',T',bK,rfl,this.2.2.1⟩
 |_=>simp at this
theorem Wd.gz1{X0 X X':Cx}{h:Nat->Nat->V}(H:Wd X0 X h lv c w0 w)(hf:∀b i x,X.G b i=.fz x->X'.G b i=.fz x):∀g,JV g->FzAt X'.G g 0 eO/\∃C T fr,w.heap[g]? =some (.cells C T fr)/\C.size=eO.length:=fun p hp=>by
 obtain⟨h1,C,T,fr,h2,h3⟩:=H.gz p hp
 obtain⟨C',T',bK,h4,h5⟩:=Fj H.kb h2
 exact⟨fun k x hk=>hf _ _ _ (H.fz0 _ _ _ (h1 k x hk)),C',T',bK,h4,h5.trans h3⟩
theorem Fk{X X':Cx}(hf:∀b i x,X.G b i=.fz x->X'.G b i=.fz x){t:Nat}{v:V}{x:Value}(hm:X3 t v=true)(h:repv X [] 2 v x):repv X' [] 2 v x:=by
 have bl:∀{q:Nat} {l:List UInt8} {cs:List Value},rep X (.bl q l) [] 2 cs->rep X' (.bl q l) [] 2 cs:=fun {q l cs} h=>by
  obtain⟨a,cap,h1,h2,h3,h4,h5,h6⟩:=h
  exact⟨a,cap,h1,h2,h3,h4,h5,h6.imp id fun⟨b,o,q1,q2,_⟩=>⟨b,o,q1,q2.mono hf,fun ht=>by simp at ht⟩⟩
 unfold X3 at hm
 split at hm
 ·exact h
 ·exact bl h
 ·rename_i n g
  rw[B2]at hm
  obtain rfl:=A6 hm.1
  obtain⟨C,h1,h2⟩:=h
  refine⟨C,h1,a7 h2 fun k cs hk hr=>?_⟩
  have hm:=hm.2
  split at hm
  ·rename_i q l p e0 e1
   match k,hk with
  |0,_=>rw[e0]at hr ⊢;exact bl hr
  |1,_=>rw[e1]at hr ⊢;exact hr
  ·cases hm
 ·cases hm
theorem MapC.mono{X X':Cx}{b n:Nat}{t:MS}(hf:∀b i x,X.G b i=.fz x->X'.G b i=.fz x)(hm:∀es F8,w.heap[b]? =some (.map es F8)->w'.heap[b]? =some (.map es F8))(h:MapC X w b n t):MapC X' w' b n t:=by
 obtain⟨es,F8,h1,h2⟩:=h
 refine⟨es,F8,hm _ _ h1,?_⟩
 cases n with
|zero=>
  obtain⟨h2,h3,h4⟩:=h2
  exact⟨h2,h3,fun e he=>⟨(h4 e he).1,(h4 e he).2.1,by obtain⟨v,q1,q2⟩:=(h4 e he).2.2;exact⟨v,q1,Fk hf q1 q2⟩⟩⟩
|succ n=>exact h2
theorem FzOk.move{X X':Cx}{b i:Nat}{x:Value}(hf:∀b i x,X.G b i=.fz x->X'.G b i=.fz x)(hc:w'.cell? (ad b i)=w.cell? (ad b i))(hm:∀es F8,w.heap[b]? =some (.map es F8)->w'.heap[b]? =some (.map es F8))(h:FzOk X w b i x):FzOk X' w' b i x:=
 ⟨fun h1=>hc.trans (h.c h1),fun t e=>(h.m t e).mono hf hm,h.o⟩
theorem Wd.cell{X0 X:Cx}{h:Nat->Nat->V}(H:Wd X0 X h lv c w0 w){b:Nat}(hx:X.G b i=.fz x)(h1:x.oneCell'=true):w.cell? (ad b i)=some x:=(H.fz b i x hx).c h1
theorem Wd.inv'{X0 X:Cx}{h:Nat->Nat->V}(H:Wd X0 X h lv c w0 w){X':Cx}(hl:X.le X' lv lv' c):X0.Φ X'.G X'.ρ lv':=H.imo _ _ _ _ _ _ (hl.g H.κc) H.inv
theorem o5{X:Cx}:∀{v:V} {lv c cs},v.mem=true->rep X v lv c cs->∀x∈cs,x.oneCell'=true:=by
 intro v
 induction v with
|st n g ih=>
  intro lv c cs hm h
  have cT:∀m cs,m<=n->dG m (fun k=>rep X (g k) lv c) cs->∀x∈cs,x.oneCell'=true:=by
   intro m
   induction m with
  |zero=>intro cs _ h x hx;simp[dG]at h;subst h;simp at hx
  |succ m ihm=>
    rintro cs B3 ⟨a,b,rfl,h1,h2⟩ x hx
    rcases R9.1 hx with hx|hx
    ·exact ihm a oM h1 x hx
    ·exact ih m (w4 hm m oM) h2 x hx
  exact cT n cs (B5 _) h
|ar z n g ih=>
  intro lv c cs hm h x hx
  obtain⟨i,hi,rfl⟩:=HX hx
  obtain⟨h1,h2⟩:=h
  have hz:0<z:=by
   rcases Nat.eq_zero_or_pos z with h0|h0
   ·subst h0;simp at h1;subst h1;simp at hi
   ·exact h0
  have hk:i / z<n:=by rw[Nat.div_lt_iff_lt_mul hz];omega
  have hr:i % z<z:=Nat.mod_lt _ hz
  have hd:i / z*z+i % z=i:=by rw[Nat.mul_comm];exact Nat.div_add_mod i z
  have he:cs[i]∈(cs.drop (i / z*z)).take z:=by
   apply E3 (i:=i % z)
   rw[dU hr,Q1,hd,B7 hi]
  exact ih (i / z) (h2 _ hk).2 (h2 _ hk).1 _ he
|bs n l=>
  rintro lv c cs _ ⟨_,rfl⟩ x hx
  obtain⟨u,_,rfl⟩:=J4.1 hx
  rfl
|b|bc|np=>intro lv c cs _ h x hx;simp only[rep]at h;subst h;simp at hx;subst hx;rfl
|i|s=>rintro lv c cs _ ⟨rfl,_⟩ x hx;simp at hx;subst hx;rfl
|lit y=>intro lv c cs _ h x hx;obtain⟨rfl,h⟩:=h;simp at hx;subst hx;exact h
|bl t l=>rintro lv c cs _ ⟨_,_,rfl,_⟩ x hx;simp at hx;subst hx;rfl
|sl t z n g=>rintro lv c cs _ ⟨_,_,_,rfl,_⟩ x hx;simp at hx;subst hx;rfl
|pr=>rintro lv c cs _ ⟨_,_,_,_,_,rfl,_⟩ x hx;simp at hx;subst hx;rfl
|pz=>rintro lv c cs _ ⟨_,_,_,rfl,_⟩ x hx;simp at hx;subst hx;rfl
|os=>rintro lv c cs _ ⟨_,_,_,_,_,⟨_,_,rfl,_⟩,_⟩ x hx;simp at hx;subst hx;rfl
|uk=>intro lv c cs _ h;exact h.2
|mp b n t=>rintro lv c cs _ ⟨rfl,_⟩ x hx;simp at hx;subst hx;cases n<;>rfl
|lb=>rintro lv c cs _ ⟨_,_,_,rfl,_⟩ x hx;simp at hx;subst hx;rfl
|vw=>rintro lv c cs _ ⟨_,_,_,_,_,_,_,rfl,_⟩ x hx;simp at hx;subst hx;rfl
|fo z b i v N3 Q2=>
  intro lv c cs hm h x hx
  obtain⟨h1,⟨es,h2,h3⟩,h4⟩:=h
  simp only[V.mem,B2]at hm
  obtain⟨k,hk,rfl⟩:=HX hx
  by_cases hw:i*z<=k/\k<i*z+z
  ·refine Q2 hm.1.2 h4 _ (E3 (i:=k-i*z) ?_)
   rw[dU oM,Q1,show i*z+(k-i*z)=k by omega,B7 hk]
  ·refine N3 hm.1.1 h3 _ (E3 (i:=k) ?_)
   unfold A4
   rw[I0]
   by_cases i6:k<i*z
   ·rw[N7 (by simp;omega),dU i6,B7 hk]
   ·rw[L7 (by simp;omega),L7 (by simp;omega),Q1]
    simp only[F7]
    rw[show i*z+es.length+(k-min (i*z) cs.length-es.length)=k by omega,B7 hk]
|fn=>rintro lv c cs _ ⟨_,rfl,_⟩ x hx;simp at hx;subst hx;rfl
|tu|ro|un=>intro lv c cs hm;cases hm
theorem wD(l:List UInt8):∀x∈l.map F0,x.oneCell'=true:=fun x hx=>by obtain⟨_,_,rfl⟩:=J4.1 hx;rfl
theorem zS{X:Cx}{n z:Nat}{g:Nat->V}{cs:List Value}(h1:cs.length=n*z)(h2:∀k,k<n->rep X (g k) [] 2 ((cs.drop (k*z)).take z)/\(g k).mem=true):∀x∈cs,x.oneCell'=true:=o5 (v:=.ar z n g) (lv:=[]) (c:=2) rfl ⟨h1,h2⟩
theorem rep.out{X:Cx}{v:V}(h:rep X v [] 2 cs)(hl:∀t,t∈lv->2<=t)(hc:2<=c):rep X v lv c cs:=
 rep.mono ⟨fun _ _ _ h=>h,fun _ _ t ht h2=>absurd (hl t ht) oM,fun t ht h2=>absurd (hl t ht) oM,fun _ _ _ _ _ h=>h,rfl⟩ hc h
theorem SlR.strip{G:Nat->Nat->Ow}{t n z:Nat}{W:Nat->Nat->Prop}(h:SlR G lv c t n z W cs):SlR G [] 2 (bif blt t 2 then t else 0) n z W cs:=by
 obtain⟨a,cap,h1,h2,h3,h4,h5,h6⟩:=h
 refine⟨a,cap,h1,h2,h3,?_,?_,?_⟩
 ·cases hb:blt t 2
  ·simp
  ·rw[B0]at hb;simpa using hb
 ·cases hb:blt t 2
  ·intro h;simp at h
  ·simpa using h5
 ·rcases h6 with⟨h6,h7⟩|⟨b,o,q1,q2,_⟩
  ·exact .inl ⟨h6.imp id fun e=>by subst e;rfl,h7⟩
  ·exact .inr ⟨b,o,q1,q2,fun ht=>by simp at ht⟩
theorem rW{X:Cx}:∀{v:V} {lv c cs},v.prs Z9=true->rep X v lv c cs->rep X v.strip [] 2 cs:=by
 intro v
 induction v with
|st n g ih=>intro lv c cs hp h;exact a7 h fun k cs hk hr=>ih k (w4 hp k hk) hr
|pr=>intro lv c cs hp h;cases hp
|os=>intro lv c cs hp h;cases hp
|vw=>intro lv c cs hp h;cases hp
|mp=>intro lv c cs hp h;cases hp
|lb l=>intro lv c cs _ h;obtain⟨_,a,cap,h1,h2,h3,h4,h5,h6⟩:=h;exact⟨a,cap,h1,h2,h3,by omega,h5,h6.imp id fun⟨b,o,q1,q2,_⟩=>⟨b,o,q1,q2.2.2,fun ht=>by simp at ht⟩⟩
|fo z b i v N3 Q2=>
  intro lv c cs hp h
  have hp:(b.prs Z9&&v.prs Z9)=true:=hp
  rw[B2]at hp
  obtain⟨h1,⟨es,h2,h3⟩,h4⟩:=h
  exact⟨h1,⟨es,h2,N3 hp.1 h3⟩,Q2 hp.2 h4⟩
|bl t l=>intro lv c cs _ h;exact SlR.strip h
|sl t z n g=>intro lv c cs _ h;exact⟨h.1,SlR.strip h.2⟩
|fn f n g ih=>
  rintro lv c cs hp ⟨vs,h1,h2,h3⟩
  exact⟨vs,h1,h2,fun k hk=>by obtain⟨x,q1,q2⟩:=h3 k hk;exact⟨x,q1,ih k (w4 hp k hk) q2⟩⟩
|_=>intro lv c cs _ h;exact h
theorem QD:∀v:V,v.strip.sz=v.sz:=by
 intro v
 induction v with
|st n g ih=>simp only[V.strip,V.sz];congr 1;funext k;exact ih k
|fo z b i v N3 Q2=>exact N3
|_=>rfl
theorem DX:∀v:V,v.strip.mem=v.mem:=by
 intro v
 induction v with
|st n g ih=>simp only[V.strip,V.mem];congr 1;funext k;exact ih k
|fo z b i v N3 Q2=>simp only[V.strip,V.mem];rw[N3,Q2,QD]
|_=>rfl
theorem oF{n:Nat}{R:Nat->List Value->Prop}{f:Nat->Nat}{cs:List Value}(h:dG n R cs)(hl:∀k cs,k<n->R k cs->cs.length=f k)(hm:m<n):
  V.sz.sum m f+f m<=cs.length/\R m ((cs.drop (V.sz.sum m f)).take (f m)):=by
 induction n generalizing cs with
|zero=>omega
|succ n ih=>
  obtain⟨a,b,rfl,h1,h2⟩:=h
  have la:=DV h1 fun k cs hk=>hl k cs oM
  have lb:=hl n b oM h2
  by_cases he:m=n
  ·subst he
   refine⟨by simp;omega,?_⟩
   rw[<-la,List.drop_left, <-lb,List.take_length]
   exact h2
  ·obtain⟨q1,q2⟩:=ih h1 (fun k cs hk=>hl k cs oM) oM
   refine⟨by simp;omega,?_⟩
   rw[pK oM,kR (by simp;omega)]
   exact q2
theorem Fl{n:Nat}{R:Nat->List Value->Prop}{f:Nat->Nat}{cs:List Value}(h:dG n R cs)(hl:∀k cs,k<n->R k cs->cs.length=f k)(hm:m<n){R':Nat->List Value->Prop}(hR:∀k cs,k≠m->R k cs->R' k cs)
  (hx:R' m xs)(fD:xs.length=f m):dG n R' (A4 cs (V.sz.sum m f) xs):=by
 induction n generalizing cs with
|zero=>omega
|succ n ih=>
  obtain⟨a,b,rfl,h1,h2⟩:=h
  have la:=DV h1 fun k cs hk=>hl k cs oM
  have lb:=hl n b oM h2
  by_cases he:m=n
  ·subst he
   refine⟨a,xs,?_,a7 h1 fun k cs hk=>hR k cs oM,hx⟩
   unfold A4
   rw[<-la,List.take_left,tY,dV oM,dV oM]
   simp
  ·have q:=oF h1 (fun k cs hk=>hl k cs oM) (show m<n by omega)
   refine⟨A4 a (V.sz.sum m f) xs,b,?_,ih h1 (fun k cs hk=>hl k cs oM) oM,hR _ _ (Ne.symm he) h2⟩
   unfold A4
   rw[kR oM,pK oM]
   simp
theorem DY{p:Nat}{l:Nat}(h:o+l<=cs.length)(hp:p+xs.length<=l):A4 cs o (A4 ((cs.drop o).take l) p xs)=A4 cs (o+p) xs:=by
 have hl:(A4 ((cs.drop o).take l) p xs).length=l:=by rw[n9 (by simp;omega)];simp;omega
 have e1:A4 cs o (A4 ((cs.drop o).take l) p xs)=cs.take o++(((cs.drop o).take l).take p++xs++((cs.drop o).take l).drop (p+xs.length))++cs.drop (o+l):=by
  conv=>lhs;unfold A4
  rw[show(List.take p (List.take l (List.drop o cs))++xs++List.drop (p+xs.length) (List.take l (List.drop o cs))).length=l from hl]
 rw[e1]
 unfold A4
 apply V5
 intro i
 simp only[I0,yL,F7,K4,r9,Q1]
 have e2:min o cs.length=o:=by omega
 have e3:min (o+p) cs.length=o+p:=by omega
 have e4:min p (min l (cs.length-o))=p:=by omega
 have e5:min l (cs.length-o)=l:=by omega
 have e6:min p l=p:=by omega
 simp only[e2,e3,e4,e5,e6]
 by_cases h1:i<o
 ·simp[h1,show i<o+p by omega]
 ·by_cases h2:i<o+p
  ·simp[h1,h2,show i-o<p by omega,show o+(i-o)=i by omega]
   omega
  ·by_cases h3:i-o-p<xs.length
   ·simp[h1,h2,h3,show ¬ (i-o<p) by omega,show i-(o+p)=i-o-p by omega]
   ·simp only[h1,h2,h3,if_false,show ¬ (i-o<p) by omega,show i-(o+p)=i-o-p by omega]
    by_cases h4:i-o-p-xs.length<l-(p+xs.length)
    ·simp only[h4,if_true,show p+xs.length+(i-o-p-xs.length)<l by omega]
     congr 1;omega
    ·simp only[h4,if_false]
     congr 1;omega
def V.get:V->List Stp->V
|x,[]=>x
|.st _ g,.f m _::p=>(g m).get p
|.ar _ _ g,.e m _ _::p=>(g m).get p
|.bs _ l,.e m _ _::_=>.i .u8 (l.getD m 0).toNat
|_,_=>.un
def V.set:V->List Stp->V->V
|_,[],x=>x
|.st n g,.f m _::p,x=>.st n fun k=>bif beq k m then (g m).set p x else g k
|.ar z n g,.e m _ _::p,x=>.ar z n fun k=>bif beq k m then (g m).set p x.strip else g k
|.bs n l,.e m _ _::_,.i .u8 a=>.bs n (l.set m (UInt8.ofNat a.toNat))
|y,_,_=>y
def cD(g:Nat->V)(n m o:Nat):Bool:=blt m n&&beq (V.sz.sum m fun k=>(g k).sz) o&&V.mem.all n fun k=>(g k).mem
def V.okp:V->List Stp->Bool
|_,[]=>true
|.st n g,.f m o::p=>cD g n m o&&(g m).okp p
|.ar z n g,.e m z' n'::p=>beq z z'&&beq n n'&&(g m).okp p&&(g m).mem
|.bs n _,.e _ z' n'::p=>beq 1 z'&&beq n n'&&p.isEmpty
|_,_=>false
def V.oks:V->List Stp->V->Bool
|_,[],_=>true
|.st _ g,.f m _::p,x=>(g m).oks p x
|.ar _ _ g,.e m _ _::p,x=>(g m).oks p x&&x.prs Z9
|.bs _ _,.e _ _ _::_,.i .u8 _=>true
|_,_,_=>false
theorem JW(cs:List Value)(a b l m:Nat)(h:b+m<=l):(((cs.drop a).take l).drop b).take m=(cs.drop (a+b)).take m:=by
 apply V5
 intro i
 simp only[r9,Q1]
 by_cases h1:i<m
 ·simp only[h1,if_true,show b+i<l by omega]
  congr 1;omega
 ·simp[h1]
theorem oG{g:Nat->V}{n:Nat}(h:cD g n m o=true):m<n/\V.sz.sum m (fun k=>(g k).sz)=o/\∀k,k<n->(g k).mem=true:=by
 unfold cD at h
 simp only[B2,B0]at h
 exact⟨h.1.1,A6 h.1.2,w4 h.2⟩
theorem DZ{n:Nat}{f:Nat->Bool}(h:∀k,k<n->f k=true):V.mem.all n f=true:=by
 induction n with
|zero=>rfl
|succ n ih=>simp only[V.mem.all,B2];exact⟨ih fun k hk=>h k oM,h n oM⟩
theorem dH{X:Cx}(hl:∀t,t∈lv->2<=t)(hc:2<=c):∀{p:List Stp} {v:V} {cs:List Value},v.okp p=true->(∀x∈p,x.ok)->v.mem=true->rep X v lv c cs->
  C1 p+(v.get p).sz<=cs.length/\(v.get p).mem=true/\rep X (v.get p) lv c ((cs.drop (C1 p)).take (v.get p).sz):=by
 intro p
 induction p with
|nil=>
  intro v cs _ _ hm h
  have:=W9 hm h
  have e:v.get []=v:=by cases v<;>rfl
  rw[e]
  refine⟨by simp[C1,this],hm,?_⟩
  rw[<-this];simpa [C1] using h
|cons x p ih=>
  intro v cs hk ho hm h
  cases v<;>cases x<;>simp only[V.okp,B2,yM]at hk
  case st.f n g m o=>
   obtain⟨h1,h2,h3⟩:=oG hk.1
   obtain⟨q1,q2⟩:=oF (f:=fun k=>(g k).sz) h (fun k cs hk hr=>W9 (h3 k hk) hr) h1
   rw[h2]at q1 q2
   obtain⟨r1,r2,r3⟩:=ih hk.2 (fun y hy=>ho y (Q8 _ hy)) (h3 m h1) q2
   have D8:(List.take (g m).sz (List.drop o cs)).length=(g m).sz:=by simp;omega
   rw[D8]at r1
   simp only[V.get,C1,Stp.off]
   refine⟨by omega,r2,?_⟩
   rw[JW _ _ _ _ _ r1]at r3
   exact r3
  case ar.e z n g m z' n'=>
   obtain⟨⟨⟨h1,h2⟩,h3⟩,h4⟩:=hk
   have e1:=A6 h1
   have e2:=A6 h2
   subst e1 e2
   have uQ:m<n:=ho (.e m z n) (X7 ..)
   obtain⟨q1,q2⟩:=h
   have q3:=(q2 m uQ).1
   have Y7:m*z+z<=cs.length:=by rw[q1, <-G9];exact G8 _ uQ
   obtain⟨r1,r2,r3⟩:=ih h3 (fun y hy=>ho y (Q8 _ hy)) h4 (q3.out hl hc)
   have D8:(List.take z (List.drop (m*z) cs)).length=z:=by simp;omega
   rw[D8]at r1
   simp only[V.get,C1,Stp.off]
   refine⟨by omega,r2,?_⟩
   rw[JW _ _ _ _ _ r1]at r3
   exact r3
  case bs.e n l m z' n'=>
   obtain⟨⟨h1,h2⟩,h3⟩:=hk
   have e1:=A6 h1
   have e2:=A6 h2
   have e3:p=[]:=by simpa using h3
   subst e1 e2 e3
   have uQ:m<n:=ho (.e m 1 n) (X7 ..)
   obtain⟨q1,rfl⟩:=h
   simp only[V.get,C1,Stp.off,V.sz,V.mem]
   refine⟨by simp;omega,trivial,?_,?_⟩
   ·have iA:m<l.length:=by omega
    simp only[j6,s9]
    rw[HQ (by simpa using iA)]
    simp[List.getD,iA]
   ·exact IP _
theorem QE{a:Int}(h:u8.wrap a=a):((UInt8.ofNat a.toNat).toNat:Int)=a:=by
 rw[yX]at h
 have h1:0<=a:=by omega
 rw[UInt8.toNat_ofNat'];omega
theorem Fm(h:xs.length=cs.length):A4 cs 0 xs=xs:=by
 unfold A4
 rw[dV oM];simp
theorem Fn:∀{v:V},v.strip.prs Z9=v.prs Z9:=by
 intro v
 induction v with
|st n g ih=>simp only[V.strip,V.prs];congr 1;funext k;exact ih k
|fn f n g ih=>simp only[V.strip,V.prs];congr 1;funext k;exact ih k
|fo z b i v N3 Q2=>simp only[V.strip,V.prs];rw[N3,Q2]
|_=>rfl
theorem Fo:∀{p:List Stp} {v x:V},v.oks p x.strip=v.oks p x:=by
 intro p
 induction p with
|nil=>intro v x;cases v<;>rfl
|cons y p ih=>
  intro v x
  cases v<;>cases y
  case st.f=>exact ih
  case ar.e=>simp only[V.oks];rw[ih,Fn]
  case bs.e=>cases x<;>rfl
  all_goals rfl
theorem EA{X:Cx}:∀{p:List Stp} {lv:List Nat} {c:Nat} {v x:V} {cs xs:List Value},(∀t,t∈lv->2<=t)->2<=c->v.okp p=true->v.oks p x=true->(∀x∈p,x.ok)->v.mem=true->rep X v lv c cs->x.mem=true->x.sz=(v.get p).sz->rep X x lv c xs->
  rep X (v.set p x) lv c (A4 cs (C1 p) xs)/\(v.set p x).mem=true/\(v.set p x).sz=v.sz:=by
 intro p
 induction p with
|nil=>
  intro lv c v x cs xs _ _ _ _ _ hm h hx hs hr
  have e:v.get []=v:=by cases v<;>rfl
  have e2:v.set [] x=x:=by cases v<;>rfl
  rw[e]at hs
  rw[e2]
  have l1:=W9 hm h
  have l2:=W9 hx hr
  rw[show C1 []=0 from rfl,Fm oM]
  exact⟨hr,hx,hs⟩
|cons y p ih=>
  intro lv c v x cs xs hl hc hk lA ho hm h hx hs hr
  have fD:=W9 hx hr
  have fit:=(dH hl hc hk ho hm h).1
  cases v<;>cases y<;>simp only[V.okp,B2,yM]at hk
  case st.f n g m o=>
   obtain⟨h1,h2,h3⟩:=oG hk.1
   have D8:=fun k cs (hk:k<n) (hr:rep X (g k) lv c cs)=>W9 (h3 k hk) hr
   obtain⟨q1,q2⟩:=oF (f:=fun k=>(g k).sz) h D8 h1
   rw[h2]at q1 q2
   have ho':∀y∈p,y.ok:=fun y hy=>ho y (Q8 _ hy)
   obtain⟨r1,r2,r3⟩:=ih hl hc hk.2 lA ho' (h3 m h1) q2 hx hs hr
   have f1:=(dH hl hc hk.2 ho' (h3 m h1) q2).1
   simp only[V.get]at hs
   have hlen2:(List.take (g m).sz (List.drop o cs)).length=(g m).sz:=by simp;omega
   rw[hlen2]at f1
   have hR:∀k cs,k≠m->rep X (g k) lv c cs->rep X (bif beq k m then (g m).set p x else g k) lv c cs:=fun k cs hkm hh=>by
    have:beq k m=false:=by cases hb:beq k m with|false=>rfl|true=>exact absurd (A6 hb) hkm
    rw[this];exact hh
   have key:=Fl (f:=fun k=>(g k).sz) h D8 h1 (R':=fun k cs=>rep X (bif beq k m then (g m).set p x else g k) lv c cs) hR
    (xs:=A4 (List.take (g m).sz (List.drop o cs)) (C1 p) xs) (by show rep X (bif beq m m then (g m).set p x else g m) lv c _;rw[show beq m m=true from Q9 m];exact r1)
    (by rw[n9 oM];omega)
   rw[h2,DY oM oM]at key
   refine⟨key,DZ fun k hkn=>?_,?_⟩
   ·show(bif beq k m then (g m).set p x else g k).mem=true
    cases hb:beq k m
    ·exact h3 k hkn
    ·exact r2
   ·simp only[V.set,V.sz]
    congr 1;funext k
    cases hb:beq k m
    ·rfl
    ·rw[A6 hb];exact r3
  case ar.e z n g m z' n'=>
   obtain⟨⟨⟨h1,h2⟩,h3⟩,h4⟩:=hk
   have e1:=A6 h1
   have e2:=A6 h2
   subst e1 e2
   have uQ:m<n:=ho (.e m z n) (X7 ..)
   have ho':∀y∈p,y.ok:=fun y hy=>ho y (Q8 _ hy)
   obtain⟨q1,q2⟩:=h
   have q3:=(q2 m uQ).1
   have Y7:m*z+z<=cs.length:=by rw[q1, <-G9];exact G8 _ uQ
   simp only[V.get]at hs
   simp only[V.oks,B2]at lA
   have hgl:(g m).sz=z:=by have:=W9 h4 q3;simp at this;omega
   have hlen2:(List.take z (List.drop (m*z) cs)).length=z:=by simp;omega
   have f1:=(dH hl hc h3 ho' h4 (q3.out hl hc)).1
   rw[hlen2]at f1
   obtain⟨r1,r2,r3⟩:=ih (x:=x.strip) (lv:=[]) (c:=2) (fun t ht=>by simp at ht) (B5 2) h3 (by rw[Fo];exact lA.1) ho' h4 q3 (by rw[DX];exact hx) (by rw[QD];exact hs) (rW lA.2 hr)
   have e3:C1 (Stp.e m z n::p)=m*z+C1 p:=rfl
   have hil:(A4 cs (m*z+C1 p) xs).length=cs.length:=n9 oM
   rw[e3]
   refine⟨⟨by rw[hil];exact q1,fun k hk=>?_⟩,rfl,rfl⟩
   have hkz:k*z+z<=cs.length:=by rw[q1, <-G9];exact G8 _ hk
   rw[<-DY (l:=z) oM oM]
   have il:(A4 (List.take z (List.drop (m*z) cs)) (C1 p) xs).length=z:=by rw[n9 oM];exact hlen2
   cases hb:beq k m
   ·have D6:k≠m:=fun e=>by subst e;rw[Q9]at hb;cases hb
    have:List.take z (List.drop (k*z) (A4 cs (m*z) (A4 (List.take z (List.drop (m*z) cs)) (C1 p) xs)))=List.take z (List.drop (k*z) cs):=by
     generalize A4 (List.take z (List.drop (m*z) cs)) (C1 p) xs=ys at il
     apply V5
     intro i
     unfold A4
     simp only[r9,Q1,I0,yL,F7]
     by_cases hi:i<z
     ·rcases HP D6 with hlt|hgt
      ·have:k*z+z<=m*z:=by rw[<-G9];exact G8 _ hlt
       simp only[hi,if_true,show k*z+i<min (m*z) cs.length by omega,show k*z+i<m*z by omega]
      ·have:m*z+z<=k*z:=by rw[<-G9];exact G8 _ hgt
       simp only[hi,if_true,show ¬ (k*z+i<min (m*z) cs.length) by omega,if_false,show ¬ (k*z+i-min (m*z) cs.length<ys.length) by omega]
       congr 1;omega
     ·simp[hi]
    rw[this]
    simp only[hb,cond_false]
    exact q2 k hk
   ·have he:=A6 hb
    subst he
    have:List.take z (List.drop (k*z) (A4 cs (k*z) (A4 (List.take z (List.drop (k*z) cs)) (C1 p) xs)))=A4 (List.take z (List.drop (k*z) cs)) (C1 p) xs:=by
     generalize A4 (List.take z (List.drop (k*z) cs)) (C1 p) xs=ys at il
     unfold A4
     have hm:(List.take (k*z) cs).length=k*z:=by simp;omega
     rw[I0,List.drop_left' hm,List.take_left' il]
    rw[this]
    simp only[hb,cond_true]
    exact⟨r1,r2⟩
  case bs.e n l m z' n'=>
   obtain⟨⟨h1,h2⟩,h3⟩:=hk
   have e1:=A6 h1
   have e2:=A6 h2
   have e3:p=[]:=by simpa using h3
   subst e1 e2 e3
   have uQ:m<n:=ho (.e m 1 n) (X7 ..)
   obtain⟨q1,rfl⟩:=h
   have hko':∃a,x=.i .u8 a:=by
    cases x
    case i k a=>cases k<;>first|exact⟨a,rfl⟩|cases lA
    all_goals cases lA
   obtain⟨a,rfl⟩:=hko'
   obtain⟨rfl,ha⟩:=hr
   refine⟨⟨by simpa using q1,?_⟩,rfl,rfl⟩
   have:F0 (UInt8.ofNat a.toNat)=.int .u8 a:=congrArg (Value.int .u8) (QE ha)
   simp only[C1,Stp.off,j6,s9]
   rw[List.map_set,this]
   unfold A4
   have iA:m<(l.map F0).length:=by rw[J5];omega
   exact DA _ m _ iA
section
theorem rX{a b c:World}{may may':MemPlace->Prop}(h1:a.keptBut b may)(h2:b.keptBut c may')(h:∀x i,x<a.heap.size->may' (.cell x i)->may (.cell x i))(hm:∀x,x<a.heap.size->may' (.map x)->may (.map x)):a.keptBut c may:=by
 have e:∀{a b:World} {m m':MemPlace->Prop},a.keptBut b m->(∀x,x<a.heap.size->(∀i,m (.cell x i)->m' (.cell x i))/\(m (.map x)->m' (.map x)))->a.keptBut b m':=by
  intro a b m m' h hh
  refine⟨h.1,h.2.1,fun i hi=>?_⟩
  have:=h.2.2 i hi
  obtain⟨q1,q2⟩:=hh i hi
  split at this
  ·obtain⟨r1,r2,r3,r4⟩:=this
   exact⟨r1,r2,r3,fun j hj=>r4 j fun hc=>hj (q1 j hc)⟩
  ·exact this.imp q2 id
  ·exact this
 let may2:MemPlace->Prop:=fun p=>may p\/a.heap.size<=p.block
 have cZ:a.keptBut b may2:=World.keptBut_mono (fun _=>.inl) h1
 have h2':b.keptBut c may2:=by
  refine World.keptBut_mono (fun p hp=>?_) h2
  cases p with
 |cell x i=>
   by_cases hx:x<a.heap.size
   ·exact .inl (h x i hx hp)
   ·exact .inr (by simp[MemPlace.block];omega)
 |map x=>
   by_cases hx:x<a.heap.size
   ·exact .inl (hm x hx hp)
   ·exact .inr (by simp[MemPlace.block];omega)
 refine e (World.keptBut_trans cZ h2') fun x hx=>⟨fun i hi=>?_,fun hi=>?_⟩
 ·rcases hi with hi|hi
  ·exact hi
  ·simp[MemPlace.block]at hi;omega
 ·rcases hi with hi|hi
  ·exact hi
  ·simp[MemPlace.block]at hi;omega
variable {X0 X:Cx} {h:Nat->Nat->V} {lv:List Nat} {c:Nat} {w0 w:World}
theorem RtR.mono{X X':Cx}{lv:List Nat}{c:Nat}{w:World}{b:Nat}{v:V}(hl:X.le X' lv lv' c)(hc:c<=c')(hk:∀k cs,cs.length=N->Q6 X w r j b o cs->k=0->Q6 X' w' r j b o cs)(h:RtR X lv c w r j b o N v):RtR X' lv' c' w' r j b o N v:=by
 cases v with
|ro v=>obtain⟨cs,h1,h2,h3,h4⟩:=h;exact⟨cs,h1.mono hl.nil (B5 _),h2,h3,h4.mono hl.fz⟩
|un=>trivial
|_=>obtain⟨cs,h1,h2,h3,h4⟩:=h;exact⟨cs,h1.mono hl hc,h2,h3,hk 0 cs h3 h4 rfl⟩
theorem Cx.le.rfl'(X:Cx)(lv:List Nat)(c:Nat):X.le X lv lv c:=⟨fun _ _ _ h=>h,fun _ _ _ _ _ h=>h,fun _ h _=>h,fun _ _ _ _ _ h=>h,rfl⟩
theorem Wd.up(H:Wd X0 X h lv c w0 w)(hc:c<=c'):Wd X0 X h lv c' w0 w:=
 { H with
  rt:=fun r j b o N hr=>(H.rt r j b o N hr).mono (Cx.le.rfl' X lv c) hc fun _ _ _ h _=>h
  c2:=N1 H.c2 hc
  lvc:=fun t ht=>⟨(H.lvc t ht).1,X5 (H.lvc t ht).2 hc⟩
  ρc:=fun r j p hr=>X5 (H.ρc r j p hr) hc
  κc:=N1 H.κc hc}
theorem Wd.size(H:Wd X0 X h lv c w0 w):w0.heap.size<=w.heap.size:=H.kb.size
theorem Wd.drew(H:Wd X0 X h lv c w0 w):Wd X0 X h lv c w0 w.drew:=
 { H with kb:=⟨H.kb.1,H.kb.2.1,H.kb.2.2⟩,tape:=H.tape,ex:=H.ex,fz:=fun b i x hx=>FzOk.move (w:=w) (fun _ _ _ h=>h) rfl (fun _ _ h=>h) (H.fz b i x hx),tp:=H.tp,rt:=H.rt}
theorem eP(w:World)(o:Go.Obj){b:Nat}(hb:b<w.heap.size):(w.alloc o).cell? (ad b i)=w.cell? (ad b i):=by
 unfold World.cell?
 rw[fT w o b oM]
theorem wE(w:World)(o:Go.Obj){b:Nat}(hb:b<w.heap.size):(w.alloc o).frozen? (ad b i)=w.frozen? (ad b i):=by
 unfold World.frozen?
 rw[fT w o b oM]
theorem NoMark.alloc{G G':Nat->Nat->Ow}{n:Nat}{w:World}(h:NoMark G n w){C:Array Value}{T:TypeId}{fr:Nat×Nat}(hf:fr=(0,0)\/C.size<=fr.1)(hG:∀b i,b≠w.heap.size->G' b i=G b i):NoMark G' n (w.alloc (.cells C T fr)):=fun b hb ⟨i,hi⟩ C' T' bK he=>by
 by_cases hw:b=w.heap.size
 ·subst hw
  rw[i8 w _]at he
  cases he;exact hf
 ·rw[fT w _ b hw]at he
  exact h b hb ⟨i,by rw[<-hG b i hw];exact hi⟩ C' T' bK he
theorem UnM.set:∀(xs:List Value) (b o b':Nat) {w:World},UnM w b'->UnM (w.setCells b o xs) b':=by
 intro xs
 induction xs with
|nil=>intro b o b' w h;exact h
|cons x xs ih=>
  intro b o b' w h
  refine ih b _ b' (w:=w.setCell _ x) fun C T fr he=>?_
  unfold World.setCell at he
  simp only[HY]at he
  split at he
  ·cases ho:w.heap[b']? with
  |none=>rw[ho]at he;cases he
  |some ob=>
    rw[ho]at he
    cases ob<;>simp only[X6,F2,Go.Obj.cells.injEq,reduceCtorEq]at he
    obtain⟨rfl,rfl,rfl⟩:=he
    have:=h _ _ _ ho
    split<;>simpa using this
  ·exact h C T fr he
theorem NoMark.set{G:Nat->Nat->Ow}{n:Nat}(xs:List Value)(b o:Nat){w:World}(h:NoMark G n w):NoMark G n (w.setCells b o xs):=fun b' hb hi=>(h b' hb hi).set xs b o b'
theorem JX:∀(xs:List Value) (b o:Nat) {w:World} {b':Nat} {es:Array MapEntry} {F8:Nat},w.heap[b']? =some (.map es F8)->(w.setCells b o xs).heap[b']? =some (.map es F8):=by
 intro xs
 induction xs with
|nil=>intro b o w b' es F8 h;exact h
|cons x xs ih=>
  intro b o w b' es F8 h
  refine ih b _ (w:=w.setCell _ x) ?_
  unfold World.setCell
  simp only[HY]
  split
  ·rw[h];rfl
  ·exact h
def Cx.new(X:Cx)(b:Nat)(f:Nat->Ow):Cx:=⟨fun b' i=>if b'=b then f i else X.G b' i,X.ρ,X.Φ,X.κ,X.ν,X.wr⟩
theorem Wd.new_le(H:Wd X0 X h lv c w0 w)(f:Nat->Ow):X.le (X.new w.heap.size f) lv lv c:=by
 have cT:∀b i,X.G b i≠ .no->b≠w.heap.size:=fun b i hb e=>by have:=H.ex b i hb;omega
 refine⟨fun b i x hx=>?_,fun b i t _ _ hx=>?_,fun _ h _=>h,fun _ _ _ _ _ h=>h,rfl⟩
 ·simp only[Cx.new];rw[if_neg (cT b i (by rw[hx];simp))];exact hx
 ·simp only[Cx.new];rw[if_neg (cT b i (by rw[hx];simp))];exact hx
theorem Wd.new(H:Wd X0 X h lv c w0 w)(C:Array Value)(T:TypeId)(fr:Nat×Nat)(f:Nat->Ow)(hf:∀i x,f i=.fz x->C[i]? =some x/\x.oneCell'=true)(ht:∀i t,f i=.tp t->i<C.size/\¬ (fr.1<=i/\i<fr.2))(uR:fr=(0,0)\/C.size<=fr.1):
  Wd X0 (X.new w.heap.size f) h lv c w0 (w.alloc (.cells C T fr)):=by
 have hb:(w.alloc (.cells C T fr)).heap[w.heap.size]? =some (.cells C T fr):=i8 w _
 have G4:(w.alloc (.cells C T fr)).heap.size=w.heap.size+1:=by simp
 have B3:=H.new_le f
 have old:∀b i,b≠w.heap.size->(X.new w.heap.size f).G b i=X.G b i:=fun b i hb=>by simp only[Cx.new];rw[if_neg hb]
 refine { kb:=World.keptBut_trans H.kb (World.keptBut_alloc _ _ _),tape:=H.tape,fz0:=fun b i x hx=>B3.fz _ _ _ (H.fz0 b i x hx),no0:=fun b i hb hn=>?_,mp0:=fun b t hb hx=>H.mp0 b t hb (by rw[<-old b 0 (by have:=H.size;omega)];exact hx),ρ0:=H.ρ0,ex:=fun b i hn=>?_,fz:=fun b i x hx=>?_,tp:=fun b i t hx=>?_,rt:=fun r j b o N hr=>?_,c2:=H.c2,lvc:=H.lvc,ρc:=H.ρc,inv:=H.inv' B3,imo:=H.imo,νe:=H.νe,gz:=H.gz,we:=H.we,ν0:=H.ν0,νs:=by rw[G4];have:=H.νs;omega,nf:=H.nf.alloc uR (fun b' i D6=>by simp only[Cx.new,if_neg D6]),κc:=H.κc}
 ·rw[old b i (by have:=H.size;omega)];exact H.no0 b i hb hn
 ·by_cases he:b=w.heap.size
  ·omega
  ·rw[old b i he]at hn;have:=H.ex b i hn;omega
 ·by_cases he:b=w.heap.size
  ·subst he
   have:f i=.fz x:=by simpa [Cx.new] using hx
   obtain⟨q1,q2⟩:=hf i x this
   refine FzOk.cell ?_ q2
   unfold World.cell?
   rw[hb];exact q1
  ·rw[old b i he]at hx
   have hlt:=H.ex b i (by rw[hx];simp)
   exact(H.fz b i x hx).move B3.fz (eP w _ hlt) fun _ _ hm=>(by rw[fT w _ b oM];exact hm)
 ·by_cases he:b=w.heap.size
  ·subst he
   have:f i=.tp t:=by simpa [Cx.new] using hx
   obtain⟨q1,q2⟩:=ht i t this
   constructor
   ·unfold World.cell?
    rw[hb];simp[q1]
   ·unfold World.frozen?
    rw[hb];simp only[Bool.and_eq_false_iff,decide_eq_false_iff_not]
    by_cases h1:fr.1<=i
    ·exact .inr fun h2=>q2 ⟨h1,h2⟩
    ·exact .inl h1
  ·rw[old b i he]at hx
   have hlt:=H.ex b i (by rw[hx];simp)
   rw[eP w _ hlt,wE w _ hlt];exact H.tp b i t hx
 ·refine(H.rt r j b o N hr).mono B3 (B5 _) fun _ cs _ hL _ k x hk=>?_
  obtain⟨q1,q2,q3⟩:=hL k x hk
  have hlt:=H.ex b (o+k) (by rw[q1];simp)
  rw[old b _ oM,eP w _ hlt]
  exact⟨q1,q2,q3.to fun j=>wE w _ hlt⟩
def E0(h:Nat->Nat->V)(r j:Nat)(v:V):Nat->Nat->V:=fun r' j'=>bif beq r' r&&beq j' j then v else h r' j'
theorem j0(h:Nat->Nat->V)(r j:Nat)(v:V):E0 h r j v r j=v:=by simp[E0]
theorem fZ(h:Nat->Nat->V){r' j':Nat}(v:V)(hn:¬ (r'=r/\j'=j)):E0 h r j v r' j'=h r' j':=by
 unfold E0
 have:(beq r' r&&beq j' j)=false:=by
  rw[Bool.and_eq_false_iff]
  by_cases h1:r'=r
  ·right
   cases hb:beq j' j
   ·rfl
   ·exact absurd ⟨h1,A6 hb⟩ hn
  ·left
   cases hb:beq r' r
   ·rfl
   ·exact absurd (A6 hb) h1
 rw[this];rfl
def Cx.own(X:Cx)(b nm N:Nat):Cx:=⟨fun b' i=>if b'=b then (if i<N then .rt nm 0 i else .no) else X.G b' i,fun r j=>if r=nm/\j=0 then some (b,0,N) else X.ρ r j,X.Φ,X.κ,X.ν,X.wr⟩
theorem Wd.own_le(H:Wd X0 X h lv c w0 w){nm:Nat}(hn:c<=nm):X.le (X.own w.heap.size nm N) lv lv c:=by
 have cT:∀b i,X.G b i≠ .no->b≠w.heap.size:=fun b i hb e=>by have:=H.ex b i hb;omega
 refine⟨fun b i x hx=>?_,fun b i t _ _ hx=>?_,fun _ h _=>h,fun r j p _ hlt h=>?_,rfl⟩
 ·simp only[Cx.own];rw[if_neg (cT b i (by rw[hx];simp))];exact hx
 ·simp only[Cx.own];rw[if_neg (cT b i (by rw[hx];simp))];exact hx
 ·simp only[Cx.own];rw[if_neg (fun e=>by omega)];exact h
theorem Wd.own(H:Wd X0 X h lv c w0 w){nm:Nat}(hn:c<=nm){v:V}(hm:v.mem=true)(hr:rep X v lv c cs)(T:TypeId):
  Wd X0 (X.own w.heap.size nm cs.length) (E0 h nm 0 v) lv (nm+1) w0 (w.alloc (.cells cs.toArray T)):=by
 have hb:(w.alloc (.cells cs.toArray T)).heap[w.heap.size]? =some (.cells cs.toArray T (0,0)):=i8 w _
 have G4:(w.alloc (.cells cs.toArray T)).heap.size=w.heap.size+1:=by simp
 have B3:=H.own_le (N:=cs.length) hn
 have old:∀b i,b≠w.heap.size->(X.own w.heap.size nm cs.length).G b i=X.G b i:=fun b i hb=>by simp only[Cx.own];rw[if_neg hb]
 have new:∀i,(X.own w.heap.size nm cs.length).G w.heap.size i=if i<cs.length then .rt nm 0 i else .no:=fun i=>by simp only[Cx.own,if_true]
 refine { kb:=World.keptBut_trans H.kb (World.keptBut_alloc _ _ _),tape:=H.tape,fz0:=fun b i x hx=>B3.fz _ _ _ (H.fz0 b i x hx),no0:=fun b i hb hn=>?_,mp0:=fun b t hb hx=>H.mp0 b t hb (by rw[<-old b 0 (by have:=H.size;omega)];exact hx),ρ0:=fun r j p hp=>by simp only[Cx.own];rw[if_neg (fun e=>by have:=H.ρc r j p (H.ρ0 r j p hp);omega)];exact H.ρ0 r j p hp,ex:=fun b i hn=>?_,fz:=fun b i x hx=>?_,tp:=fun b i t hx=>?_,rt:=fun r j b o N hr=>?_,c2:=by have:=H.c2;omega,lvc:=fun t ht=>⟨(H.lvc t ht).1,by have:=(H.lvc t ht).2;omega⟩,ρc:=fun r j p hr=>?_,inv:=H.inv' B3,imo:=H.imo,νe:=H.νe,gz:=H.gz,we:=H.we,ν0:=H.ν0,νs:=by rw[G4];have:=H.νs;omega,nf:=H.nf.alloc (.inl rfl) (fun b' i D6=>by simp only[Cx.own,if_neg D6]),κc:=by have:=H.κc;omega}
 ·rw[old b i (by have:=H.size;omega)];exact H.no0 b i hb hn
 ·by_cases he:b=w.heap.size
  ·omega
  ·rw[old b i he]at hn;have:=H.ex b i hn;omega
 ·by_cases he:b=w.heap.size
  ·subst he;rw[new]at hx;split at hx<;>cases hx
  ·rw[old b i he]at hx
   have hlt:=H.ex b i (by rw[hx];simp)
   exact(H.fz b i x hx).move B3.fz (eP w _ hlt) fun _ _ hm=>(by rw[fT w _ b oM];exact hm)
 ·by_cases he:b=w.heap.size
  ·subst he;rw[new]at hx;split at hx<;>cases hx
  ·rw[old b i he]at hx
   have hlt:=H.ex b i (by rw[hx];simp)
   rw[eP w _ hlt,wE w _ hlt];exact H.tp b i t hx
 ·by_cases he:r=nm/\j=0
  ·obtain⟨rfl,rfl⟩:=he
   simp only[Cx.own,and_self,if_true,F2,G7]at hr
   obtain⟨rfl,rfl,rfl⟩:=hr
   rw[j0]
   have hv:rep (X.own w.heap.size r cs.length) v lv (r+1) cs:=rep.mono B3 oM ‹rep X v lv c cs›
   have key:Q6 (X.own w.heap.size r cs.length) (w.alloc (.cells cs.toArray T)) r 0 w.heap.size 0 cs:=by
    intro k x hk
    have hlt:=(N0.1 hk).1
    rw[J3,new,if_pos hlt]
    refine⟨rfl,?_,FrN.all fun j=>?_⟩
    ·unfold World.cell?; rw[hb];simpa using hk
    ·unfold World.frozen?; rw[hb];simp
   cases v with
  |ro v=>cases hm
  |un=>trivial
  |_=>exact⟨cs,hv,hm,rfl,key⟩
  ·have K1:X.ρ r j=some (b,o,N):=by simpa only[Cx.own,if_neg he] using hr
   rw[fZ h v he]
   refine(H.rt r j b o N K1).mono B3 oM fun _ cs _ hL _ k x hk=>?_
   obtain⟨q1,q2,q3⟩:=hL k x hk
   have hlt:=H.ex b (o+k) (by rw[q1];simp)
   rw[old b _ oM,eP w _ hlt]
   exact⟨q1,q2,q3.to fun j=>wE w _ hlt⟩
 ·by_cases he:r=nm/\j=0
  ·omega
  ·have K1:X.ρ r j=some p:=by simpa only[Cx.own,if_neg he] using hr
   have:=H.ρc r j p K1;omega
theorem Wd.store(H:Wd X0 X h lv c w0 w){b off:Nat}(hr:X.ρ r j=some (b,o,N)){v:V}(hL:Q6 X w r j b o cs)(hN:cs.length=N)(Y7:off+xs.length<=cs.length)
  (hm:v.mem=true)(hv:rep X v lv c (A4 cs off xs)):Wd X0 X (E0 h r j v) lv c w0 (w.setCells b (o+off) xs):=by
 have W0:∀k,k<xs.length->(w.cell? (ad b (o+off+k))).isSome=true:=fun k hk=>by
  have:=(hL (off+k) (cs[off+k]'oM) (B7 oM)).2.1
  rw[O8,this];rfl
 have own:∀k,k<xs.length->X.G b (o+off+k)=.rt r j (off+k):=fun k hk=>by
  have:=(hL (off+k) (cs[off+k]'oM) (B7 oM)).1
  rw[O8,this]
 have out:∀b' i,(∀k,k<xs.length->X.G b' i≠ .rt r j (off+k))->(w.setCells b (o+off) xs).cell? (ad b' i)=w.cell? (ad b' i):=fun b' i D6=>by
  refine mQ b xs (o+off) w _ fun h1 _=>?_
  simp only at h1;subst h1
  by_cases i6:i<o+off
  ·exact .inl i6
  ·by_cases lB:o+off+xs.length<=i
   ·exact .inr lB
   ·exfalso
    have:=own (i-(o+off)) oM
    rw[show o+off+(i-(o+off))=i by omega]at this
    exact D6 (i-(o+off)) oM this
 have K6:(w.setCells b (o+off) xs).heap.size=w.heap.size:=by
  have:∀(xs:List Value) (o:Nat) (w:World),(w.setCells b o xs).heap.size=w.heap.size:=by
   intro xs
   induction xs with
  |nil=>intro o w;rfl
  |cons x xs ih=>intro o w;rw[World.setCells,ih];simp[World.setCell]
  exact this _ _ _
 have htape:∀(xs:List Value) (o:Nat) (w:World),(w.setCells b o xs).tape=w.tape:=by
  intro xs
  induction xs with
 |nil=>intro o w;rfl
 |cons x xs ih=>intro o w;rw[World.setCells,ih];rfl
 refine { kb:=?_,tape:=(htape _ _ _).trans H.tape,fz0:=H.fz0,no0:=H.no0,mp0:=H.mp0,ρ0:=H.ρ0,ex:=fun b i hn=>by rw[K6];exact H.ex b i hn,fz:=fun b' i x hx=>?_,tp:=fun b' i t hx=>?_,rt:=fun r' j' b' o' N' K1=>?_,c2:=H.c2,lvc:=H.lvc,ρc:=H.ρc,inv:=H.inv,imo:=H.imo,νe:=H.νe,gz:=H.gz,we:=H.we,ν0:=H.ν0,νs:=by rw[K6];exact H.νs,nf:=H.nf.set _ _ _,κc:=H.κc}
 ·refine rX (may':=fun p=>∃k,k<xs.length/\p=.cell b (o+off+k)) H.kb (World.keptBut_setCells b xs (o+off) w fun k hk=>⟨k,hk,rfl⟩) ?_ (fun x _ ⟨k,_,hk⟩=>by cases hk)
  rintro x i hx ⟨k,hk,dA⟩
  injection dA with e1 e2
  subst e1 e2
  have hg:=own k hk
  cases S1:X0.G x (o+off+k) with
 |no=>have:=H.no0 x _ hx S1;rw[hg]at this;obtain h|⟨_,h⟩:=this<;>cases h
 |fz y=>have:=H.fz0 x _ y S1;rw[hg]at this;cases this
 |rt r j k=>exact .inl ⟨r,j,k,S1⟩
 |tp t=>exact .inr ⟨t,S1⟩
 ·exact(H.fz b' i x hx).move (fun _ _ _ h=>h) (out b' i (fun k _=>by rw[hx];simp)) fun _ _ hm=>JX _ _ _ hm
 ·rw[out b' i (fun k _=>by rw[hx];simp),jL];exact H.tp b' i t hx
 ·by_cases he:r'=r/\j'=j
  ·obtain⟨rfl,rfl⟩:=he
   rw[hr]at K1;cases K1
   rw[j0]
   have key:Q6 X (w.setCells b (o+off) xs) r' j' b o (A4 cs off xs):=by
    intro k x hk
    have hlt:=(N0.1 hk).1
    rw[n9 Y7]at hlt
    obtain⟨q1,q2,q3⟩:=hL k _ (B7 hlt)
    refine⟨q1,?_,q3.to fun j=>jL ..⟩
    by_cases mU:off<=k/\k<off+xs.length
    ·have hc:=yN b xs (o+off) w W0 (k-off) oM
     rw[show o+off+(k-off)=o+k by omega]at hc
     rw[hc]
     unfold A4 at hk
     rw[I0,L7 (by simp;omega),N7 (by simp;omega)]at hk
     simp only[F7]at hk
     rw[show k-min off cs.length=k-off by omega,B7 oM]at hk
     exact hk
    ·rw[out b (o+k) (fun m hm e=>by rw[q1]at e;injection e;omega),q2]
     unfold A4 at hk
     rw[I0]at hk
     by_cases hk2:k<off
     ·rw[N7 (by simp;omega),dU hk2,B7 hlt]at hk
      exact hk
     ·rw[L7 (by simp;omega),L7 (by simp;omega),Q1]at hk
      simp only[F7]at hk
      rw[show off+xs.length+(k-min off cs.length-xs.length)=k by omega,B7 hlt]at hk
      exact hk
   cases v with
  |ro v=>cases hm
  |un=>trivial
  |_=>exact⟨_,hv,hm,by rw[n9 Y7];exact hN,key⟩
  ·rw[fZ h v he]
   refine(H.rt r' j' b' o' N' K1).mono (Cx.le.rfl' X lv c) (B5 _) fun _ ds _ uS _ k x hk=>?_
   obtain⟨q1,q2,q3⟩:=uS k x hk
   refine⟨q1,?_,q3.to fun j=>jL ..⟩
   rw[out b' (o'+k) (fun m _ e=>by rw[q1]at e;injection e with e1 e2;exact he ⟨e1,e2⟩)]
   exact q2
def C8(X:Cx)(w:World)(b i:Nat):Option Value:=match X.G b i with|.fz x=>bif x.oneCell' then some x else none|.rt _ j _=>bif beq j 0 then w.cell? (ad b i) else none|_=>none
def oH(X:Cx)(b i:Nat):Option Value:=match X.G b i with|.fz x=>bif x.oneCell' then some x else none|_=>none
def Sy(Y:Nat->Nat->Option Value)(u:World):Prop:=∀b i x,Y b i=some x->u.cell? (ad b i)=some x
def Yle(Y Y':Nat->Nat->Option Value):Prop:=∀b i x,Y b i=some x->Y' b i=some x
theorem Wd.sy(H:Wd X0 X h lv c w0 w):Sy (C8 X w) w:=fun b i x hx=>by
 unfold C8 at hx
 split at hx
 ·rename_i y hy
  cases ho:y.oneCell'<;>rw[ho]at hx<;>simp at hx
  subst hx;exact H.cell hy ho
 ·rename_i j _ _
  cases hj:beq j 0<;>rw[hj]at hx
  ·cases hx
  ·exact hx
 ·cases hx
theorem zV(X:Cx)(w:World):Yle (oH X) (C8 X w):=fun b i x hx=>by
 unfold oH at hx
 unfold C8
 cases hg:X.G b i<;>rw[hg]at hx<;>first|exact hx|cases hx
theorem EB{X X':Cx}(h:∀b i x,X.G b i=.fz x->X'.G b i=.fz x):Yle (oH X) (oH X'):=fun b i x hx=>by
 unfold oH at hx ⊢
 cases hg:X.G b i<;>rw[hg]at hx<;>first|(rw[h _ _ _ hg];exact hx)|cases hx
theorem Sy.fz{u:World}(h:Sy (C8 X w) u){b:Nat}(hx:X.G b i=.fz x)(h1:x.oneCell'=true):u.cell? (ad b i)=some x:=h b i x (by unfold C8;rw[hx];simp only[h1,cond_true])
theorem Sy.rt{u:World}(h:Sy (C8 X w) u){b k:Nat}(hx:X.G b i=.rt r 0 k)(hc:w.cell? (ad b i)=some x):u.cell? (ad b i)=some x:=h b i x (by unfold C8;rw[hx];exact hc)
theorem Yle.rfl'(Y:Nat->Nat->Option Value):Yle Y Y:=fun _ _ _ h=>h
theorem Yle.trans{A B C:Nat->Nat->Option Value}(h1:Yle A B)(h2:Yle B C):Yle A C:=fun b i x h=>h2 b i x (h1 b i x h)
theorem Sy.mono{A B:Nat->Nat->Option Value}{u:World}(h:Yle A B)(hs:Sy B u):Sy A u:=fun b i x hx=>hs b i x (h b i x hx)
theorem wF{X X':Cx}{w:World}{b:Nat}(hG:X'.G b i=X.G b i)(hw:w'.cell? (ad b i)=w.cell? (ad b i)):C8 X' w' b i=C8 X w b i:=by unfold C8;rw[hG,hw]
theorem wG{b:Nat}(hx:C8 X w b i=some x):X.G b i≠ .no:=fun e=>by unfold C8 at hx;rw[e]at hx;cases hx
theorem Wd.new_y(H:Wd X0 X h lv c w0 w)(f:Nat->Ow)(o:Go.Obj):Yle (C8 X w) (C8 (X.new w.heap.size f) (w.alloc o)):=fun b i x hx=>by
 have hb:=H.ex b i (wG hx)
 rw[wF (by simp only[Cx.new];rw[if_neg oM]) (eP w o hb)];exact hx
theorem Wd.own_y(H:Wd X0 X h lv c w0 w)(nm N:Nat)(o:Go.Obj):Yle (C8 X w) (C8 (X.own w.heap.size nm N) (w.alloc o)):=fun b i x hx=>by
 have hb:=H.ex b i (wG hx)
 rw[wF (by simp only[Cx.own];rw[if_neg oM]) (eP w o hb)];exact hx
end
end Go.Proofs.YtiligejcokfhkaaGreatDoor
