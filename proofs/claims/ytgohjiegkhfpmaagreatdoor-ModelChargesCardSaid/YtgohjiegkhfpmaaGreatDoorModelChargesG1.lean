/- Lemmas for the statement ModelCharges, part 1: rules of operations, walks through functions, plain laws. -/
import Derived.ArgAppend
import Derived.Below
import Derived.Calls
import Derived.ChangeFn
import Derived.ChangeKeysEq
import Derived.Deep.AppendSrc
import Derived.Deep.MidRow
import Derived.Deep.Slices
import Derived.IntWalk
import Derived.Laws.CopyRow
import Derived.Laws.Cover3
import Derived.Laws.IdiomCopy
import Derived.Laws.IdiomStrings
import Derived.Laws.MakeOwn
import Derived.Laws.NewBlocks
import Derived.Laws.Tables
import Derived.Lib.ItoaNum
import Derived.OpenShut
import Derived.OrdersHeld
import Derived.ProofKit
import Derived.StillTail
import Derived.Test.YtgohjiegkhfpmaaGreatDoorProg
import Derived.Test.YtgohjiegkhfpmaaGreatDoorRows
import Derived.WalkKit
set_option maxRecDepth 100000
set_option linter.all false
namespace Go.Proofs.YtgohjiegkhfpmaaGreatDoor
open Go
open Go.IntKind (i64 u64 u8 u32)
open List (replicate)
open Nat (beq blt)
open BitVec (ofInt)
theorem zO{p:Prop}(h:p:=by omega):p:=h
theorem zK{p:Prop}(h:p:=by kernel_rfl):p:=h
theorem zT:True:=.intro
abbrev A5:=@Nat.eq_of_beq_eq_true
abbrev A8:=@Nat.blt_eq
abbrev A9:=@Bool.and_eq_true
abbrev B2:=@Nat.le_refl
abbrev B6:=@List.getElem?_eq_getElem
abbrev C6:=@List.length_append
abbrev D0:=@Sem.run_bind
abbrev E3:=@List.mem_of_getElem?
abbrev F2:=@Option.some.injEq
abbrev F6:=@Result.andThen_ok
abbrev F7:=@List.length_take
abbrev G2:=@Nat.mul_le_mul_right
abbrev G6:=@Prod.mk.injEq
abbrev G7:=@Nat.succ_mul
abbrev G8:=@List.length_cons
abbrev H9:=@List.append_assoc
abbrev J2:=@Nat.le_trans
abbrev J5:=@Nat.zero_add
abbrev J6:=@List.mem_map
abbrev J7:=@List.length_map
abbrev K4:=@List.length_drop
abbrev K8:=@List.mem_cons
abbrev L7:=@List.getElem?_append_right
abbrev L8:=@Nat.zero_le
abbrev M3:=@List.length_nil
abbrev N1:=@List.getElem?_eq_some_iff
abbrev N5:=@List.getElem?_append_left
abbrev O7:=@Nat.add_assoc
abbrev O8:=@List.mem_singleton
abbrev P4:=@List.nil_sublist
abbrev P5:=@List.all_eq_true
abbrev P6:=@Nat.beq_refl
abbrev Q5:=@List.getElem?_drop
abbrev R5:=@List.mem_cons_of_mem
abbrev S3:=@List.mem_append
abbrev S4:=@Nat.not_lt_zero
abbrev U1:=@List.map_cons
abbrev U2:=@Array.ext'
abbrev U3:=@Nat.add_mul
abbrev V6:=@List.getElem?_eq_none
abbrev V7:=@List.ext_getElem?
abbrev V9:=@List.take_of_length_le
abbrev X7:=@Nat.lt_of_lt_of_le
abbrev X8:=@Option.map_some
abbrev X9:=@List.mem_cons_self
abbrev Y5:=@List.nil_append
abbrev Y6:=@List.getElem?_map
abbrev Z4:=@Array.getElem?_eq_some_iff
abbrev Z5:=@List.append_nil
abbrev i6:=@Nat.ble_eq
abbrev i7:=@Classical.not_not
abbrev l4:=@List.length_eq_zero_iff
abbrev l5:=@Nat.mul_one
abbrev l6:=@List.getD_eq_getElem?_getD
abbrev t7:=@List.getElem?_take
abbrev t8:=@Nat.add_zero
abbrev u6:=@Array.length_toList
abbrev u7:=@List.length_singleton
abbrev v6:=@List.cons_append
abbrev x9:=@Calls.mono
abbrev aM:=@UInt64.toNat_ofNat'
abbrev bO:=@List.size_toArray
abbrev bP:=@Nat.sub_self
abbrev dA:=@List.set_append_right
abbrev eG:=@List.getElem_mem
abbrev eJ:=@List.getElem?_take_of_lt
abbrev eK:=@List.drop_eq_nil_of_le
abbrev eL:=@Option.map_eq_some_iff
abbrev fQ:=@List.getElem?_toArray
abbrev iD:=@Addr.add_mid
abbrev iE:=@Sem.run_pure
abbrev iF:=@Option.isSome_iff_exists
abbrev iG:=@List.flatMap_cons
abbrev jT:=@Int.toNat_natCast
abbrev jU:=@Nat.min_eq_left
abbrev jV:=@List.length_replicate
abbrev jW:=@World.frozen?_setCells
abbrev jX:=@Nat.add_sub_cancel_left
abbrev lG:=@List.take_append_of_le_length
abbrev lH:=@Bool.not_eq_true'
abbrev lI:=@List.map_append
abbrev nL:=@List.all_toArray
abbrev nM:=@World.cell?_setCells_out
abbrev nN:=@Nat.sub_mul
abbrev nO:=@List.not_lt
abbrev qL:=@Int.eq_ofNat_of_zero_le
abbrev qM:=@List.drop_zero
abbrev qO:=@List.drop_append_of_le_length
abbrev qP:=@List.cons.injEq
abbrev qQ:=@List.mem_range
abbrev qR:=@Option.some.inj
abbrev qT:=@Nat.sub_zero
abbrev qU:=@MapKept.run_getObj_map
abbrev qV:=@Array.toList_modify
abbrev qW:=@Nat.lt_succ_iff_lt_or_eq
abbrev qX:=@List.nodup_cons
abbrev qZ:=@Nat.one_mul
abbrev rA:=@List.Sublist.refl
abbrev uY:=@List.take_append_drop
abbrev uZ:=@List.drop_append
abbrev vA:=@Bool.eq_iff_iff
abbrev vB:=@List.all_cons
abbrev vC:=@List.map_take
abbrev vE:=@Array.getElem?_toList
abbrev vF:=@Nat.le_mul_of_pos_right
abbrev vG:=@Nat.lt_succ_self
abbrev vI:=@List.any_eq_true
abbrev vJ:=@List.all_append
abbrev vK:=@List.all_map
abbrev zI:=@Nat.le_of_not_lt
abbrev zJ:=@Array.toList_map
abbrev zL:=@List.getElem?_append
abbrev zM:=@Bool.false_eq_true
abbrev zN:=@World.cell?_setCells_in
abbrev zP:=@List.mem_filter
abbrev zQ:=@Array.size_append
abbrev zR:=@Array.getElem?_eq_getElem
abbrev zS:=@World.keptBut_refl
abbrev zV:=@MapKept.run_setObj_map
abbrev CX:=@Oper.upon_value
abbrev CY:=@UInt64.toNat_add
abbrev CZ:=@List.getElem?_of_mem
abbrev DA:=@Option.bind_some
abbrev DB:=@UInt8.toNat_inj
abbrev DC:=@List.getElem?_cons_succ
abbrev DD:=@List.sublist_append_left
abbrev DE:=@List.take_add_one
abbrev DF:=@List.toList_toArray
abbrev DG:=@Array.getElem?_eq_none
abbrev DH:=@Bool.or_eq_true
abbrev DI:=@Option.bind_eq_some_iff
abbrev DJ:=@Array.toList_push
abbrev DK:=@List.getElem?_modify
abbrev DL:=@List.length_range
abbrev IZ:=@BitVec.toNat_ofInt
abbrev JA:=@Int.fdiv_eq_ediv_of_nonneg
abbrev JB:=@List.pairwise_append
abbrev JC:=@Nat.lt_or_gt_of_ne
abbrev JD:=@List.drop_eq_getElem_cons
abbrev JE:=@List.length_pos_iff
abbrev JF:=@List.getElem?_range
abbrev JG:=@List.getElem_of_mem
abbrev JH:=@Array.getElem?_modify
abbrev JI:=@Array.getElem?_setIfInBounds
abbrev JJ:=@Array.ext_getElem?
abbrev JK:=@List.mem_of_mem_drop
abbrev JL:=@Bool.eq_false_or_eq_true
abbrev PG:=@Nat.shiftRight_eq_div_pow
abbrev PH:=@List.perm_append_singleton
abbrev PI:=@Array.getElem?_append_left
abbrev PJ:=@Nat.eq_of_mul_eq_mul_right
abbrev PK:=@List.getElem?_cons_zero
abbrev PL:=@List.filter_cons_of_neg
abbrev PM:=@List.filter_cons_of_pos
variable {ops:Array Oper} {args:Array Operand} {W0:Array TypeId} {Q:Exit->Act->World->Prop} {fn:Func} {k':IntKind} {pv:List (Nat × Value)} {S lv lv':List Nat} {C cs news vs xs zs:List Value} {N c c' cap fuel i j k len m o r:Nat} {hi mx:Option Operand} {hv:Option Value} {P:Program} {α ι:Type} {e:TypeId} {x:Value} {w w' w0:World}
def mk(n:Nat)(σ:Nat->Value):Act:=⟨Array.ofFn (n:=n) (fun i=>σ i.val),[]⟩
def up(σ:Nat->Value)(d:Nat)(v:Value):Nat->Value:=fun t=>bif beq t d then v else σ t
def ev(n:Nat)(σ:Nat->Value):Operand->Value
|.tmp t=>bif blt t n then σ t else undef
|.const v=>v
|.global g=>.pointer (some ⟨g,0,none⟩)
|.func f=>.func (.func f) #[] #[]
def sI(n:Nat)(σ:Nat->Value):List Operand->List Value
|[]=>[]
|x::l=>ev n σ x::sI n σ l
theorem zW(n σ):∀l:List Operand,sI n σ l=l.map (ev n σ)
|[]=>rfl
|x::l=>by rw[sI,zW n σ l,U1]
def W6(n:Nat)(σ:Nat->Value):List (Nat×Operand)->List (Nat×Value)
|[]=>[]
|x::l=>(x.1,ev n σ x.2)::W6 n σ l
theorem sJ(n σ):∀l:List (Nat×Operand),W6 n σ l=l.map fun(i,x)=>(i,ev n σ x)
|[]=>rfl
|x::l=>by rw[W6,sJ n σ l,U1]
theorem eR(n σ d v):(mk n σ).put (some d) v=mk n (up σ d v):=by
 simp only[Act.put,mk,Act.mk.injEq,and_true]
 apply Array.ext
 ·simp
 intro i h1 h2
 simp only[Array.getElem_ofFn,up]
 rw[Array.getElem_setIfInBounds]
 ·by_cases h:d=i
  ·subst h;simp
  have:beq i d=false:=by
   cases hb:beq i d
   ·rfl
   exact absurd (A5 hb).symm h
  rw[if_neg h,this]
  exact Array.getElem_ofFn _
 simpa using h2
theorem mG(n σ)(x:Operand):(mk n σ).eval x=ev n σ x:=by
 cases x<;>simp only[Act.eval,ev,mk]
 rename_i t
 by_cases h:t<n
 ·have:blt t n=true:=by rw[A8];exact h
  simp[this,h]
 have:blt t n=false:=by
  cases hb:blt t n
  ·rfl
  exact absurd (by rw[A8]at hb;exact hb) h
 simp[this,h]
theorem W7(n σ):(mk n σ).eval=ev n σ:=funext (mG n σ)
theorem Ck(σ:Nat->Value)(d:Nat):up σ d (σ d)=σ:=by
 funext t
 simp only[up]
 cases hb:beq t d
 ·rfl
 rw[A5 hb];rfl
theorem Cl(σ:Nat->Value)(d:Nat)(v:Value)(h:σ d=v):up σ d v=σ:=by subst h;exact Ck σ d
def o7(σ:Nat->Value):List (Nat×Value)->(Nat->Value)
|[]=>σ
|p::l=>up (o7 σ l) p.1 p.2
def fits(σ:Nat->Value):List (Nat×Value)->Prop
|[]=>True
|p::l=>σ p.1=p.2/\fits σ l
theorem sK(σ:Nat->Value):∀l,fits σ l->o7 σ l=σ
|[],_=>rfl
|p::l,h=>by
  rw[o7,sK σ l h.2]
  exact Cl _ _ _ h.1
theorem PN(args:List Value)(n:Nat)(h:args.length<=n):
  (⟨args.toArray++Array.replicate (n-args.toArray.size) undef,[]⟩:Act)=mk n (fun t=>args.getD t undef):=by
 simp only[mk,Act.mk.injEq,and_true]
 apply Array.ext
 ·simp;omega
 intro i h1 h2
 simp only[Array.getElem_ofFn]
 by_cases hi:i<args.length
 ·rw[Array.getElem_append_left (by simpa using hi)]
  simp[List.getD,hi]
 rw[Array.getElem_append_right (by simpa using hi)]
 simp[List.getD,V6 (zI hi)]
theorem JM{P:Program}{f:FuncId}{fn:Func}{c:Code}{args:List Value}{R:Ending->World->Prop}{n:Nat}
  (hf:P.funcs[f]? =some fn)(hb:fn.body=some c)(hn:fn.ntmps=n)(B1:args.length<=n)
  (h:c.wp P (bodyPost P fn R) (mk n (fun t=>args.getD t undef)) w):Calls P f args.toArray w R:=by
 refine calls_of_wp hf hb ?_
 rw[hn,PN args n B1]
 exact h
section
variable {n:Nat} {σ:Nat->Value} {K:Act->World->Prop}
 {ty:TypeId} {pos:String} {aft:Array Edge} {g:Option (Nat×Bool)} {d:Nat}
theorem DM{id:Nat}{l:List Oper}{a:Act}(h:wpList P l.toArray Q l a w):(Code.region id l.toArray false).wp P Q a w:=wp_region_lit h
theorem D8{x y:Code}{a:Act}(h:x.wp P (Exit.then (y.wp P Q) Q) a w):(Code.seq x y).wp P Q a w:=wp_seq h
theorem A3{rest:List Oper}{op:Op}{dst:Option Tmp}{a:Act}
  (h:Oper.wp P ⟨dst,op,ty,pos,aft,none⟩ a w (wpList P ops Q rest) Q):wpList P ops Q (⟨dst,op,ty,pos,aft,none⟩::rest) a w:=by
 unfold wpList
 rw[if_pos (by simp[Region.wanted])]
 exact .inl h
theorem DN(ops:Array Oper)(j d:Nat)(h:(ops[j]?).bind (·.dst)=some d)(b:Bool)(hd:blt d n=true)(hv:σ d=.bool b):
  yielded ops (mk n σ).tmps j=some b:=by
 have hd':d<n:=by rw[A8]at hd;exact hd
 unfold yielded
 simp[h,mk,hd',hv]
theorem cE{rest:List Oper}{op:Op}{dst:Option Tmp}{e:Nat}{b:Bool}
  (he:(ops[j]?).bind (·.dst)=some e)(hb:blt e n=true)(hv:σ e=.bool b)
  (h:Oper.wp P ⟨dst,op,ty,pos,aft,some (j,b)⟩ (mk n σ) w (wpList P ops Q rest) Q):wpList P ops Q (⟨dst,op,ty,pos,aft,some (j,b)⟩::rest) (mk n σ) w:=by
 have hw:=DN ops j e he b hb hv
 unfold wpList
 rw[if_pos (by simp[Region.wanted,hw])]
 exact .inl h
theorem oR{rest:List Oper}{op:Op}{e:Nat}{b c:Bool}
  (he:(ops[j]?).bind (·.dst)=some e)(hb:blt e n=true)(hv:σ e=.bool c)(hc:(c==b)=false)
  (h:wpList P ops Q rest (mk n (up σ d undef)) w):wpList P ops Q (⟨some d,op,ty,pos,aft,some (j,b)⟩::rest) (mk n σ) w:=by
 have hw:=DN ops j e he c hb hv
 unfold wpList
 rw[if_neg (by simp[Region.wanted,hw];intro h';subst h';simp at hc),eR]
 exact h
theorem JN{y:Code}{a:Act}(h:y.wp P Q a w):wpList P ops (Exit.then (y.wp P Q) Q) [] a w:=h
theorem zX{a:Act}(h:Q .normal a w):wpList P ops Q [] a w:=h
theorem Cm{c:Operand}{x y:Code}{b:Bool}(hc:ev n σ c=.bool b)(ht:b=true->x.wp P Q (mk n σ) w)(hf:b=false->y.wp P Q (mk n σ) w):
  (Code.cond c x y).wp P Q (mk n σ) w:=wp_cond_split ((mG n σ c).trans hc) ht hf
theorem iU{c:Operand}{x y:Code}{p:Prop} [Decidable p](hc:ev n σ c=.bool (decide p))(ht:p->x.wp P Q (mk n σ) w)(hf:¬ p->y.wp P Q (mk n σ) w):
  (Code.cond c x y).wp P Q (mk n σ) w:=Cm hc (fun h=>ht (of_decide_eq_true h)) (fun h=>hf (of_decide_eq_false h))
theorem cG{c:Operand}{x y:Code}(hc:ev n σ c=.bool true)(ht:x.wp P Q (mk n σ) w):(Code.cond c x y).wp P Q (mk n σ) w:=
 wp_cond_true ((mG n σ c).trans hc) ht
theorem cH{c:Operand}{x y:Code}(hc:ev n σ c=.bool false)(ht:y.wp P Q (mk n σ) w):(Code.cond c x y).wp P Q (mk n σ) w:=
 wp_cond_false ((mG n σ c).trans hc) ht
theorem M6{a:Act}(h:Q .normal a w):Code.skip.wp P Q a w:=wp_skip h
theorem iV{a:Act}(h:Q .ret a w):Code.ret.wp P Q a w:=wp_ret h
theorem W8{id:Nat}{a:Act}(h:Q (.exit id) a w):(Code.exit id).wp P Q a w:=wp_exit h
theorem PO{id:Nat}{c:Code}{a:Act}(h:c.wp P (Exit.inBlock id Q) a w):(Code.block id c).wp P Q a w:=wp_block h
theorem cut{c:Code}(G4:ι->List (Nat×Value))(A:ι->World->Prop)(i:ι)(hp:fits σ (G4 i))(hA:A i w)
  (h:∀i τ w,A i w->c.wp P Q (mk n (o7 τ (G4 i))) w):c.wp P Q (mk n σ) w:=by
 have:=h i σ w hA
 rwa [sK σ _ hp]at this
def JO{ι:Type}(n:Nat)(G4:ι->List (Nat×Value))(A:ι->World->Prop)(a:Act)(w:World):Prop:=∃i τ,a=mk n (o7 τ (G4 i))/\A i w
def oS{ι:Type}(n:Nat)(G4:ι->List (Nat×Value))(A:ι->World->Prop)(μ:ι->Nat)(m:Nat)(a:Act)(w:World):Prop:=∃j τ,a=mk n (o7 τ (G4 j))/\A j w/\μ j<m
def Exit.mid(M:Act->World->Prop)(Q:Exit->Act->World->Prop):Exit->Act->World->Prop
|.normal,a,w=>M a w
|e,a,w=>Q e a w
theorem Cn{c:Code}(G4:ι->List (Nat×Value))(A:ι->World->Prop)
  (h1:c.wp P (Exit.mid (JO n G4 A) Q) (mk n σ) w)
  (h2:∀i τ w,A i w->Q .normal (mk n (o7 τ (G4 i))) w):c.wp P Q (mk n σ) w:=by
 refine wp_mono h1 fun e a w h=>?_
 cases e<;>simp only[Exit.mid]at h
 case normal=>obtain⟨i,τ,rfl,hA⟩:=h;exact h2 i τ w hA
 all_goals exact h
theorem Co{G4:ι->List (Nat×Value)}{A:ι->World->Prop}(i:ι)(hp:fits σ (G4 i))(hA:A i w):JO n G4 A (mk n σ) w:=
 ⟨i,σ,by rw[sK σ _ hp],hA⟩
theorem JP(p:Nat->Prop):∀k,p k->∃m,p m/\∀j,p j->m<=j:=by
 intro k
 induction k using Nat.strongRecOn with
|_ k ih=>
  intro hk
  by_cases h:∃j,j<k/\p j
  ·obtain⟨j,hj,hp⟩:=h;exact ih j hj hp
  exact⟨k,hk,fun j hj=>zI fun hlt=>h ⟨j,hlt,hj⟩⟩
theorem aA{c:Code}(G4:ι->List (Nat×Value))(A:ι->World->Prop)(μ:ι->Nat)(i:ι)(hp:fits σ (G4 i))(hA:A i w)
  (h:∀i τ w,A i w->c.wp P (Exit.then (oS n G4 A μ (μ i)) Q) (mk n (o7 τ (G4 i))) w):
  (Code.loop c).wp P Q (mk n σ) w:=by
 classical
 let I:Act->World->Prop:=fun a w=>∃i τ,a=mk n (o7 τ (G4 i))/\A i w
 let p:Act->World->Nat->Prop:=fun a w k=>∃i τ,a=mk n (o7 τ (G4 i))/\A i w/\μ i=k
 have ex:∀a w,I a w->∃m,p a w m/\∀k,p a w k->m<=k:=fun a w ⟨i,τ,h1,h2⟩=>JP (p a w) (μ i) ⟨i,τ,h1,h2,rfl⟩
 let M:Act->World->Nat:=fun a w=>if h:I a w then Classical.choose (ex a w h) else 0
 have hM:∀a w,I a w->p a w (M a w)/\∀k,p a w k->M a w<=k:=fun a w h=>by
  have e:M a w=Classical.choose (ex a w h):=dif_pos h
  rw[e]
  exact Classical.choose_spec (ex a w h)
 refine wp_loop I M ⟨i,σ,by rw[sK σ _ hp],hA⟩ ?_;intro a w hI
 obtain⟨⟨i,τ,rfl,hAi,hμ⟩,_⟩:=hM a w hI
 refine wp_mono (h i τ w hAi) fun e a' w' hq=>?_
 cases e<;>simp only[Exit.then]at hq ⊢
 case normal=>
  obtain⟨j,τ',rfl,hAj,hlt⟩:=hq
  have rC:I (mk n (o7 τ' (G4 j))) w':=⟨j,τ',rfl,hAj⟩
  exact⟨rC,Nat.lt_of_le_of_lt ((hM _ _ rC).2 _ ⟨j,τ',rfl,hAj,rfl⟩) (hμ▸hlt)⟩
 all_goals exact hq
theorem U7{G4:ι->List (Nat×Value)}{A:ι->World->Prop}{μ:ι->Nat}(j:ι)(hp:fits σ (G4 j))(hA:A j w)(hμ:μ j<m):
  oS n G4 A μ m (mk n σ) w:=⟨j,σ,by rw[sK σ _ hp],hA,hμ⟩
theorem DO{R:Ending->World->Prop}(h:fn.results= #[])(hR:R (.returned (.tuple #[])) w):bodyPost P fn R .ret (mk n σ) w:=
 ⟨rfl,_,results_none h _ _ _,hR⟩
theorem w9{R:Ending->World->Prop}{t:Tmp}{v:Value}(h:fn.results= #[.tmp t])(hv:ev n σ (.tmp t)=v)(hR:R (.returned v) w):bodyPost P fn R .ret (mk n σ) w:=
 ⟨rfl,_,results_tmp h _ _ _,by rw[<-hv, <-mG]at hR;exact hR⟩
theorem JQ{R:Ending->World->Prop}{a:Act}(h:bodyPost P fn R .ret a w):bodyPost P fn R .normal a w:=h
theorem G5{op:Op}{v:Value}(I1:(execOp (ev n σ) ⟨some d,op,ty,pos,aft,g⟩).run P w=.ok (.value v) w')
  (h:K (mk n (up σ d v)) w'):Oper.wp P ⟨some d,op,ty,pos,aft,g⟩ (mk n σ) w K Q:=by
 unfold Oper.wp
 rw[W7,I1,CX]
 show K ((mk n σ).put (some d) v) w'
 rw[eR]
 exact h
theorem DP{op:Op}(I1:(execOp (ev n σ) ⟨none,op,ty,pos,aft,g⟩).run P w=.ok .skip w')
  (h:K (mk n σ) w'):Oper.wp P ⟨none,op,ty,pos,aft,g⟩ (mk n σ) w K Q:=by
 unfold Oper.wp
 rw[W7,I1,Oper.upon_skip]
 exact h
theorem E7{x:Operand}(h:K (mk n (up σ d (ev n σ x))) w):Oper.wp P ⟨some d,.move x,ty,pos,aft,g⟩ (mk n σ) w K Q:=
 G5 (by simp[execOp]) h
theorem U8{x:Operand}(h:K (mk n (up σ d (ev n σ x))) w):Oper.wp P ⟨some d,.assign x,ty,pos,aft,g⟩ (mk n σ) w K Q:=
 G5 (by simp[execOp]) h
theorem Cp{c x y:Operand}{b:Bool}(hc:ev n σ c=.bool b)(h:K (mk n (up σ d (bif b then ev n σ x else ev n σ y))) w):
  Oper.wp P ⟨some d,.pick c x y,ty,pos,aft,g⟩ (mk n σ) w K Q:=
 G5 (by cases b<;>simp[execOp,hc,asBool]) h
theorem sL{x:Operand}{a:Addr}(hx:ev n σ x=.pointer (some a))(h:K (mk n (up σ d (.pointer (some a)))) w):
  Oper.wp P ⟨some d,.nilCheck x,ty,pos,aft,g⟩ (mk n σ) w K Q:=
 G5 (by simp[execOp,hx]) h
theorem Cq{x:Operand}{b:Bool}{t:TypeId}(hx:ev n σ x=.bool b)(h:K (mk n (up σ d (.bool (!b)))) w):
  Oper.wp P ⟨some d,.unOp .not t x,ty,pos,aft,g⟩ (mk n σ) w K Q:=
 G5 (by simp[execOp,hx,Op.unary]) h
theorem Cr{f:FuncId}{fn:Func}{args:Array Operand}{vs:Array Value}(hf:P.funcs[f]? =some fn)(hb:fn.body.isSome=true)(fR:(fn.name == "runtime.NumGoroutine")=false)
  (ha:args.map (ev n σ)=vs)
  (h:Calls P f vs w fun e w'=>match e with|.returned v=>K (mk n (up σ d v)) w'|_=>False):
  Oper.wp P ⟨some d,.call ⟨.value (.func f),args,W0⟩,ty,pos,aft,g⟩ (mk n σ) w K Q:=by
 unfold Oper.wp
 rw[W7]
 have hn:fn.body≠none:=by cases hh:fn.body<;>simp_all
 have K3:fn.name≠ "runtime.NumGoroutine" :=by intro e;simp[e]at fR
 have:(execOp (ev n σ) ⟨some d,.call ⟨.value (.func f),args,W0⟩,ty,pos,aft,g⟩).run P w=.ok (.enter f vs) w:=by
  simp[execOp,resolve,ev,Deferred.ofValue,invoke,callFunc,hf,K3,hn,ha]
 rw[this,Oper.upon_enter]
 refine h.mono fun e w' he=>?_
 cases e<;>simp only at he ⊢
 rw[eR];exact he
end
theorem oT(n:Nat)(σ:Nat->Value):(mk n σ).defers=[]:=rfl
theorem sM(n:Nat)(σ:Nat->Value)(t:Nat):(mk n σ).tmps.getD t undef=ev n σ (.tmp t):=mG n σ (.tmp t)
attribute [irreducible] mk JO oS
abbrev VI(a:Int):Value:=.int .i64 a
abbrev V8(x:UInt8):Value:=.int .u8 (x.toNat:Int)
abbrev E8(x:UInt32):Value:=.int .u32 (x.toNat:Int)
abbrev L9(x:UInt64):Value:=.int .u64 (x.toNat:Int)
theorem wrap_i64{n:Int}(h1: -9223372036854775808<=n)(h2:n<=9223372036854775807):i64.wrap n=n:=by
 exact IntWalk.i64_in n ⟨h1,h2⟩
theorem JR{k:IntKind}(hk:k.signed=false)(n:Int):k.wrap n=n % (2 ^ k.bits:Int):=by
 simp[IntKind.wrap,hk]
theorem run_equal_bool{t:TypeId}(hu:P.underlying t=some .bool)(a b:Bool)(w:World):(Op.equal t (.bool a) (.bool b)).run P w=.ok (a==b) w:=by
 unfold Op.equal Op.maxDepth Op.equalIn
 rw[D0,run_underlying hu]
 simp
section
variable {n:Nat} {σ:Nat->Value} {K:Act->World->Prop}
 {ty:TypeId} {pos:String} {aft:Array Edge} {g:Option (Nat×Bool)} {d:Nat} {t yt:TypeId} {x y:Operand} {op:BinOp}
theorem J3{k:IntKind}{a b:Int}{v:Value}(hx:ev n σ x=.int k a)(hy:ev n σ y=.int k b)
  (hr:∀w:World,(binOp op t (.int k a) (.int k b)).run P w=.ok v w)(h:K (mk n (up σ d v)) w):
  Oper.wp P ⟨some d,.binOp op t x y yt,ty,pos,aft,g⟩ (mk n σ) w K Q:=
 G5 (by
  have he:(eqGuard op t x y (.int k a) (.int k b)).run P w=.ok () w:=by
   unfold eqGuard
   cases op<;>simp
  simp[execOp,hx,hy,he,hr]) h
theorem sO{k yk:IntKind}{a b:Int}{v:Value}(hx:ev n σ x=.int k a)(hy:ev n σ y=.int yk b)(ho:op=.shl\/op=.shr)
  (hr:∀w:World,(Op.shift op k a yk b).run P w=.ok v w)(h:K (mk n (up σ d v)) w):
  Oper.wp P ⟨some d,.binOp op t x y yt,ty,pos,aft,g⟩ (mk n σ) w K Q:=
 G5 (by
  rcases ho with rfl|rfl<;>simp[execOp,hx,hy,eqGuard,binOp,hr]) h
theorem sP{k:IntKind}{a:Int}{ds:TypeDesc}{v:Int}(hs:P.underlying t=some ds)(hd:P.underlying yt=some (.int k'))(hx:ev n σ x=.int k a)
  (hr:k'.wrap a=v)(h:K (mk n (up σ d (.int k' v))) w):
  Oper.wp P ⟨some d,.convert t yt x,ty,pos,aft,g⟩ (mk n σ) w K Q:=
 G5 (by
  have h1:(underlying t).run P w=.ok ds w:=run_underlying hs w
  have h2:(underlying yt).run P w=.ok (.int k') w:=run_underlying hd w
  cases ds<;>simp[execOp,hx,convert,h1,h2,Conv.intToInt,hr]) h
end
section
variable {t:TypeId}
theorem Z9{a b:Int}(h1: -9223372036854775808<=a+b)(h2:a+b<=9223372036854775807):(binOp .add t (VI a) (VI b)).run P w=.ok (VI (a+b)) w:=by
 simp[binOp,Op.intArith,wrap_i64 h1 h2]
theorem gE{a b:Int}(h1: -9223372036854775808<=a-b)(h2:a-b<=9223372036854775807):(binOp .sub t (VI a) (VI b)).run P w=.ok (VI (a-b)) w:=by
 simp[binOp,Op.intArith,wrap_i64 h1 h2]
theorem sQ{a b:Int}(h1: -9223372036854775808<=a*b)(h2:a*b<=9223372036854775807):(binOp .mul t (VI a) (VI b)).run P w=.ok (VI (a*b)) w:=by
 simp[binOp,Op.intArith,wrap_i64 h1 h2]
theorem PP{k:IntKind}{a b:Int}(h1:0<=a)(h2:0<b):(binOp .rem t (.int k a) (.int k b)).run P w=.ok (.int k (a % b)) w:=by
 simp[binOp,Op.intDiv,Int.ne_of_gt h2,Int.tmod_eq_emod_of_nonneg h1]
theorem aB{k:IntKind}{a b:Int}:(binOp .lss t (.int k a) (.int k b)).run P w=.ok (.bool (decide (a<b))) w:=by simp[binOp,Op.intCmp]
theorem Cs{k:IntKind}{a b:Int}:(binOp .leq t (.int k a) (.int k b)).run P w=.ok (.bool (decide (a<=b))) w:=by simp[binOp,Op.intCmp]
theorem zY{k:IntKind}{a b:Int}:(binOp .gtr t (.int k a) (.int k b)).run P w=.ok (.bool (decide (b<a))) w:=by simp[binOp,Op.intCmp]
theorem JS{k:IntKind}{a b:Int}:(binOp .geq t (.int k a) (.int k b)).run P w=.ok (.bool (decide (b<=a))) w:=by simp[binOp,Op.intCmp]
theorem JT{k:IntKind}{a b:Int}:(binOp .eql t (.int k a) (.int k b)).run P w=.ok (.bool (decide (a=b))) w:=by
 simp[binOp,Op.intCmp];rfl
theorem DQ{k:IntKind}{a b:Int}:(binOp .neq t (.int k a) (.int k b)).run P w=.ok (.bool (decide (a≠b))) w:=by
 simp[binOp,Op.intCmp,bne];rfl
theorem zZ(n:Int):u8.wrap n=n % 256:=by rw[JR rfl];rfl
theorem JU(x:UInt8):x.toNat<256:=x.toNat_lt
theorem DR(x:UInt8):ofInt 8 (x.toNat:Int)=x.toBitVec:=by
 apply BitVec.eq_of_toNat_eq;simp[IZ]
theorem PQ(x:UInt8):u8.wrap ((x.toBitVec.toNat:Nat):Int)=(x.toNat:Int):=by
 have:=JU x
 rw[zZ];simp;omega
theorem Ct{x y:UInt8}:(binOp .or t (V8 x) (V8 y)).run P w=.ok (V8 (x|||y)) w:=by
 have h:=PQ (x|||y)
 have e:binOp .or t (V8 x) (V8 y)=Sem.pure (.int .u8 (u8.wrap ((ofInt 8 (x.toNat:Int)|||ofInt 8 (y.toNat:Int)).toNat:Nat))):=rfl
 simp only[UInt8.toBitVec_or]at h
 rw[e,DR,DR,h];rfl
theorem JV{x y:UInt8}:(binOp .xor t (V8 x) (V8 y)).run P w=.ok (V8 (x^^^y)) w:=by
 have h:=PQ (x^^^y)
 have e:binOp .xor t (V8 x) (V8 y)=Sem.pure (.int .u8 (u8.wrap ((ofInt 8 (x.toNat:Int)^^^ofInt 8 (y.toNat:Int)).toNat:Nat))):=rfl
 simp only[UInt8.toBitVec_xor]at h
 rw[e,DR,DR,h];rfl
theorem DS(n:Int):u32.wrap n=n % 4294967296:=by rw[JR rfl];rfl
theorem Cu(x:UInt32):x.toNat<4294967296:=x.toNat_lt
theorem iW{x y:UInt32}:(binOp .add t (E8 x) (E8 y)).run P w=.ok (E8 (x+y)) w:=by
 have:((x+y).toNat:Int)=(x.toNat+y.toNat:Int) % 4294967296:=by rw[UInt32.toNat_add];simp
 simp[binOp,Op.intArith,DS,this]
theorem sR(x:UInt32):ofInt 32 (x.toNat:Int)=x.toBitVec:=by
 apply BitVec.eq_of_toNat_eq;simp[IZ]
theorem DT(x:UInt32):u32.wrap ((x.toBitVec.toNat:Nat):Int)=(x.toNat:Int):=by
 have:=Cu x
 rw[DS];simp;omega
theorem AA{x y:UInt32}:(binOp .and t (E8 x) (E8 y)).run P w=.ok (E8 (x&&&y)) w:=by
 have h:=DT (x&&&y)
 have e:binOp .and t (E8 x) (E8 y)=Sem.pure (.int .u32 (u32.wrap ((ofInt 32 (x.toNat:Int)&&&ofInt 32 (y.toNat:Int)).toNat:Nat))):=rfl
 simp only[UInt32.toBitVec_and]at h
 rw[e,sR,sR,h];rfl
theorem DU{x y:UInt32}:(binOp .or t (E8 x) (E8 y)).run P w=.ok (E8 (x|||y)) w:=by
 have h:=DT (x|||y)
 have e:binOp .or t (E8 x) (E8 y)=Sem.pure (.int .u32 (u32.wrap ((ofInt 32 (x.toNat:Int)|||ofInt 32 (y.toNat:Int)).toNat:Nat))):=rfl
 simp only[UInt32.toBitVec_or]at h
 rw[e,sR,sR,h];rfl
theorem iX{x y:UInt32}:(binOp .xor t (E8 x) (E8 y)).run P w=.ok (E8 (x^^^y)) w:=by
 have h:=DT (x^^^y)
 have e:binOp .xor t (E8 x) (E8 y)=Sem.pure (.int .u32 (u32.wrap ((ofInt 32 (x.toNat:Int)^^^ofInt 32 (y.toNat:Int)).toNat:Nat))):=rfl
 simp only[UInt32.toBitVec_xor]at h
 rw[e,sR,sR,h];rfl
theorem Cv{x:UInt32}:(Op.unary .xor (E8 x)).run P w=.ok (E8 (~~~x)) w:=by
 have h:=DT (~~~x)
 have e1:ofInt 32 u32.max^^^x.toBitVec= ~~~x.toBitVec:=by
  have:ofInt 32 u32.max=BitVec.allOnes 32:=by decide
  rw[this,BitVec.allOnes_xor]
 have e:Op.unary .xor (E8 x)=Sem.pure (.int .u32 (u32.wrap ((ofInt 32 u32.max^^^ofInt 32 (x.toNat:Int)).toNat:Nat))):=rfl
 simp only[UInt32.toBitVec_not]at h
 rw[e,sR,e1,h];rfl
theorem DV{x:UInt32}{yk:IntKind}{c:Int}(h0:0<=c)(h1:c<32):(Op.shift .shl .u32 (x.toNat:Int) yk c).run P w=.ok (E8 (x<<<UInt32.ofNat c.toNat)) w:=by
 obtain⟨m,rfl⟩:=qL h0
 have hm:m<32:=by omega
 have e:((x<<<UInt32.ofNat m).toNat:Int)=((x.toNat:Int)*2 ^ m) % 4294967296:=by
  rw[UInt32.toNat_shiftLeft]
  have:(UInt32.ofNat m).toNat % 32=m:=by rw[UInt32.toNat_ofNat'];omega
  rw[this,Nat.shiftLeft_eq];simp
 have e2:Op.shift .shl .u32 (x.toNat:Int) yk (m:Int)=Sem.pure (.int .u32 (u32.wrap ((x.toNat:Int)*2 ^ (min (m:Int).toNat 32)))):=by
  unfold Op.shift
  rw[if_neg (by omega)];rfl
 rw[e2,jT,jU (Nat.le_of_lt hm),DS, <-e];rfl
theorem DW{x:UInt32}{yk:IntKind}{c:Int}(h0:0<=c)(h1:c<32):(Op.shift .shr .u32 (x.toNat:Int) yk c).run P w=.ok (E8 (x>>>UInt32.ofNat c.toNat)) w:=by
 obtain⟨m,rfl⟩:=qL h0
 have hm:m<32:=by omega
 have e:((x>>>UInt32.ofNat m).toNat:Int)=(x.toNat:Int) / 2 ^ m:=by
  rw[UInt32.toNat_shiftRight]
  have:(UInt32.ofNat m).toNat % 32=m:=by rw[UInt32.toNat_ofNat'];omega
  rw[this,PG];simp
 have e3:(x.toNat:Int).fdiv (2 ^ m)=(x.toNat:Int) / 2 ^ m:=by
  rw[JA];exact Int.le_of_lt (Int.pow_pos (by omega))
 have e2:Op.shift .shr .u32 (x.toNat:Int) yk (m:Int)=Sem.pure (.int .u32 ((x.toNat:Int).fdiv (2 ^ (min (m:Int).toNat 32)))):=by
  unfold Op.shift
  rw[if_neg (by omega)];rfl
 rw[e2,jT,jU (Nat.le_of_lt hm),e3, <-e];rfl
theorem mH(n:Int):u64.wrap n=n % 18446744073709551616:=by rw[JR rfl];rfl
theorem DX(x:UInt64):x.toNat<18446744073709551616:=x.toNat_lt
theorem Cw{x y:UInt64}:(binOp .add t (L9 x) (L9 y)).run P w=.ok (L9 (x+y)) w:=by
 have:((x+y).toNat:Int)=(x.toNat+y.toNat:Int) % 18446744073709551616:=by rw[CY];simp
 simp[binOp,Op.intArith,mH,this]
theorem Cy{x y:UInt64}:(binOp .sub t (L9 x) (L9 y)).run P w=.ok (L9 (x-y)) w:=by
 have hx:=DX x
 have hy:=DX y
 have:((x-y).toNat:Int)=(x.toNat-y.toNat:Int) % 18446744073709551616:=by rw[UInt64.toNat_sub];omega
 simp[binOp,Op.intArith,mH,this]
theorem Cz{x y:UInt64}:(binOp .mul t (L9 x) (L9 y)).run P w=.ok (L9 (x*y)) w:=by
 have:((x*y).toNat:Int)=(x.toNat*y.toNat:Int) % 18446744073709551616:=by rw[UInt64.toNat_mul];simp
 simp[binOp,Op.intArith,mH,this]
theorem PR(x:UInt64):ofInt 64 (x.toNat:Int)=x.toBitVec:=by
 apply BitVec.eq_of_toNat_eq;simp[IZ]
theorem Da(x:UInt64):u64.wrap ((x.toBitVec.toNat:Nat):Int)=(x.toNat:Int):=by
 have:=DX x
 rw[mH];simp;omega
theorem Db{x y:UInt64}:(binOp .and t (L9 x) (L9 y)).run P w=.ok (L9 (x&&&y)) w:=by
 have h:=Da (x&&&y)
 have e:binOp .and t (L9 x) (L9 y)=Sem.pure (.int .u64 (u64.wrap ((ofInt 64 (x.toNat:Int)&&&ofInt 64 (y.toNat:Int)).toNat:Nat))):=rfl
 simp only[UInt64.toBitVec_and]at h
 rw[e,PR,PR,h];rfl
theorem Dc{x:UInt64}{yk:IntKind}{c:Int}(h0:0<=c)(h1:c<64):(Op.shift .shl .u64 (x.toNat:Int) yk c).run P w=.ok (L9 (x<<<UInt64.ofNat c.toNat)) w:=by
 obtain⟨m,rfl⟩:=qL h0
 have hm:m<64:=by omega
 have e:((x<<<UInt64.ofNat m).toNat:Int)=((x.toNat:Int)*2 ^ m) % 18446744073709551616:=by
  rw[UInt64.toNat_shiftLeft]
  have:(UInt64.ofNat m).toNat % 64=m:=by rw[aM];omega
  rw[this,Nat.shiftLeft_eq];simp
 have e2:Op.shift .shl .u64 (x.toNat:Int) yk (m:Int)=Sem.pure (.int .u64 (u64.wrap ((x.toNat:Int)*2 ^ (min (m:Int).toNat 64)))):=by
  unfold Op.shift
  rw[if_neg (by omega)];rfl
 rw[e2,jT,jU (Nat.le_of_lt hm),mH, <-e];rfl
theorem PS{x:UInt64}{yk:IntKind}{c:Int}(h0:0<=c)(h1:c<64):(Op.shift .shr .u64 (x.toNat:Int) yk c).run P w=.ok (L9 (x>>>UInt64.ofNat c.toNat)) w:=by
 obtain⟨m,rfl⟩:=qL h0
 have hm:m<64:=by omega
 have e:((x>>>UInt64.ofNat m).toNat:Int)=(x.toNat:Int) / 2 ^ m:=by
  rw[UInt64.toNat_shiftRight]
  have:(UInt64.ofNat m).toNat % 64=m:=by rw[aM];omega
  rw[this,PG];simp
 have e3:(x.toNat:Int).fdiv (2 ^ m)=(x.toNat:Int) / 2 ^ m:=by
  rw[JA];exact Int.le_of_lt (Int.pow_pos (by omega))
 have e2:Op.shift .shr .u64 (x.toNat:Int) yk (m:Int)=Sem.pure (.int .u64 ((x.toNat:Int).fdiv (2 ^ (min (m:Int).toNat 64)))):=by
  unfold Op.shift
  rw[if_neg (by omega)];rfl
 rw[e2,jT,jU (Nat.le_of_lt hm),e3, <-e];rfl
theorem DY(x:UInt8):u32.wrap (x.toNat:Int)=(x.toUInt32.toNat:Int):=by
 have:=JU x
 rw[DS,UInt8.toNat_toUInt32];omega
theorem JW(x:UInt8):u8.wrap (x.toNat:Int)=(x.toNat:Int):=by
 have:=JU x
 rw[zZ];omega
theorem JX(x:UInt64):u8.wrap (x.toNat:Int)=(x.toUInt8.toNat:Int):=by
 rw[zZ,UInt64.toNat_toUInt8];simp
theorem Dd(x:UInt32):u8.wrap (x.toNat:Int)=(x.toUInt8.toNat:Int):=by
 rw[zZ,UInt32.toNat_toUInt8];simp
theorem De{a:Int}(h0:0<=a):u64.wrap a=((UInt64.ofNat a.toNat).toNat:Int):=by
 obtain⟨m,rfl⟩:=qL h0
 rw[mH,aM];simp
end
section
variable {n:Nat} {σ:Nat->Value}
theorem c8(k:Nat)(h:k<256):ev n σ (.const (.int .u8 (k:Int)))=V8 (UInt8.ofNat k):=by
 simp only[ev,V8,UInt8.toNat_ofNat']
 congr 1;omega
theorem AB(k:Nat)(h:k<18446744073709551616):ev n σ (.const (.int .u64 (k:Int)))=L9 (UInt64.ofNat k):=by
 simp only[ev,L9,aM]
 congr 1;omega
end
inductive Ch where
|blk (b:Nat) (C:List Value) (T:TypeId)
|own (a:Option Nat) (len cap:Nat) (xs:List Value) (T:TypeId) (sz:Nat)
|obj (b:Nat) (o:Go.Obj)
def Ch.key:Ch->Option Nat
|.blk b _ _=>some b
|.own a _ _ _ _ _=>a
|.obj b _=>some b
def Ch.ok(w:World):Ch->Prop
|.blk b C T=>w.heap[b]? =some (.cells C.toArray T (0,0))
|.own none len cap xs _ _=>len=0/\cap=0/\xs=[]
|.own (some b) len cap xs T sz=>xs.length=len*sz/\len<=cap/\cap<=maxLen/\∃rest,w.heap[b]? =some (.cells (xs++rest).toArray T (0,0))/\(xs++rest).length=cap*sz
|.obj b o=>w.heap[b]? =some o
def hd(a:Option Nat):Option Addr:=a.map fun b=>⟨b,0,none⟩
theorem Ch.ok_of{c:Ch}(h:c.ok w)(he:∀b,c.key=some b->w'.heap[b]? =w.heap[b]?):c.ok w':=by
 cases c with
|blk b C T=>simp only[Ch.ok]at *;rw[he b rfl];exact h
|obj b o=>simp only[Ch.ok]at *;rw[he b rfl];exact h
|own a len cap xs T sz=>cases a with
 |none=>exact h
 |some b=>simp only[Ch.ok]at *;rw[he b rfl];exact h
theorem Ch.lt{c:Ch}(h:c.ok w){b:Nat}(hb:c.key=some b):b<w.heap.size:=by
 have dB:∀o,w.heap[b]? =some o->b<w.heap.size:=fun o ho=>(Z4.1 ho).1
 cases c with
|blk b' C T=>cases hb;exact dB _ h
|obj b' o=>cases hb;exact dB _ h
|own a len cap xs T sz=>cases a with
 |none=>cases hb
 |some b'=>cases hb;obtain⟨_,_,_,r,h,_⟩:=h;exact dB _ h
structure Hp (w0 w:World) (S:List Nat) (L:List Ch):Prop where
 os:w.os=w0.os
 tape:w.tape=w0.tape
 output:w.output=w0.output
 size:w0.heap.size<=w.heap.size
 frame:∀b,b<w0.heap.size->b∉S->w.heap[b]? =w0.heap[b]?
 has:∀c∈L,c.ok w
 fresh:∀c∈L,∀b,c.key=some b->b∈S\/w0.heap.size<=b
 nd:L.Pairwise fun c e=>∀b,c.key=some b->e.key≠some b
theorem Hp.refl(w:World)(S:List Nat):Hp w w S []:=⟨rfl,rfl,rfl,B2 _,fun _ _ _=>rfl,(by simp),(by simp),.nil⟩
theorem Hp.start(w:World)(c:Ch)(b:Nat)(h:c.ok w)(hk:c.key=some b):Hp w w [b] [c]:=
 ⟨rfl,rfl,rfl,B2 _,fun _ _ _=>rfl,(by simpa using h),(by simp[hk]),by simp⟩
theorem Hp.drew{S L}(h:Hp w0 w S L):Hp w0 w.drew S L:=
 ⟨h.os,h.tape,h.output,h.size,h.frame,fun c hc=>Ch.ok_of (h.has c hc) (fun _ _=>rfl),h.fresh,h.nd⟩
theorem Hp.sub{S L L'}(h:Hp w0 w S L)(hs:L'.Sublist L):Hp w0 w S L':=
 ⟨h.os,h.tape,h.output,h.size,h.frame,fun c hc=>h.has c (hs.subset hc),fun c hc=>h.fresh c (hs.subset hc),h.nd.sublist hs⟩
theorem Hp.below{L}(h:Hp w0 w [] L):RowKit.Below w0.heap.size w0 w:=⟨h.os,h.tape,h.output,h.size,fun k hk=>h.frame k hk (by simp)⟩
theorem j7(w:World)(o:Go.Obj):(w.alloc o).heap[w.heap.size]? =some o:=heap_alloc_new w o
theorem gG(w:World)(o:Go.Obj)(k:Nat)(h:k≠w.heap.size):(w.alloc o).heap[k]? =w.heap[k]? :=by
 show(w.heap.push o)[k]? =_
 rw[Array.getElem?_push,if_neg h]
theorem Hp.new{S L}(h:Hp w0 w S L)(o:Go.Obj)(c:Ch)(hk:c.key=some w.heap.size)(hc:c.ok (w.alloc o)):Hp w0 (w.alloc o) S (L++[c]):=by
 refine⟨h.os,h.tape,h.output,?_,?_,?_,?_,?_⟩
 ·have:=h.size;simp;omega
 ·intro b hb hn
  rw[gG _ _ _ (by have:=h.size;omega)]
  exact h.frame b hb hn
 ·intro e he
  rcases S3.1 he with he|he
  ·exact Ch.ok_of (h.has e he) fun b hb=>gG _ _ _ (by have:=Ch.lt (h.has e he) hb;omega)
  simp at he;subst he;exact hc
 ·intro e he b hb
  rcases S3.1 he with he|he
  ·exact h.fresh e he b hb
  simp at he;subst he;rw[hk]at hb;cases hb;exact .inr h.size
 rw[JB]
 refine⟨h.nd,by simp,fun e he f hf b hb=>?_⟩
 simp at hf;subst hf
 rw[hk];intro e';cases e'
 have:=Ch.lt (h.has e he) hb;omega
theorem Hp.alloc{S L}(h:Hp w0 w S L)(C:List Value)(T:TypeId):Hp w0 (w.alloc (.cells C.toArray T)) S (L++[.blk w.heap.size C T]):=
 h.new _ _ rfl (j7 w _)
theorem JY{L:List α}{c e:α}(h:e∈L.set i c):e=c\/∃j,j≠i/\L[j]? =some e:=by
 obtain⟨j,hj⟩:=CZ h
 by_cases dC:i=j
 ·subst dC
  rw[List.getElem?_set]at hj
  simp at hj
  exact .inl hj.2.symm
 rw[List.getElem?_set_ne dC]at hj
 exact .inr ⟨j,Ne.symm dC,hj⟩
theorem JZ{L:List Ch}(h:L.Pairwise fun c e=>∀b,c.key=some b->e.key≠some b){c e:Ch}(hi:L[i]? =some c)(hj:L[j]? =some e)(dC:i≠j){b:Nat}(hb:c.key=some b):e.key≠some b:=by
 rw[List.pairwise_iff_getElem]at h
 obtain⟨G9,rfl⟩:=N1.1 hi
 obtain⟨hj',rfl⟩:=N1.1 hj
 rcases JC dC with hlt|hlt
 ·exact h i j G9 hj' hlt b hb
 intro he
 exact h j i hj' G9 hlt b he hb
theorem Hp.turn{S L}(h:Hp w0 w S L){c c':Ch}(hi:L[i]? =some c)(M4:c'.ok w')(hk:∀b,c'.key=some b->c.key=some b\/w.heap.size<=b)
  (hos:w'.os=w.os)(htape:w'.tape=w.tape)(v7:w'.output=w.output)(K9:w.heap.size<=w'.heap.size)
  (hother:∀b,b<w.heap.size->c.key≠some b->w'.heap[b]? =w.heap[b]?):Hp w0 w' S (L.set i c'):=by
 have nP:=E3 hi
 refine⟨hos.trans h.os,htape.trans h.tape,v7.trans h.output,J2 h.size K9,?_,?_,?_,?_⟩
 ·intro b hb hn
  rw[hother b (X7 hb h.size) ?_,h.frame b hb hn]
  intro hc
  rcases h.fresh c nP b hc with h1|h1
  ·exact hn h1
  omega
 ·intro e he
  rcases JY he with rfl|⟨j,hj,hje⟩
  ·exact M4
  have hm:=E3 hje
  refine Ch.ok_of (h.has e hm) fun b hb=>hother b (Ch.lt (h.has e hm) hb) fun hc=>?_
  exact JZ h.nd hi hje (Ne.symm hj) hc hb
 ·intro e he b hb
  rcases JY he with rfl|⟨j,hj,hje⟩
  ·rcases hk b hb with h1|h1
   ·exact h.fresh c nP b h1
   exact .inr (J2 h.size h1)
  exact h.fresh e (E3 hje) b hb
 rw[List.pairwise_iff_getElem]
 intro j k hj i8 hlt b hb
 simp only[List.length_set]at hj i8
 have key:∀m (hm:m<L.length),m≠i->(L[m]).key=some b->c'.key≠some b:=fun m hm D5 I2 hc'=>by
  have hmok:=h.has _ (eG hm)
  rcases hk b hc' with h1|h1
  ·exact JZ h.nd hi (B6 hm) (Ne.symm D5) h1 I2
  have:=Ch.lt hmok I2;omega
 rw[List.getElem_set]at hb ⊢
 by_cases h1:i=j
 ·rw[if_pos h1]at hb
  rw[if_neg (by omega)]
  intro he
  exact key k i8 (by omega) he hb
 rw[if_neg h1]at hb
 by_cases h2:i=k
 ·rw[if_pos h2];exact key j hj (Ne.symm h1) hb
 rw[if_neg h2]
 exact(List.pairwise_iff_getElem.1 h.nd) j k hj i8 hlt b hb
theorem Hp.row{S L}(h:Hp w0 w S L){b:Nat}{c c':Ch}{C':List Value}{T:TypeId}(hi:L[i]? =some c)(hk:c.key=some b)(i8:c'.key=some b)
  (hw:w.heap[b]? =some (.cells C.toArray T (0,0)))(M4:∀w':World,w'.heap[b]? =some (.cells C'.toArray T (0,0))->c'.ok w'):Hp w0 (w.setRow b C'.toArray) S (L.set i c'):=
 h.turn hi (M4 _ (setRow_heap w b _ _ T (0,0) hw)) (fun b' I2=>.inl (by rw[hk];rw[i8]at I2;exact I2)) rfl rfl rfl (by simp)
  (fun b' _ D5=>setRow_other w b b' _ (fun e=>D5 (by rw[hk,e])))
theorem Hp.call{S L L'}(h:Hp w0 w S L)(hc:Hp w w' [] L'):Hp w0 w' S (L++L'):=by
 refine⟨hc.os.trans h.os,hc.tape.trans h.tape,hc.output.trans h.output,J2 h.size hc.size,?_,?_,?_,?_⟩
 ·intro b hb hn
  rw[hc.frame b (X7 hb h.size) (by simp),h.frame b hb hn]
 ·intro e he
  rcases S3.1 he with he|he
  ·exact Ch.ok_of (h.has e he) fun b hb=>hc.frame b (Ch.lt (h.has e he) hb) (by simp)
  exact hc.has e he
 ·intro e he b hb
  rcases S3.1 he with he|he
  ·exact h.fresh e he b hb
  rcases hc.fresh e he b hb with h1|h1
  ·simp at h1
  exact .inr (J2 h.size h1)
 rw[JB]
 refine⟨h.nd,hc.nd,fun e he f hf b hb I2=>?_⟩
 rcases hc.fresh f hf b I2 with h1|h1
 ·simp at h1
 have:=Ch.lt (h.has e he) hb;omega
theorem Hp.callAt{S L L'}(h:Hp w0 w S L){b:Nat}{c c':Ch}(hi:L[i]? =some c)(hk:c.key=some b)(i8:c'.key=some b)(hc:Hp w w' [b] (c'::L')):Hp w0 w' S (L.set i c'++L'):=by
 have h1:Hp w0 w' S (L.set i c'):=h.turn hi (hc.has c' (by simp)) (fun b' I2=>.inl (by rw[hk];rw[i8]at I2;exact I2)) hc.os hc.tape hc.output hc.size
  (fun b' I2 D5=>hc.frame b' I2 (by simp;intro e;exact D5 (by rw[hk,e])))
 have iH:=List.pairwise_cons.1 hc.nd
 refine⟨h1.os,h1.tape,h1.output,h1.size,h1.frame,?_,?_,?_⟩
 ·intro e he
  rcases S3.1 he with he|he
  ·exact h1.has e he
  exact hc.has e (by simp[he])
 ·intro e he b' hb
  rcases S3.1 he with he|he
  ·exact h1.fresh e he b' hb
  rcases hc.fresh e (by simp[he]) b' hb with h2|h2
  ·simp at h2;subst h2;exact absurd hb (iH.1 e he _ i8)
  exact .inr (J2 h.size h2)
 rw[JB]
 refine⟨h1.nd,iH.2,fun e he f hf b' hb I2=>?_⟩
 rcases hc.fresh f (by simp[hf]) b' I2 with h2|h2
 ·simp at h2;subst h2;exact iH.1 f hf _ i8 I2
 rcases JY he with rfl|⟨j,hj,hje⟩
 ·rw[i8]at hb;cases hb;exact iH.1 f hf _ i8 I2
 have:=Ch.lt (h.has e (E3 hje)) hb;omega
def RdS(w:World)(a:Option Addr)(vs:List Value):Prop:=
 vs=[]\/∃b o C T fr,a=some ⟨b,o,none⟩/\w.heap[b]? =some (.cells C T fr)/\∀i v,vs[i]? =some v->C[o+i]? =some v
def Apart(a:Option Addr)(S:List Nat):Prop:=∀x,a=some x->x.block∉S
theorem U9(a:Option Addr):Apart a []:=fun _ _=>by simp
theorem RdS.nil(w:World)(a:Option Addr):RdS w a []:=.inl rfl
theorem RdS.of_heap{a:Option Addr}(h:RdS w a vs)(he:∀x,a=some x->x.block<w.heap.size->w'.heap[x.block]? =w.heap[x.block]?):RdS w' a vs:=by
 rcases h with h|⟨b,o,C,T,fr,ha,hb,hc⟩
 ·exact .inl h
 exact .inr ⟨b,o,C,T,fr,ha,by rw[he _ ha (Z4.1 hb).1];exact hb,hc⟩
theorem Hp.rd{S L}(h:Hp w0 w S L){a:Option Addr}(hr:RdS w0 a vs)(Y7:Apart a S):RdS w a vs:=
 hr.of_heap fun x hx hlt=>h.frame _ hlt (Y7 x hx)
theorem RdS.cell{a:Option Addr}(h:RdS w a vs){v:Value}(hv:vs[i]? =some v):∃b o,a=some ⟨b,o,none⟩/\w.cell? ⟨b,o+i,none⟩=some v:=by
 rcases h with rfl|⟨b,o,C,T,fr,ha,hb,hc⟩
 ·simp at hv
 exact⟨b,o,ha,by simp[World.cell?, hb,hc i v hv]⟩
theorem RdS.drop{a:Option Addr}(h:RdS w a vs)(k:Nat):RdS w (a.map (·.add k)) (vs.drop k):=by
 rcases h with rfl|⟨b,o,C,T,fr,rfl,hb,hc⟩
 ·exact .inl (by simp)
 refine .inr ⟨b,o+k,C,T,fr,?_,hb,fun i v hv=>?_⟩
 ·simp only[X8,Addr.add]
  by_cases hk:k=0
  ·subst hk;simp
  rw[if_neg hk]
 rw[Q5]at hv
 have:=hc (k+i) v hv
 rwa [<-O7]at this
theorem RdS.take{a:Option Addr}(h:RdS w a vs)(k:Nat):RdS w a (vs.take k):=by
 rcases h with rfl|⟨b,o,C,T,fr,rfl,hb,hc⟩
 ·exact .inl (by simp)
 refine .inr ⟨b,o,C,T,fr,rfl,hb,fun i v hv=>hc i v ?_⟩
 rw[t7]at hv
 split at hv
 ·exact hv
 cases hv
theorem Ch.rd_own{a:Option Nat}{T sz}(h:(Ch.own a len cap xs T sz).ok w):RdS w (hd a) xs:=by
 cases a with
|none=>exact .inl h.2.2
|some b=>
  obtain⟨_,_,_,rest,hb,_⟩:=h
  refine .inr ⟨b,0,_,T,(0,0),rfl,hb,fun i v hv=>?_⟩;have hi:i<xs.length:=(N1.1 hv).1
  simp[N5 hi,hv]
theorem Ch.rd_blk{b:Nat}{T}(h:(Ch.blk b C T).ok w)(o:Nat):RdS w (some ⟨b,o,none⟩) (C.drop o):=
 .inr ⟨b,o,_,T,(0,0),rfl,h,fun i v hv=>by simpa [Q5] using hv⟩
theorem Ch.rd_all{b:Nat}{T}(h:(Ch.blk b C T).ok w):RdS w (some ⟨b,0,none⟩) C:=by simpa using Ch.rd_blk h 0
theorem Hp.own{S L}(h:Hp w0 w S L){a:Option Nat}{T sz}(hi:L[i]? =some (.own a len cap xs T sz)):RdS w (hd a) xs:=
 Ch.rd_own (h.has _ (E3 hi))
theorem Hp.blk{S L}(h:Hp w0 w S L){b:Nat}{T}(hi:L[i]? =some (.blk b C T)):w.heap[b]? =some (.cells C.toArray T (0,0)):=
 h.has _ (E3 hi)
def O5(P:Program)(t:TypeId):Bool:=match P.underlying t with|some (.struct _)|some (.array _ _)=>false|some _=>true|none=>false
def T5(P:Program)(t:TypeId):Option Nat:=match P.underlying t with|some (.struct _)|some (.array _ _)=>(P.info? t).map (·.size)|_=>none
def K2(P:Program)(t:TypeId):Option Nat:=(P.info? t).map (·.size)
theorem oU{t:TypeId}(h:O5 P t=true)(w:World):(isAgg t).run P w=.ok false w:=by
 unfold O5 at h
 cases hu:P.underlying t with
|none=>simp[hu]at h
|some d=>cases d<;>simp_all[isAgg,run_underlying hu]
theorem KA{t:TypeId}(h:T5 P t=some k)(w:World):(isAgg t).run P w=.ok true w:=by
 unfold T5 at h
 cases hu:P.underlying t with
|none=>simp[hu]at h
|some d=>cases d<;>simp_all[isAgg,run_underlying hu]
theorem KB{t:TypeId}(h:T5 P t=some k):K2 P t=some k:=by
 unfold T5 at h
 cases hu:P.underlying t with
|none=>simp[hu]at h
|some d=>cases d<;>simp_all[K2]
theorem mI{t:TypeId}(h:K2 P t=some k)(w:World):(sizeOf t).run P w=.ok k w:=by
 unfold K2 at h
 cases hi:P.info? t with
|none=>simp[hi]at h
|some i=>simp[hi]at h;simp[sizeOf,typeInfo,hi,h]
theorem Df{b:Nat}{T:TypeId}{fr:Nat×Nat}(hb:w.heap[b]? =some (.cells C.toArray T fr))(k:Nat)(hk:o+k<=C.length):
  ∀i L0,(loadCellsFrom ⟨b,o,none⟩ i k L0).run P w=.ok (L0++((C.drop (o+i)).take k).toArray) w\/k+i+o > C.length:=by
 induction k with
|zero=>intro i L0;left;simp[loadCellsFrom]
|succ k ih=>
  intro i L0
  by_cases hlt:k+1+i+o > C.length
  ·exact .inr hlt
  left
  have dD:w.cell? ((⟨b,o,none⟩:Addr).add i)=some (C[o+i]'(by omega)):=by
   rw[iD];simp[World.cell?, hb]
   try rw[B6 (by omega)]
  rcases ih (by omega) (i+1) (L0.push (C[o+i]'(by omega))) with h|h
  ·simp only[loadCellsFrom,D0,run_load,dD,F6,h]
   congr 1
   have e1:C.drop (o+i)=C[o+i]'(by omega)::C.drop (o+i+1):=JD (by omega)
   rw[e1,List.take_succ_cons]
   apply U2
   simp[O7]
  omega
theorem AC{b:Nat}{T:TypeId}{fr:Nat×Nat}{t:TypeId}(hb:w.heap[b]? =some (.cells C.toArray T fr))(ht:T5 P t=some k)(hk:o+k<=C.length):
  (Instr.loadAt t (.pointer (some ⟨b,o,none⟩))).run P w=.ok (.agg ((C.drop o).take k).toArray) w:=by
 have h1:=KA ht w
 have h2:=mI (KB ht) w
 rcases Df (P:=P) hb k hk 0 #[] with h|h
 ·simp[Instr.loadAt,Instr.sureAddr,loadVar,h1,h2,loadCells,h]
 omega
theorem sS{a:Addr}{t:TypeId}{v:Value}(ht:O5 P t=true)(hv:w.cell? a=some v):
  (Instr.loadAt t (.pointer (some a))).run P w=.ok v w:=by
 simp[Instr.loadAt,Instr.sureAddr,loadVar,oU ht w,hv]
theorem KC{b:Nat}{T:TypeId}{t:TypeId}{v:Value}(hb:w.heap[b]? =some (.cells C.toArray T (0,0)))
  (hs:K2 P t=some v.cells.size)(hk:o+v.cells.size<=C.length)(h1:v.cells.all (·.oneCell')=true):
  (Instr.storeAt t (.pointer (some ⟨b,o,none⟩)) v).run P w=.ok () (w.setRow b (C.take o++v.cells.toList++C.drop (o+v.cells.size)).toArray):=by
 have h2:=mI hs w
 have h3:=run_storeCells_at (P:=P) b o T v.cells.toList 0 C.toArray w hb (by simpa using hk) (fun x hx=>by
  rw[Array.mem_toList_iff]at hx
  obtain⟨i,hi,rfl⟩:=Array.getElem_of_mem hx
  exact(Array.all_eq_true.1 h1) i hi)
 simp only[t8,u6]at h3
 simp only[H9]at h3 ⊢
 simp[Instr.storeAt,Instr.sureAddr,storeVar,h2,h3]
section
variable {n:Nat} {σ:Nat->Value} {K:Act->World->Prop}
 {ty:TypeId} {pos:String} {aft:Array Edge} {g:Option (Nat×Bool)} {d:Nat} {t yt:TypeId} {x y:Operand} {S:List Nat} {L:List Ch}
def zeroCells(P:Program)(t:TypeId):Option (List Value):=(P.info? t).bind fun i=>i.zero.map fun v=>v.cells.toList
theorem PT(h:zeroCells P t=some C)(w:World):∃z,(zeroValue t).run P w=.ok z w/\z.cells=C.toArray:=by
 unfold zeroCells at h
 cases hi:P.info? t with
|none=>simp[hi]at h
|some i=>
  cases hz:i.zero with
 |none=>simp[hi,hz]at h
 |some z=>simp[hi,hz]at h;exact⟨z,by simp[zeroValue,typeInfo,hi,hz],by rw[<-h]⟩
theorem W9(H:Hp w0 w S L)(hz:zeroCells P t=some C)
  (h:∀b w',Hp w0 w' S (L++[.blk b C t])->w0.heap.size<=b->K (mk n (up σ d (.pointer (some ⟨b,0,none⟩)))) w'):
  Oper.wp P ⟨some d,.alloc t,ty,pos,aft,g⟩ (mk n σ) w K Q:=by
 obtain⟨z,rE,jY⟩:=PT hz w
 refine G5 (v:=.pointer (some ⟨w.heap.size,0,none⟩)) (w':=w.alloc (.cells C.toArray t)) ?_ (h _ _ (H.alloc C t) H.size)
 simp[execOp,Instr.alloc,rE,newVar,newRow,jY]
theorem AD{v:Value}(H:Hp w0 w S L)(hx:ev n σ x=v)
  (h:∀b w',Hp w0 w' S (L++[.blk b v.cells.toList t])->w0.heap.size<=b->K (mk n (up σ d (.pointer (some ⟨b,0,none⟩)))) w'):
  Oper.wp P ⟨some d,.box t x,ty,pos,aft,g⟩ (mk n σ) w K Q:=by
 refine G5 (v:=.pointer (some ⟨w.heap.size,0,none⟩)) (w':=w.alloc (.cells v.cells t)) ?_ (h _ _ (by simpa using H.alloc v.cells.toList t) H.size)
 simp[execOp,Instr.box,hx,newVar,newRow]
def aU(P:Program)(t:TypeId)(i:Nat):Option Nat:=
 match P.underlying t with
|some (.struct fs)=>(fs[i]?).bind fun f=>(P.info? f.type).bind fun j=>if j.size=0 then none else some f.offset
|_=>none
theorem oV{b:Nat}(hx:ev n σ x=.pointer (some ⟨b,o,none⟩))(hf:aU P t i=some k)(h:K (mk n (up σ d (.pointer (some ⟨b,o+k,none⟩)))) w):
  Oper.wp P ⟨some d,.fieldAddr t x i,ty,pos,aft,g⟩ (mk n σ) w K Q:=by
 refine G5 ?_ h
 unfold aU at hf
 cases hu:P.underlying t with
|none=>simp[hu]at hf
|some ds=>
  cases ds<;>simp only[hu]at hf<;>try (cases hf)
  rename_i fs
  cases Y8:fs[i]? with
 |none=>simp[Y8]at hf
 |some f=>
   cases hj:P.info? f.type with
  |none=>simp[Y8,hj]at hf
  |some j=>
    simp only[Y8,hj,DA]at hf
    split at hf
    ·cases hf
    cases hf
    rename_i G3
    simp[execOp,hx,Instr.fieldAt,run_underlying hu,Y8,Instr.sureAddr,fieldPlace,sizeOf,typeInfo,hj,G3,iD]
def V0(P:Program)(t:TypeId):Option (Nat×Nat):=
 match P.underlying t with
|some (.array len e)=>(P.info? e).map fun i=>(len,i.size)
|_=>none
def a7(P:Program)(t:TypeId):Option Nat:=
 match P.underlying t with
|some (.slice e)=>(P.info? e).map fun i=>i.size
|_=>none
theorem cI{b sz:Nat}{k:IntKind}{i:Int}(hx:ev n σ x=.pointer (some ⟨b,o,none⟩))(hy:ev n σ y=.int k i)(ha:V0 P t=some (len,sz))(h0:0<=i)(h1:i<len)
  (h:K (mk n (up σ d (.pointer (some ⟨b,o+i.toNat*sz,none⟩)))) w):Oper.wp P ⟨some d,.indexAddr t x y,ty,pos,aft,g⟩ (mk n σ) w K Q:=by
 refine G5 ?_ h
 unfold V0 at ha
 cases hu:P.underlying t with
|none=>simp[hu]at ha
|some ds=>
  cases ds<;>simp only[hu]at ha<;>try (cases ha)
  rename_i l e
  cases hj:P.info? e with
 |none=>simp[hj]at ha
 |some j=>
   simp only[hj,X8,F2,G6]at ha
   obtain⟨rfl,rfl⟩:=ha
   simp[execOp,hx,hy,Instr.indexAt,run_underlying hu,asIntOf,Instr.sureAddr,h0,h1,sizeOf,typeInfo,hj,iD]
theorem Dg{a:Option Addr}{sz:Nat}{k:IntKind}{i:Int}(hx:ev n σ x=.slice a len cap)(hy:ev n σ y=.int k i)(ha:a7 P t=some sz)(h0:0<=i)(h1:i<len)
  (hs:0<sz)(hr:RdS w a vs)(hl:len*sz<=vs.length)
  (h:∀b o,a=some ⟨b,o,none⟩->K (mk n (up σ d (.pointer (some ⟨b,o+i.toNat*sz,none⟩)))) w):Oper.wp P ⟨some d,.indexAddr t x y,ty,pos,aft,g⟩ (mk n σ) w K Q:=by
 rcases hr with rfl|⟨b,o,C,T,fr,rfl,hb,hc⟩
 ·simp only[M3,Nat.le_zero,Nat.mul_eq_zero]at hl;omega
 refine G5 ?_ (h b o rfl)
 unfold a7 at ha
 cases hu:P.underlying t with
|none=>simp[hu]at ha
|some ds=>
  cases ds<;>simp only[hu]at ha<;>try (cases ha)
  rename_i e
  cases hj:P.info? e with
 |none=>simp[hj]at ha
 |some j=>
   simp only[hj,X8,F2]at ha
   subst ha
   simp[execOp,hx,hy,Instr.indexAt,run_underlying hu,asIntOf,h0,h1,sizeOf,typeInfo,hj,iD]
theorem x4{b:Nat}{T:TypeId}{v:Value}(H:Hp w0 w S L)(hi:L[i]? =some (.blk b C T))(hx:ev n σ x=.pointer (some ⟨b,o,none⟩))(ht:O5 P t=true)(hv:C[o]? =some v)
  (h:K (mk n (up σ d v)) w):Oper.wp P ⟨some d,.load t x,ty,pos,aft,g⟩ (mk n σ) w K Q:=
 G5 (by
  have hc:w.cell? ⟨b,o,none⟩=some v:=by simp[World.cell?, H.blk hi,hv]
  simp[execOp,hx,sS ht hc]) h
theorem DZ{b:Nat}{T:TypeId}(H:Hp w0 w S L)(hi:L[i]? =some (.blk b C T))(hx:ev n σ x=.pointer (some ⟨b,o,none⟩))(ht:T5 P t=some k)(hk:o+k<=C.length)
  (h:K (mk n (up σ d (.agg ((C.drop o).take k).toArray))) w):Oper.wp P ⟨some d,.load t x,ty,pos,aft,g⟩ (mk n σ) w K Q:=
 G5 (by simp[execOp,hx,AC (H.blk hi) ht hk]) h
theorem Dh{b:Nat}{a:Option Addr}{v:Value}(hr:RdS w a vs)(ha:a=some ⟨b,o,none⟩)(hx:ev n σ x=.pointer (some ⟨b,o+i,none⟩))(ht:O5 P t=true)(hv:vs[i]? =some v)
  (h:K (mk n (up σ d v)) w):Oper.wp P ⟨some d,.load t x,ty,pos,aft,g⟩ (mk n σ) w K Q:=
 G5 (by
  obtain⟨b',o',lJ,hc⟩:=hr.cell hv
  rw[ha]at lJ;cases lJ
  simp[execOp,hx,sS ht hc]) h
end
section
variable {n:Nat} {σ:Nat->Value} {K:Act->World->Prop}
 {ty:TypeId} {pos:String} {aft:Array Edge} {g:Option (Nat×Bool)} {d:Nat} {t yt:TypeId} {x y z:Operand} {S:List Nat} {L:List Ch}
theorem EA(C:List Value)(o:Nat)(v:Value)(h:o<C.length):C.take o++[v]++C.drop (o+1)=C.set o v:=by
 apply V7
 intro i
 rw[H9,List.getElem?_set]
 by_cases h1:i<o
 ·rw[N5 (by simp;omega),eJ h1,if_neg (by omega)]
 rw[L7 (by simp;omega)]
 by_cases h2:o=i
 ·subst h2;simp[h,jU (Nat.le_of_lt h)]
 rw[if_neg h2,L7 (by simp;omega)]
 simp only[F7,jU (Nat.le_of_lt h),u7,Q5]
 congr 1;omega
theorem oW{b:Nat}{T:TypeId}{v:Value}(H:Hp w0 w S L)(hi:L[i]? =some (.blk b C T))(hx:ev n σ x=.pointer (some ⟨b,o,none⟩))(hy:ev n σ y=v)
  (hs:K2 P t=some 1)(h1:v.oneCell'=true)(ho:o<C.length)
  (h:∀w',Hp w0 w' S (L.set i (.blk b (C.set o v) T))->K (mk n σ) w'):Oper.wp P ⟨none,.store t x y,ty,pos,aft,g⟩ (mk n σ) w K Q:=by
 have hc:v.cells= #[v]:=by cases v<;>simp_all[Value.cells,Value.oneCell']
 have hr:=KC (P:=P) (t:=t) (v:=v) (H.blk hi) (o:=o) (by rw[hc];exact hs) (by rw[hc];simp;omega) (by rw[hc];simpa using h1)
 rw[hc]at hr
 have e:C.take o++(#[v]:Array Value).toList++C.drop (o+(#[v]:Array Value).size)=C.set o v:=EA C o v ho
 rw[e]at hr
 refine DP (w':=w.setRow b (C.set o v).toArray) (by simp[execOp,hx,hy,hr]) (h _ ?_);exact H.row hi rfl rfl (H.blk hi) fun w' hw=>hw
theorem Di{b:Nat}{T:TypeId}{vs:Array Value}(H:Hp w0 w S L)(hi:L[i]? =some (.blk b C T))(hx:ev n σ x=.pointer (some ⟨b,o,none⟩))(hy:ev n σ y=.agg vs)
  (hs:K2 P t=some vs.size)(h1:vs.all (·.oneCell')=true)(ho:o+vs.size<=C.length)
  (h:∀w',Hp w0 w' S (L.set i (.blk b (C.take o++vs.toList++C.drop (o+vs.size)) T))->K (mk n σ) w'):Oper.wp P ⟨none,.store t x y,ty,pos,aft,g⟩ (mk n σ) w K Q:=by
 have hr:=KC (P:=P) (t:=t) (v:=.agg vs) (H.blk hi) (o:=o) hs ho h1
 refine DP (w':=w.setRow b (C.take o++vs.toList++C.drop (o+vs.size)).toArray) (by simp only[execOp,hx,hy,D0,hr];simp[Value.cells]) (h _ ?_);exact H.row hi rfl rfl (H.blk hi) fun w' hw=>hw
theorem iY{b:Nat}{T:TypeId}{vs:Array Value}(H:Hp w0 w S L)(hi:L[i]? =some (.blk b C T))(hx:ev n σ x=.pointer (some ⟨b,0,none⟩))(hy:ev n σ y=.agg vs)
  (hs:K2 P t=some vs.size)(h1:vs.all (·.oneCell')=true)(ho:vs.size=C.length)
  (h:∀w',Hp w0 w' S (L.set i (.blk b vs.toList T))->K (mk n σ) w'):Oper.wp P ⟨none,.store t x y,ty,pos,aft,g⟩ (mk n σ) w K Q:=by
 refine Di H hi hx hy hs h1 (by omega) fun w' H'=>h w' ?_
 simpa [ho] using H'
theorem Dj{b:Nat}{a:Option Nat}{T:TypeId}{sz:Nat}{v:Value}(H:Hp w0 w S L)(hi:L[i]? =some (.own a len cap xs T sz))(hx:ev n σ x=.pointer (some ⟨b,o,none⟩))(ha:hd a=some ⟨b,0,none⟩)
  (hy:ev n σ y=v)(hs:K2 P t=some 1)(h1:v.oneCell'=true)(ho:o<xs.length)
  (h:∀w',Hp w0 w' S (L.set i (.own a len cap (xs.set o v) T sz))->K (mk n σ) w'):Oper.wp P ⟨none,.store t x y,ty,pos,aft,g⟩ (mk n σ) w K Q:=by
 cases a with
|none=>cases ha
|some b'=>
  simp only[hd,X8,F2,Addr.mk.injEq,and_true]at ha
  subst ha
  obtain⟨q1,q2,q3,rest,hw,q5⟩:=H.has _ (E3 hi)
  have hc:v.cells= #[v]:=by cases v<;>simp_all[Value.cells,Value.oneCell']
  have iI:o<(xs++rest).length:=by simp;omega
  have hr:=KC (P:=P) (t:=t) (v:=v) hw (o:=o) (by rw[hc];exact hs) (by rw[hc];simp at iI ⊢;omega) (by rw[hc];simpa using h1)
  rw[hc]at hr
  have e:(xs++rest).take o++(#[v]:Array Value).toList++(xs++rest).drop (o+(#[v]:Array Value).size)=xs.set o v++rest:=by
   rw[show(xs++rest).take o++(#[v]:Array Value).toList++(xs++rest).drop (o+(#[v]:Array Value).size)=(xs++rest).set o v from EA _ o v iI,List.set_append_left _ _ ho]
  rw[e]at hr
  refine DP (w':=w.setRow b' (xs.set o v++rest).toArray) (by simp[execOp,hx,hy,hr]) (h _ ?_);exact H.row hi rfl rfl hw fun w' iJ=>⟨by simpa using q1,q2,q3,rest,iJ,by simpa using q5⟩
theorem Hp.conv{c c':Ch}(H:Hp w0 w S L)(hi:L[i]? =some c)(hk:c'.key=c.key)(M4:c.ok w->c'.ok w):Hp w0 w S (L.set i c'):=
 H.turn hi (M4 (H.has _ (E3 hi))) (fun b hb=>.inl (by rw[<-hk];exact hb)) rfl rfl rfl (B2 _) (fun _ _ _=>rfl)
theorem Hp.toOwn{b sz:Nat}{T:TypeId}(H:Hp w0 w S L)(hi:L[i]? =some (.blk b C T))(hl:len<=cap)(hm:cap<=maxLen)(hc:C.length=cap*sz):
  Hp w0 w S (L.set i (.own (some b) len cap (C.take (len*sz)) T sz)):=
 H.conv hi rfl fun M4=>⟨by rw[F7,hc];exact jU (G2 sz hl),hl,hm,C.drop (len*sz),by rw[uY];exact M4,by rw[uY];exact hc⟩
def sa(a:Option Addr)(l cap sz:Nat):Option Addr:=if cap=l then a else a.map (·.add (l*sz))
theorem RdS.sa{a:Option Addr}(h:RdS w a vs)(l cap sz:Nat)(hl:vs.length<=cap*sz):RdS w (sa a l cap sz) (vs.drop (l*sz)):=by
 unfold Go.Proofs.YtgohjiegkhfpmaaGreatDoor.sa
 split
 ·rename_i e;subst e
  rw[eK hl];exact .nil _ _
 exact h.drop _
theorem PU(a:Option Addr)(cap sz:Nat):sa a 0 cap sz=a:=by
 unfold sa
 split
 ·rfl
 cases a<;>simp[Addr.add]
theorem Apart.sa{a:Option Addr}(h:Apart a S)(l cap sz:Nat):Apart (sa a l cap sz) S:=by
 unfold Go.Proofs.YtgohjiegkhfpmaaGreatDoor.sa
 split
 ·exact h
 intro x hx
 cases a with
 |none=>cases hx
 |some a=>
  simp only[X8,F2]at hx
  subst hx
  have:=h a rfl
  unfold Addr.add;split<;>exact this
theorem EB{s:Bool}{k:IntKind}{l:Int}(h0:0<=l)(h1:l<=len)(w:World):(Instr.sliceBounds s len cap (some (.int k l)) none none).run P w=.ok (l.toNat,len,cap) w:=by
 simp[Instr.sliceBounds,run_sliceBound,h0,h1]
theorem PV{s:Bool}{k:IntKind}{h:Int}(h0:0<=h)(h1:h<=cap)(w:World):(Instr.sliceBounds s len cap none (some (.int k h)) none).run P w=.ok (0,h.toNat,cap) w:=by
 simp[Instr.sliceBounds,run_sliceBound,h0,h1]
theorem Dk{s:Bool}{k:IntKind}{l h:Int}(h0:0<=l)(h1:l<=h)(h2:h<=cap)(w:World):(Instr.sliceBounds s len cap (some (.int k l)) (some (.int k' h)) none).run P w=.ok (l.toNat,h.toNat,cap) w:=by
 have eh:(h.toNat:Int)=h:=Int.toNat_of_nonneg (by omega)
 simp[Instr.sliceBounds,run_sliceBound,h0,h1,h2,eh,(by omega:0<=h)]
theorem EC{s:Bool}(w:World):(Instr.sliceBounds s len cap none none none).run P w=.ok (0,len,cap) w:=by simp[Instr.sliceBounds]
theorem Dl{lo:Option Operand}{a:Option Addr}{sz l h:Nat}{lv mv:Option Value}(hx:ev n σ x=.slice a len cap)(ht:a7 P t=some sz)
  (hl:lo.map (ev n σ)=lv)(hh:hi.map (ev n σ)=hv)(hm:mx.map (ev n σ)=mv)(hb:∀w,(Instr.sliceBounds true len cap lv hv mv).run P w=.ok (l,h,m) w)
  (hk:K (mk n (up σ d (.slice (sa a l m sz) (h-l) (m-l)))) w):Oper.wp P ⟨some d,.slice t x lo hi mx,ty,pos,aft,g⟩ (mk n σ) w K Q:=by
 refine G5 ?_ hk
 unfold a7 at ht
 cases hu:P.underlying t with
|none=>simp[hu]at ht
|some ds=>
  cases ds<;>simp only[hu]at ht<;>try (cases ht)
  rename_i e
  cases hj:P.info? e with
 |none=>simp[hj]at ht
 |some j=>
   simp only[hj,X8,F2]at ht
   subst ht
   simp[execOp,hx,hl,hh,hm,Instr.sliceAt,Instr.slice,run_underlying hu,hb,sizeOf,typeInfo,hj,sa]
theorem Dm{lo:Option Operand}{b sz l h:Nat}{lv mv:Option Value}(hx:ev n σ x=.pointer (some ⟨b,o,none⟩))(ht:V0 P t=some (len,sz))
  (hl:lo.map (ev n σ)=lv)(hh:hi.map (ev n σ)=hv)(hm:mx.map (ev n σ)=mv)(hb:∀w,(Instr.sliceBounds false len len lv hv mv).run P w=.ok (l,h,m) w)
  (hk:K (mk n (up σ d (.slice (sa (some ⟨b,o,none⟩) l m sz) (h-l) (m-l)))) w):Oper.wp P ⟨some d,.slice t x lo hi mx,ty,pos,aft,g⟩ (mk n σ) w K Q:=by
 refine G5 ?_ hk
 unfold V0 at ht
 cases hu:P.underlying t with
|none=>simp[hu]at ht
|some ds=>
  cases ds<;>simp only[hu]at ht<;>try (cases ht)
  rename_i n' e
  cases hj:P.info? e with
 |none=>simp[hj]at ht
 |some j=>
   simp only[hj,X8,F2,G6]at ht
   obtain⟨rfl,rfl⟩:=ht
   by_cases iL:m=l
   ·simp[execOp,hx,hl,hh,hm,Instr.sliceAt,Instr.sureAddr,run_underlying hu,hb,sizeOf,typeInfo,hj,sa,iL]
   simp[execOp,hx,hl,hh,hm,Instr.sliceAt,Instr.sureAddr,run_underlying hu,hb,sizeOf,typeInfo,hj,sa,iL]
theorem Dn{b l sz:Nat}(h:l<cap):sa (some ⟨b,o,none⟩) l cap sz=some ⟨b,o+l*sz,none⟩:=by
 unfold sa
 rw[if_neg (by omega),X8,iD]
theorem Dp{lo:Option Operand}{b sz l h:Nat}{lv mv:Option Value}(hx:ev n σ x=.pointer (some ⟨b,o,none⟩))(ht:V0 P t=some (len,sz))
  (hl:lo.map (ev n σ)=lv)(hh:hi.map (ev n σ)=hv)(hm:mx.map (ev n σ)=mv)(hb:∀w,(Instr.sliceBounds false len len lv hv mv).run P w=.ok (l,h,m) w)(hlm:l<m)
  (hk:K (mk n (up σ d (.slice (some ⟨b,o+l*sz,none⟩) (h-l) (m-l)))) w):Oper.wp P ⟨some d,.slice t x lo hi mx,ty,pos,aft,g⟩ (mk n σ) w K Q:=
 Dm hx ht hl hh hm hb (by rw[Dn hlm];exact hk)
theorem cJ{b:Builtin}{s:Sem Value}{v:Value}{dst:Option Tmp}{vs:Array Value}
  (ha:args.map (ev n σ)=vs)
  (hb:∀cs,builtin b W0 ty cs vs=(do pure (.value (<-s))))(hs:s.run P w=.ok v w'):
  (execOp (ev n σ) ⟨dst,.call ⟨.builtin b,args,W0⟩,ty,pos,aft,g⟩).run P w=.ok (.value v) w':=by
 simp[execOp,resolve,invoke,ha,hb,hs]
theorem PW{a:Option Addr}{sz:Nat}(ht:a7 P t=some sz)(hx:ev n σ x=.slice a len cap)(h:K (mk n (up σ d (VI len))) w):
  Oper.wp P ⟨some d,.call ⟨.builtin .len, #[x], #[t]⟩,ty,pos,aft,g⟩ (mk n σ) w K Q:=
 G5 (cJ (s:=Builtin.len_ #[t] ty #[.slice a len cap]) (vs:= #[.slice a len cap]) (by simp[hx]) (fun _=>rfl) (by
  unfold a7 at ht
  cases hu:P.underlying t with
 |none=>simp[hu]at ht
 |some ds=>
   cases ds<;>simp only[hu]at ht<;>try (cases ht)
   simp[Builtin.len_,run_underlying hu,goInt])) h
theorem Dq{ts:Array TypeId}{t:TypeId}{k:IntKind}{x y:Int}:(Builtin.max_ ts t #[.int k x,.int k y]).run P w=.ok (.int k (if y > x then y else x)) w:=by
 simp[Builtin.max_,Builtin.max2]
structure SlTy (P:Program) (t e:TypeId) (sz bytes:Nat):Prop where
 und:P.underlying t=some (.slice e)
 row:∃i z,P.info? e=some i/\i.zero=some z/\i.size=sz/\i.bytes=bytes/\z.cells.size=sz
theorem SlTy.mk'{t e sz bytes:Nat}(h1:P.underlying t=some (.slice e))(h2:((P.info? e).bind fun i=>i.zero.map fun z=>(i.size,i.bytes,z.cells.size))=some (sz,bytes,sz)):SlTy P t e sz bytes:=by
 refine⟨h1,?_⟩
 cases hi:P.info? e with
|none=>simp[hi]at h2
|some i=>
  cases hz:i.zero with
 |none=>simp[hi,hz]at h2
 |some z=>simp[hi,hz]at h2;exact⟨i,z,rfl,hz,h2.1,h2.2.1,h2.2.2⟩
theorem RdS.src{sz:Nat}{tx e':TypeId}{a:Option Addr}{vs:List Value}(hk:P.underlying tx=some (.slice e'))(hr:RdS w a vs)(hl:vs.length=len*sz)(hs:0<sz)(h1:∀u∈vs,u.oneCell'=true):
  Src P sz tx (.slice a len cap) len vs w:=by
 by_cases h0:vs=[]
 ·subst h0
  have:len=0:=by rcases Nat.mul_eq_zero.1 hl.symm with h|h<;>omega
  subst this
  cases a with
 |none=>exact Src.ofNil w hk cap
 |some a=>exact Src.ofSlice w hk a 0 cap [] (by simp) (by simp) (by simp)
 rcases hr with h|⟨b,o,C,T,fr,rfl,hb,hc⟩
 ·exact absurd h h0
 exact Src.ofSlice w hk _ len cap vs hl (fun j u hj=>by rw[iD];simp[World.cell?, hb,hc j u hj]) h1
theorem KD{a b by_:Nat}(h:a*by_<=140737488355328)(hb:b<a):Builtin.nextslicecap a b*by_<=281474976710656:=
 J2 (G2 _ (nextslicecap_le hb)) (by rw[Nat.mul_assoc];omega)
theorem PX{a:Option Nat}{sz bytes:Nat}{tx:TypeId}{v:Value}(H:Hp w0 w S L)(hi:L[i]? =some (.own a len cap xs e sz))
  (hT:SlTy P t e sz bytes)(hx:ev n σ x=.slice (hd a) len cap)(hy:ev n σ y=v)(J9:Src P sz tx v m news w)(G3:0<sz)
  (D7:len+m<=4611686018427387903)(hbytes:(len+m)*bytes<=140737488355328)
  (h:∀a' M5 w',Hp w0 w' S (L.set i (.own a' (len+m) M5 (xs++news) e sz))->K (mk n (up σ d (.slice (hd a') (len+m) M5))) w'):
  Oper.wp P ⟨some d,.call ⟨.builtin .append, #[x,y], #[t,tx]⟩,ty,pos,aft,g⟩ (mk n σ) w K Q:=by
 obtain⟨T3,zv,dE,hzv,K9,fS,eM⟩:=hT.row
 have M4:=H.has _ (E3 hi)
 have hargs:(#[x,y]:Array Operand).map (ev n σ)= #[.slice (hd a) len cap,v]:=by simp[hx,hy]
 have fT:xs.length=len*sz:=by
  cases a with
 |none=>obtain⟨rfl,rfl,rfl⟩:=M4;simp
 |some b=>exact M4.1
 by_cases j0:len+m<=cap
 ·cases a with
 |none=>
   obtain⟨rfl,rfl,rfl⟩:=M4
   have hm:m=0:=by omega
   subst hm
   have fU:news=[]:=l4.1 (by rw[J9.newsLen];simp)
   subst fU
   refine G5 (cJ (s:=Builtin.append_ #[t,tx] ty #[.slice none 0 0,v]) (vs:= #[.slice none 0 0,v]) (v:=.slice none 0 0) hargs (fun _=>rfl) ?_) (h none 0 w ?_)
   ·rcases J9.kind with⟨e',hk⟩|hk<;>simp[Builtin.append_,run_underlying hT.und,run_underlying hk,sizeOf,typeInfo,dE,J9.len,K9,J9.cells]
   have:L.set i (.own none (0+0) 0 ([]++[]) e sz)=L:=by
    apply V7
    intro j
    by_cases dC:i=j
    ·subst dC
     have hlt:=(N1.1 hi).1
     rw[List.getElem?_set_self hlt,hi];rfl
    rw[List.getElem?_set_ne dC]
   rw[this];exact H
 |some b=>
   obtain⟨_,B1,N2,rest,hw,v8⟩:=M4
   have y7:=run_append_room_src (P:=P) w t tx ty e T3 hT.und dE b 0 len cap v m news (by rw[K9];exact J9) j0
    (fun j hj=>by
     have:0+len*T3.size+j<(xs++rest).length:=by
      rw[v8,K9,J5]
      have:=J9.newsLen
      have h2:(len+m)*sz<=cap*sz:=G2 _ j0
      rw[U3]at h2;omega
     simp only[World.cell?, hw]
     rw[fQ,B6 this];simp)
    (fun j hj=>by simp[World.frozen?, hw])
   have lK:=J9.newsLen
   have Y9:len*sz+news.length<=(xs++rest).length:=by
    rw[v8,lK, <-U3];exact G2 _ j0
   have vL:w.setCells b (0+len*T3.size) news=w.setRow b (xs++news++rest.drop news.length).toArray:=by
    have h1:=run_storeCells_at (P:=P) b (0+len*T3.size) e news 0 (xs++rest).toArray w hw (by simp only[bO];rw[K9];omega) J9.one
    have h2:=run_storeCells_cells (P:=P) b (0+len*T3.size) news 0 w
     (fun j hj=>by
      have:0+len*T3.size+0+j<(xs++rest).length:=by rw[K9];omega
      simp only[World.cell?, hw]
      rw[fQ,B6 this];simp)
     (fun j hj=>by simp[World.frozen?, hw]) J9.one
    rw[h1]at h2
    simp only[Result.ok.injEq,true_and,t8,J5]at h2
    rw[J5, <-h2,K9]
    congr 2
    rw[show len*sz=xs.length from fT.symm]
    simp[List.take_append,uZ]
   rw[vL]at y7
   refine G5 (cJ (s:=Builtin.append_ #[t,tx] ty #[.slice (some ⟨b,0,none⟩) len cap,v]) (vs:= #[.slice (some ⟨b,0,none⟩) len cap,v]) hargs (fun _=>rfl) y7) (h (some b) cap _ ?_);refine H.row hi rfl rfl hw fun w' iJ=>⟨by rw[C6,fT,lK,U3],j0,N2,rest.drop news.length,iJ,?_⟩
   rw[<-v8];simp only[C6,K4]
   simp only[C6]at Y9 v8
   rw[fT]at *;omega
 have vM:(Builtin.firstCells T3.size len (.slice (hd a) len cap)).run P w.drew=.ok xs.toArray w.drew:=by
  cases a with
 |none=>obtain⟨rfl,rfl,rfl⟩:=M4;exact run_firstCells_none w.drew T3.size 0 0 0
 |some b=>
   obtain⟨h1,_,_,rest,hw,_⟩:=M4
   refine run_firstCells_some w.drew T3.size len ⟨b,0,none⟩ len cap xs (by rw[h1,K9]) fun j u hj=>?_
   rw[iD,World.cell?_drew]
   have hlt:j<xs.length:=(N1.1 hj).1
   simp[World.cell?, hw,N5 hlt,hj]
 have y7:=run_append_grow_src (P:=P) w t tx ty e T3 zv hT.und dE hzv (hd a) len cap xs vM v m news (by rw[K9];exact J9) (by omega) (by omega)
  (by rw[fS];exact KD hbytes (by omega))
 have hgc:=grownCap_ge w (len+m) cap e
 have hgm:=grownCap_le_maxLen w (len+m) cap e (by simp[maxLen];omega)
 generalize O9:grownCap w (len+m) cap e=cc at*
 refine G5 (cJ (s:=Builtin.append_ #[t,tx] ty #[.slice (hd a) len cap,v]) (vs:= #[.slice (hd a) len cap,v]) hargs (fun _=>rfl) y7) (h (some w.heap.size) cc _ ?_);have hL:(xs++news++(Builtin.zeroCells zv.cells (cc-(len+m))).toList).length=cc*sz:=by
  simp only[C6,u6,size_zeroCells,eM,fT,J9.newsLen]
  rw[<-U3, <-U3];congr 1;omega
 refine H.drew.turn hi (c':=.own (some w.heap.size) (len+m) cc (xs++news) e sz) ⟨by rw[C6,fT,J9.newsLen,U3],hgc,hgm,(Builtin.zeroCells zv.cells (cc-(len+m))).toList,?_,hL⟩
  (fun b hb=>.inr (by cases hb;exact B2 _)) rfl rfl rfl (by simp) (fun b hb _=>gG _ _ _ (by simp at hb ⊢;omega))
 have:=j7 w.drew (.cells ((xs++news).toArray++Builtin.zeroCells zv.cells (cc-(len+m))) e)
 simp only[World.size_drew]at this
 rw[this]
 congr 2
 apply U2
 simp
end
section
variable {n:Nat} {σ:Nat->Value} {K:Act->World->Prop}
 {ty:TypeId} {pos:String} {aft:Array Edge} {g:Option (Nat×Bool)} {d:Nat} {t yt:TypeId} {x y z:Operand} {S:List Nat} {L:List Ch}
theorem PY{bytes l:Nat}{k:IntKind}{li ci:Int}{zv:Value}(H:Hp w0 w S L)(hT:SlTy P t e 1 bytes)(hz:zeroCells P e=some [zv])(hx:ev n σ x=.int k li)(hy:ev n σ y=.int k' ci)
  (hl:li=(l:Int))(hc:ci=(c:Int))(hlc:l<=c)(hb:bytes*c<=281474976710656)(vO:c<=maxLen)
  (h:∀b w',Hp w0 w' S (L++[.blk b (replicate c zv) e])->w0.heap.size<=b->K (mk n (up σ d (.slice (some ⟨b,0,none⟩) l c))) w'):
  Oper.wp P ⟨some d,.makeSlice t x y,ty,pos,aft,g⟩ (mk n σ) w K Q:=by
 obtain⟨i,z0,hi,y8,hs,fS,eM⟩:=hT.row
 subst hl hc
 have hzc:z0.cells.toList=[zv]:=by simpa [zeroCells,hi,y8] using hz
 have hzc':z0.cells= #[zv]:=by apply U2;simpa using hzc
 have h63':(c:Int)<=9223372036854775807:=Int.ofNat_le.2 vO
 have hr:=run_make (P:=P) (w:=w) t e i z0 hT.und hi y8 k k' (l:Int) (c:Int) (by omega) (by omega) (by rw[fS];exact Int.ofNat_le.2 hb) h63'
 have e1:madeCells z0.cells ((c:Int).toNat*i.size)=(replicate c zv).toArray:=by
  rw[hzc',hs,l5,jT]
  apply U2
  exact toList_madeCells_one zv c
 rw[e1]at hr
 refine G5 (by simp only[execOp,hx,hy,D0,hr,F6,jT];rfl) (h w.heap.size _ (H.alloc _ e) H.size)
theorem KE{sz bytes:Nat}{cells:Array Value}(hT:SlTy P t e sz bytes)(hz:zeroCells P e=some zs)(hs:0<sz)(D7:len*sz<=16777216)(F3:Array (Nat×Value))
  (hf:Instr.fill (fun i=>some (i*sz,sz)) ((Array.range (len*sz)).map (zs.toArray[· % zs.toArray.size]!)) F3.toList=some cells):
  (Instr.buildSlice t len F3).run P w=.ok (.slice (some ⟨w.heap.size,0,none⟩) len len) (w.alloc (.cells cells e)):=by
 obtain⟨i,z0,hi,y8,G3,fS,eM⟩:=hT.row
 have hzc:z0.cells=zs.toArray:=by
  have:z0.cells.toList=zs:=by simpa [zeroCells,hi,y8] using hz
  apply U2;simpa using this
 have h1:(sizeOf e).run P w=.ok sz w:=mI (by simp[K2,hi,G3]) w
 have h2:(zeroValue e).run P w=.ok z0 w:=by simp[zeroValue,typeInfo,hi,y8]
 have hn:¬ (len*sz > 2 ^ 24):=by omega
 have fin:∀zz:Array Value,Instr.fill (fun i=>some (i*sz,sz)) ((Array.range (len*sz)).map (zz[· % zz.size]!)) F3.toList=some cells->
   (match Instr.fill (fun i=>some (i*sz,sz)) ((Array.range (len*sz)).map (zz[· % zz.size]!)) F3.toList with
   |some cells=>(do pure (.slice (some (<-newRow e cells)) len len):Sem Value)
   |_=>stuck "buildSlice: a part of the wrong size").run P w=.ok (.slice (some ⟨w.heap.size,0,none⟩) len len) (w.alloc (.cells cells e)):=by
  intro zz hzz
  rw[hzz]
  simp[newRow]
 unfold Instr.buildSlice
 rw[D0,run_underlying hT.und]
 simp only[F6]
 rw[D0,h1]
 simp only[F6]
 rw[if_neg hn]
 by_cases h0:len*sz=0
 ·have e1:∀zz:Array Value,(Array.range (len*sz)).map (zz[· % zz.size]!)= #[]:=fun zz=>by
   rw[h0];apply U2;simp
  rw[if_pos h0,D0,iE]
  simp only[F6]
  exact fin #[] (by rw[e1, <-e1 zs.toArray];exact hf)
 rw[if_neg h0,D0,h2]
 simp only[F6]
 rw[D0,iE]
 simp only[F6]
 exact fin z0.cells (by rw[hzc];exact hf)
theorem sU{sz bytes:Nat}{F3:Array (Nat×Operand)}{cells:Array Value}(H:Hp w0 w S L)(hT:SlTy P t e sz bytes)(hz:zeroCells P e=some zs)(hs:0<sz)
  (dF:W6 n σ F3.toList=pv)(D7:len*sz<=16777216)
  (hf:Instr.fill (fun i=>some (i*sz,sz)) ((Array.range (len*sz)).map (zs.toArray[· % zs.toArray.size]!)) pv=some cells)
  (h:∀b w',Hp w0 w' S (L++[.blk b cells.toList e])->w0.heap.size<=b->K (mk n (up σ d (.slice (some ⟨b,0,none⟩) len len))) w'):
  Oper.wp P ⟨some d,.buildSlice t len F3,ty,pos,aft,g⟩ (mk n σ) w K Q:=by
 have hp:(F3.map fun(i,x)=>(i,ev n σ x)).toList=pv:=by rw[<-dF,sJ,zJ]
 refine G5 (v:=.slice (some ⟨w.heap.size,0,none⟩) len len) (w':=w.alloc (.cells cells e)) ?_ (h _ _ (by simpa using H.alloc cells.toList e) H.size);have hr:=KE (P:=P) (w:=w) hT hz hs D7 (F3.map fun(i,x)=>(i,ev n σ x)) (by rw[hp];exact hf)
 simp only[execOp,D0,hr,F6]
 rfl
theorem Dr{F3:Array (Nat×Operand)}{cells:Array Value}
  (dF:W6 n σ F3.toList=pv)(hf:P.built t pv=some cells)
  (h:K (mk n (up σ d (.agg cells))) w):Oper.wp P ⟨some d,.build t F3,ty,pos,aft,g⟩ (mk n σ) w K Q:=by
 refine G5 ?_ h;have hp:(F3.map fun(i,x)=>(i,ev n σ x)).toList=pv:=by rw[<-dF,sJ,zJ]
 have:=run_build (P:=P) w t (F3.map fun(i,x)=>(i,ev n σ x)) cells (by rw[hp];exact hf)
 simp only[execOp,D0,this]
 simp
structure Bld (P:Program) (t:TypeId) (zs:Array Value) (places:Nat->Option (Nat×Nat)):Prop where
 eq:∀F3,P.built t F3=Instr.fill places zs F3
theorem Bld.arr{t:TypeId}{sz:Nat}(h1:V0 P t=some (len,sz))(h2:zeroCells P t=some zs):Bld P t zs.toArray fun i=>some (i*sz,sz):=by
 constructor
 intro F3
 unfold V0 at h1
 cases hu:P.underlying t with
|none=>simp[hu]at h1
|some ds=>
  cases ds<;>simp only[hu]at h1<;>try (cases h1)
  rename_i l e
  cases hj:P.info? e with
 |none=>simp[hj]at h1
 |some j=>
   simp only[hj,X8,F2,G6]at h1
   obtain⟨rfl,rfl⟩:=h1
   unfold zeroCells at h2
   cases hi:P.info? t with
  |none=>simp[hi]at h2
  |some i=>
    cases hz:i.zero with
   |none=>simp[hi,hz]at h2
   |some z=>
     simp[hi,hz]at h2
     have:z.cells=zs.toArray:=by apply U2;simpa using h2
     simp only[Program.built,hi,hu,hz,hj,this]
def oX(P:Program)(t:TypeId):Option (Array (Nat×Nat)):=
 match P.underlying t with
|some (.struct fs)=>(fs.toList.mapM fun f=>(P.info? f.type).map fun i=>(f.offset,i.size)).map (·.toArray)
|_=>none
theorem Bld.str{t:TypeId}{pl:Array (Nat×Nat)}(h1:oX P t=some pl)(h2:zeroCells P t=some zs):Bld P t zs.toArray fun i=>pl[i]? :=by
 constructor
 intro F3
 unfold oX at h1
 cases hu:P.underlying t with
|none=>simp[hu]at h1
|some ds=>
  cases ds<;>simp only[hu]at h1<;>try (cases h1)
  rename_i fs
  cases hm:fs.toList.mapM (fun f=>(P.info? f.type).map fun i=>(f.offset,i.size)) with
 |none=>simp[hm]at h1
 |some places=>
   simp only[hm,X8,F2]at h1
   subst h1
   unfold zeroCells at h2
   cases hi:P.info? t with
  |none=>simp[hi]at h2
  |some i=>
    cases hz:i.zero with
   |none=>simp[hi,hz]at h2
   |some z=>
     simp[hi,hz]at h2
     have:z.cells=zs.toArray:=by apply U2;simpa using h2
     simp only[Program.built,hi,hu,hz,hm,this]
theorem ED{F3:Array (Nat×Operand)}{zs:Array Value}{places:Nat->Option (Nat×Nat)}{cells:Array Value}(hB:Bld P t zs places)
  (dF:W6 n σ F3.toList=pv)(hf:Instr.fill places zs pv=some cells)
  (h:K (mk n (up σ d (.agg cells))) w):Oper.wp P ⟨some d,.build t F3,ty,pos,aft,g⟩ (mk n σ) w K Q:=
 Dr dF (by rw[hB.eq];exact hf) h
def en:Nat->List Value->List (Nat×Value)
|_,[]=>[]
|i,v::l=>(i,v)::en (i+1) l
theorem PZ:∀(vs A:List Value) (B:List Value),(∀v∈vs,v.oneCell'=true)->vs.length=B.length->Instr.fill (fun i=>some (i*1,1)) (A++B).toArray (en A.length vs)=some (A++vs).toArray
|[],A,B,_,hl=>by
  have:B=[]:=l4.1 (by simpa using hl.symm)
  subst this;simp[en,Instr.fill]
|v::vs,A,[],_,hl=>by simp at hl
|v::vs,A,b::B,h1,hl=>by
  have hv:=h1 v (by simp)
  have hc:v.cells= #[v]:=by cases v<;>simp_all[Value.cells,Value.oneCell']
  have ih:=PZ vs (A++[v]) B (fun u hu=>h1 u (by simp[hu])) (by simpa using hl)
  simp only[C6,u7,H9,List.singleton_append]at ih
  simp only[en,Instr.fill,hc,l5]
  rw[if_neg (by simp)]
  have e:(#[v]:Array Value).zipIdx= #[(v,0)]:=by simp[Array.zipIdx]
  rw[<-ih]
  congr 1
  ·funext i;rw[l5]
  rw[e]
  apply U2
  simp[List.set_append]
theorem QA(vs:List Value)(h1:vs.toArray.all (·.oneCell')=true)(hl:vs.length=zs.length):Instr.fill (fun i=>some (i*1,1)) zs.toArray (en 0 vs)=some vs.toArray:=by
 have:=PZ vs [] zs (by rw[nL]at h1;simpa using h1) hl
 simpa using this
theorem QB{b:Nat}{T e':TypeId}{sz dLen dCap sLen sCap:Nat}{a:Option Addr}{vs:List Value}{tx:TypeId}(H:Hp w0 w S L)(hi:L[i]? =some (.blk b C T))(hu:P.underlying t=some (.slice e))(hu':P.underlying tx=some (.slice e'))(hs:K2 P e=some sz)(G3:0<sz)
  (hx:ev n σ x=.slice (some ⟨b,o,none⟩) dLen dCap)(hy:ev n σ y=.slice a sLen sCap)(hr:RdS w a vs)(hl:vs.length=sLen*sz)(h1:∀u∈vs,u.oneCell'=true)(Y9:o+dLen*sz<=C.length)
  (h:∀w',Hp w0 w' S (L.set i (.blk b (C.take o++vs.take (min sLen dLen*sz)++C.drop (o+min sLen dLen*sz)) T))->K (mk n (up σ d (VI ((min sLen dLen:Nat):Int)))) w'):
  Oper.wp P ⟨some d,.call ⟨.builtin .copy, #[x,y], #[t,tx]⟩,ty,pos,aft,g⟩ (mk n σ) w K Q:=by
 have hmin:min sLen dLen*sz<=vs.length:=by rw[hl];exact G2 _ (Nat.min_le_left _ _)
 have hmin2:min sLen dLen*sz<=dLen*sz:=G2 _ (Nat.min_le_right _ _)
 have D7:(vs.take (min sLen dLen*sz)).length=min sLen dLen*sz:=by rw[F7];omega
 have I0:=run_storeCells_at (P:=P) b o T (vs.take (min sLen dLen*sz)) 0 C.toArray w (H.blk hi) (by rw[D7];simp;omega) (fun v hv=>h1 v (List.mem_of_mem_take hv))
 rw[D7]at I0
 simp only[t8]at I0
 have vM:(Builtin.firstCells sz (min sLen dLen) (.slice a sLen sCap)).run P w=.ok (vs.take (min sLen dLen*sz)).toArray w:=by
  have J9:Src P sz tx (.slice a (min sLen dLen) sCap) (min sLen dLen) (vs.take (min sLen dLen*sz)) w:=
   (hr.take _).src hu' D7 G3 (fun v hv=>h1 v (List.mem_of_mem_take hv))
  have:=J9.cells
  cases a<;>exact this
 have hsz':=mI hs w
 refine G5 (cJ (s:=Builtin.copy_ #[t,tx] ty #[.slice (some ⟨b,o,none⟩) dLen dCap,.slice a sLen sCap]) (vs:= #[.slice (some ⟨b,o,none⟩) dLen dCap,.slice a sLen sCap]) (v:=VI ((min sLen dLen:Nat):Int))
  (w':=w.setRow b (C.take o++vs.take (min sLen dLen*sz)++C.drop (o+min sLen dLen*sz)).toArray) (by simp[hx,hy]) (fun _=>rfl) ?_) (h _ (H.row hi rfl rfl (H.blk hi) fun w' hw=>hw))
 have hnat:Nat.min sLen dLen=min sLen dLen:=rfl
 simp only[H9]at I0 ⊢
 simp[Builtin.copy_,run_underlying hu,Builtin.lenOf,hsz',hnat,vM,I0,goInt]
theorem Ds{k:IntKind}{i:Int}{cs:Array Value}{v:Value}(hu:P.underlying t=some (.array len e))(hc:O5 P e=true)(G3:K2 P e=some 1)(hx:ev n σ x=.agg cs)(hy:ev n σ y=.int k i)(h0:0<=i)(h1:i<len)(hv:cs[i.toNat]? =some v)
  (h:K (mk n (up σ d v)) w):Oper.wp P ⟨some d,.index t x y,ty,pos,aft,g⟩ (mk n σ) w K Q:=
 G5 (by simp[execOp,hx,hy,Instr.index,asIntOf,run_underlying hu,h0,h1,mI G3,part,oU hc,hv]) h
theorem QC(he:P.underlying e=some (.int .u8))(dd:Nat)(a b:List UInt8)(U4:a.length=b.length)(w:World):
  ∀is:List Nat,(∀i∈is,i<a.length)->(Op.eqItems (dd+1) e 1 (a.map V8).toArray (b.map V8).toArray is).run P w=.ok (is.all fun i=>a[i]? == b[i]?) w:=by
 intro is
 induction is with
|nil=>intro _;simp[Op.eqItems]
|cons i is ih=>
  intro h
  have hi:=h i (by simp)
  have hca:(part e (a.map V8).toArray (i*1)).run P w=.ok (V8 (a[i]'hi)) w:=by
   have hct:O5 P e=true:=by simp[O5,he]
   simp[part,oU hct,hi]
  have hcb:(part e (b.map V8).toArray (i*1)).run P w=.ok (V8 (b[i]'(by omega))) w:=by
   have hct:O5 P e=true:=by simp[O5,he]
   simp[part,oU hct,show i<b.length by omega]
  have vP:(Op.equalIn (dd+1) e (V8 (a[i]'hi)) (V8 (b[i]'(by omega)))).run P w=.ok (a[i]'hi==b[i]'(by omega)) w:=by
   simp only[Op.equalIn,D0,run_underlying he,F6]
   simp
   rw[vA];simp only[beq_iff_eq]
   rw[<-DB];omega
  have h2:=ih (fun j hj=>h j (by simp[hj]))
  simp only[Op.eqItems,D0,hca,hcb,vP,F6]
  rw[vB,B6 hi,B6 (by omega:i<b.length)]
  by_cases hh:a[i]'hi=b[i]'(by omega)
  ·simp[hh,h2]
  simp[hh]
theorem Dt{a:Option Addr}(hu:P.underlying t=some (.pointer e))(hx:ev n σ x=.pointer a)(hy:ev n σ y=.pointer none)(h:K (mk n (up σ d (.bool a.isNone))) w):
  Oper.wp P ⟨some d,.binOp .eql t x y yt,ty,pos,aft,g⟩ (mk n σ) w K Q:=
 G5 (by
  have e1:(Op.equal t (.pointer a) (.pointer none)).run P w=.ok a.isNone w:=by
   unfold Op.equal Op.maxDepth Op.equalIn
   rw[D0,run_underlying hu]
   cases a<;>simp
  have e2:binOp .eql t (.pointer a) (.pointer none)=(do pure (.bool (<-Op.equal t (.pointer a) (.pointer none)))):=by cases a<;>rfl
  simp only[execOp,hx,hy,D0,e2]
  simp[eqGuard,e1]) h
theorem AE{R:Ending->World->Prop}{tt:Tmp}{rt:TypeId}{b:Nat}{T:TypeId}(hres:fn.results= #[.cell tt rt])(H:Hp w0 w S L)(hi:L[i]? =some (.blk b C T))(hv:ev n σ (.tmp tt)=.pointer (some ⟨b,0,none⟩))(hr:T5 P rt=some k)(hk:k=C.length)
  (hR:R (.returned (.agg C.toArray)) w):bodyPost P fn R .ret (mk n σ) w:=by
 refine⟨oT n σ,.agg C.toArray,?_,hR⟩
 have h1:=AC (P:=P) (o:=0) (H.blk hi) hr (by omega)
 simp only[Instr.loadAt,Instr.sureAddr,D0,iE,F6]at h1
 have h2:(mk n σ).tmps.getD tt undef=.pointer (some ⟨b,0,none⟩):=by rw[<-hv, <-sM]
 have h3:C.toArray=((C.drop 0).take k).toArray:=by simp[hk]
 rw[h3]
 simp only[results,hres]
 simp only[mk]at h2 ⊢
 simp[Array.mapM_eq_foldlM,asAddr,h1]
 rw[<-Array.getD_eq_getD_getElem?, h2]
 simp[h1]
theorem Du{id:Nat}{l:List Oper}{a:Act}(S':World->Prop)(hm:P.follows .mixedOrders=true)
  (h:wpAnyH P .any l.toArray Q S' l.length (Array.replicate l.length false) a w.drew):(Code.region id l.toArray true).wp P Q a w:=
 wp_region_held hm (by simpa using h)
end
section
variable {n:Nat} {σ:Nat->Value} {K:Act->World->Prop}
 {ty:TypeId} {pos:String} {aft:Array Edge} {g:Option (Nat×Bool)} {d:Nat} {t yt:TypeId} {x y z:Operand} {S:List Nat} {L:List Ch} {op:BinOp}
theorem L4{x:Operand}  :
  (execOp (ev n σ) ⟨some d,.move x,ty,pos,aft,g⟩).run P w=.ok (.value ((ev n σ x))) w:=
 (by simp[execOp])
theorem eT{x:Operand}  :
  (execOp (ev n σ) ⟨some d,.assign x,ty,pos,aft,g⟩).run P w=.ok (.value ((ev n σ x))) w:=
 (by simp[execOp])
theorem wY{c x y:Operand}{b:Bool}(hc:ev n σ c=.bool b)  :
  (execOp (ev n σ) ⟨some d,.pick c x y,ty,pos,aft,g⟩).run P w=.ok (.value ((bif b then ev n σ x else ev n σ y))) w:=
 (by cases b<;>simp[execOp,hc,asBool])
theorem cO{x:Operand}{vs:Array Value}{v:Value}(hx:ev n σ x=.tuple vs)(hv:vs[i]? =some v)  :
  (execOp (ev n σ) ⟨some d,.extract x i,ty,pos,aft,g⟩).run P w=.ok (.value (v)) w:=
 (by simp[execOp,hx,Instr.extract,hv])
theorem kN{x:Operand}{a:Addr}(hx:ev n σ x=.pointer (some a))  :
  (execOp (ev n σ) ⟨some d,.nilCheck x,ty,pos,aft,g⟩).run P w=.ok (.value ((.pointer (some a)))) w:=
 (by simp[execOp,hx])
theorem AF{x:Operand}{b:Bool}{t:TypeId}(hx:ev n σ x=.bool b)  :
  (execOp (ev n σ) ⟨some d,.unOp .not t x,ty,pos,aft,g⟩).run P w=.ok (.value ((.bool (!b)))) w:=
 (by simp[execOp,hx,Op.unary])
theorem D1{k:IntKind}{a b:Int}{v:Value}(hx:ev n σ x=.int k a)(hy:ev n σ y=.int k b)
  (hr:∀w:World,(binOp op t (.int k a) (.int k b)).run P w=.ok v w)  :
  (execOp (ev n σ) ⟨some d,.binOp op t x y yt,ty,pos,aft,g⟩).run P w=.ok (.value (v)) w:=
 (by
  have he:(eqGuard op t x y (.int k a) (.int k b)).run P w=.ok () w:=by
   unfold eqGuard
   cases op<;>simp
  simp[execOp,hx,hy,he,hr])
theorem oY{k yk:IntKind}{a b:Int}{v:Value}(hx:ev n σ x=.int k a)(hy:ev n σ y=.int yk b)(ho:op=.shl\/op=.shr)
  (hr:∀w:World,(Op.shift op k a yk b).run P w=.ok v w)  :
  (execOp (ev n σ) ⟨some d,.binOp op t x y yt,ty,pos,aft,g⟩).run P w=.ok (.value (v)) w:=
 (by
  rcases ho with rfl|rfl<;>simp[execOp,hx,hy,eqGuard,binOp,hr])
theorem KF{k:IntKind}{a:Int}{v:Value}{uo:UnOp}(hx:ev n σ x=.int k a)
  (hr:∀w:World,(Op.unary uo (.int k a)).run P w=.ok v w)  :
  (execOp (ev n σ) ⟨some d,.unOp uo t x,ty,pos,aft,g⟩).run P w=.ok (.value (v)) w:=
 (by simp[execOp,hx,hr])
theorem iZ{k:IntKind}{a:Int}{ds:TypeDesc}{v:Int}(hs:P.underlying t=some ds)(hd:P.underlying yt=some (.int k'))(hx:ev n σ x=.int k a)
  (hr:k'.wrap a=v)  :
  (execOp (ev n σ) ⟨some d,.convert t yt x,ty,pos,aft,g⟩).run P w=.ok (.value ((.int k' v))) w:=
 (by
  have h1:(underlying t).run P w=.ok ds w:=run_underlying hs w
  have h2:(underlying yt).run P w=.ok (.int k') w:=run_underlying hd w
  cases ds<;>simp[execOp,hx,convert,h1,h2,Conv.intToInt,hr])
theorem QD{a b:Bool}(hu:P.underlying t=some .bool)(hx:ev n σ x=.bool a)(hy:ev n σ y=.bool b)  :
  (execOp (ev n σ) ⟨some d,.binOp .eql t x y yt,ty,pos,aft,g⟩).run P w=.ok (.value ((.bool (a==b)))) w:=
 (by
  have e1:(Op.equal t (.bool a) (.bool b)).run P w=.ok (a==b) w:=run_equal_bool hu a b w
  have e2:binOp .eql t (.bool a) (.bool b)=(do pure (.bool (<-Op.equal t (.bool a) (.bool b)))):=rfl
  simp[execOp,hx,hy,eqGuard,e2,e1])
theorem Dv{a b:Bool}(hu:P.underlying t=some .bool)(hx:ev n σ x=.bool a)(hy:ev n σ y=.bool b)  :
  (execOp (ev n σ) ⟨some d,.binOp .neq t x y yt,ty,pos,aft,g⟩).run P w=.ok (.value ((.bool (!(a==b))))) w:=
 (by
  have e1:(Op.equal t (.bool a) (.bool b)).run P w=.ok (a==b) w:=run_equal_bool hu a b w
  have e2:binOp .neq t (.bool a) (.bool b)=(do pure (.bool (!(<-Op.equal t (.bool a) (.bool b))))):=rfl
  simp[execOp,hx,hy,eqGuard,e2,e1])
theorem QE{a b:ByteArray}{v:Value}(hx:ev n σ x=.string a)(hy:ev n σ y=.string b)
  (hr:∀w:World,(Op.stringOp op a b).run P w=.ok v w)(ho:op≠ .shl/\op≠ .shr)  :
  (execOp (ev n σ) ⟨some d,.binOp op t x y yt,ty,pos,aft,g⟩).run P w=.ok (.value (v)) w:=
 (by
  have he:(eqGuard op t x y (.string a) (.string b)).run P w=.ok () w:=by
   unfold eqGuard
   cases op<;>simp
  cases op<;>simp_all[execOp,binOp])
theorem eW{b:Nat}(hx:ev n σ x=.pointer (some ⟨b,o,none⟩))(hf:aU P t i=some k)  :
  (execOp (ev n σ) ⟨some d,.fieldAddr t x i,ty,pos,aft,g⟩).run P w=.ok (.value ((.pointer (some ⟨b,o+k,none⟩)))) w:=by
 unfold aU at hf
 cases hu:P.underlying t with
|none=>simp[hu]at hf
|some ds=>
  cases ds<;>simp only[hu]at hf<;>try (cases hf)
  rename_i fs
  cases Y8:fs[i]? with
 |none=>simp[Y8]at hf
 |some f=>
   cases hj:P.info? f.type with
  |none=>simp[Y8,hj]at hf
  |some j=>
    simp only[Y8,hj,DA]at hf
    split at hf
    ·cases hf
    cases hf
    rename_i G3
    simp[execOp,hx,Instr.fieldAt,run_underlying hu,Y8,Instr.sureAddr,fieldPlace,sizeOf,typeInfo,hj,G3,iD]
theorem T6{b sz:Nat}{k:IntKind}{i:Int}(hx:ev n σ x=.pointer (some ⟨b,o,none⟩))(hy:ev n σ y=.int k i)(ha:V0 P t=some (len,sz))(h0:0<=i)(h1:i<len)  :
  (execOp (ev n σ) ⟨some d,.indexAddr t x y,ty,pos,aft,g⟩).run P w=.ok (.value ((.pointer (some ⟨b,o+i.toNat*sz,none⟩)))) w:=by
 unfold V0 at ha
 cases hu:P.underlying t with
|none=>simp[hu]at ha
|some ds=>
  cases ds<;>simp only[hu]at ha<;>try (cases ha)
  rename_i l e
  cases hj:P.info? e with
 |none=>simp[hj]at ha
 |some j=>
   simp only[hj,X8,F2,G6]at ha
   obtain⟨rfl,rfl⟩:=ha
   simp[execOp,hx,hy,Instr.indexAt,run_underlying hu,asIntOf,Instr.sureAddr,h0,h1,sizeOf,typeInfo,hj,iD]
theorem Q9{b:Nat}{T:TypeId}{v:Value}(H:Hp w0 w S L)(hi:L[i]? =some (.blk b C T))(hx:ev n σ x=.pointer (some ⟨b,o,none⟩))(ht:O5 P t=true)(hv:C[o]? =some v)  :
  (execOp (ev n σ) ⟨some d,.load t x,ty,pos,aft,g⟩).run P w=.ok (.value (v)) w:=
 (by
  have hc:w.cell? ⟨b,o,none⟩=some v:=by simp[World.cell?, H.blk hi,hv]
  simp[execOp,hx,sS ht hc])
theorem KG{b:Nat}{T:TypeId}(H:Hp w0 w S L)(hi:L[i]? =some (.blk b C T))(hx:ev n σ x=.pointer (some ⟨b,o,none⟩))(ht:T5 P t=some k)(hk:o+k<=C.length)  :
  (execOp (ev n σ) ⟨some d,.load t x,ty,pos,aft,g⟩).run P w=.ok (.value ((.agg ((C.drop o).take k).toArray))) w:=
 (by simp[execOp,hx,AC (H.blk hi) ht hk])
theorem wZ{b:Nat}{a:Option Addr}{v:Value}(hr:RdS w a vs)(ha:a=some ⟨b,o,none⟩)(hx:ev n σ x=.pointer (some ⟨b,o+i,none⟩))(ht:O5 P t=true)(hv:vs[i]? =some v)  :
  (execOp (ev n σ) ⟨some d,.load t x,ty,pos,aft,g⟩).run P w=.ok (.value (v)) w:=
 (by
  obtain⟨b',o',lJ,hc⟩:=hr.cell hv
  rw[ha]at lJ;cases lJ
  simp[execOp,hx,sS ht hc])
theorem Dw{b:Nat}{a:Option Addr}(hr:RdS w a vs)(ha:a=some ⟨b,o,none⟩)(hx:ev n σ x=.pointer (some ⟨b,o+i,none⟩))(ht:T5 P t=some k)(lL:0<k)(hk:i+k<=vs.length)  :
  (execOp (ev n σ) ⟨some d,.load t x,ty,pos,aft,g⟩).run P w=.ok (.value ((.agg ((vs.drop i).take k).toArray))) w:=by
 rcases hr with rfl|⟨b',o',C,T,fr,lJ,hb,hc⟩
 ·simp at hk;omega
 rw[ha]at lJ;cases lJ
 have D7:o+vs.length<=C.size:=by
  have:=hc (vs.length-1) (vs[vs.length-1]'(by omega)) (B6 (by omega))
  have:=(Z4.1 this).1
  omega
 have e:=AC (P:=P) (t:=t) (k:=k) (b:=b) (o:=o+i) (C:=C.toList) (T:=T) (fr:=fr) (w:=w) (by simpa using hb) ht (by simp;omega)
 have e2:(C.toList.drop (o+i)).take k=(vs.drop i).take k:=by
  apply V7
  intro j
  by_cases hj:j<k
  ·rw[eJ hj,eJ hj,Q5,Q5,B6 (l:=vs) (by omega)]
   have:=hc (i+j) _ (B6 (by omega))
   simpa [O7] using this
  simp[t7,hj]
 rw[e2]at e
 simp[execOp,hx,e]
theorem KH{lo:Option Operand}{a:Option Addr}{sz l h:Nat}{lv mv:Option Value}(hx:ev n σ x=.slice a len cap)(ht:a7 P t=some sz)
  (hl:lo.map (ev n σ)=lv)(hh:hi.map (ev n σ)=hv)(hm:mx.map (ev n σ)=mv)(hb:∀w,(Instr.sliceBounds true len cap lv hv mv).run P w=.ok (l,h,m) w)  :
  (execOp (ev n σ) ⟨some d,.slice t x lo hi mx,ty,pos,aft,g⟩).run P w=.ok (.value ((.slice (sa a l m sz) (h-l) (m-l)))) w:=by
 unfold a7 at ht
 cases hu:P.underlying t with
|none=>simp[hu]at ht
|some ds=>
  cases ds<;>simp only[hu]at ht<;>try (cases ht)
  rename_i e
  cases hj:P.info? e with
 |none=>simp[hj]at ht
 |some j=>
   simp only[hj,X8,F2]at ht
   subst ht
   simp[execOp,hx,hl,hh,hm,Instr.sliceAt,Instr.slice,run_underlying hu,hb,sizeOf,typeInfo,hj,sa]
theorem EE{lo:Option Operand}{b sz l h:Nat}{lv mv:Option Value}(hx:ev n σ x=.pointer (some ⟨b,o,none⟩))(ht:V0 P t=some (len,sz))
  (hl:lo.map (ev n σ)=lv)(hh:hi.map (ev n σ)=hv)(hm:mx.map (ev n σ)=mv)(hb:∀w,(Instr.sliceBounds false len len lv hv mv).run P w=.ok (l,h,m) w)  :
  (execOp (ev n σ) ⟨some d,.slice t x lo hi mx,ty,pos,aft,g⟩).run P w=.ok (.value ((.slice (sa (some ⟨b,o,none⟩) l m sz) (h-l) (m-l)))) w:=by
 unfold V0 at ht
 cases hu:P.underlying t with
|none=>simp[hu]at ht
|some ds=>
  cases ds<;>simp only[hu]at ht<;>try (cases ht)
  rename_i n' e
  cases hj:P.info? e with
 |none=>simp[hj]at ht
 |some j=>
   simp only[hj,X8,F2,G6]at ht
   obtain⟨rfl,rfl⟩:=ht
   by_cases iL:m=l
   ·simp[execOp,hx,hl,hh,hm,Instr.sliceAt,Instr.sureAddr,run_underlying hu,hb,sizeOf,typeInfo,hj,sa,iL]
   simp[execOp,hx,hl,hh,hm,Instr.sliceAt,Instr.sureAddr,run_underlying hu,hb,sizeOf,typeInfo,hj,sa,iL]
theorem Dx{lo:Option Operand}{s:ByteArray}{l h:Nat}{lv:Option Value}(hu:P.underlying t=some .string)(hx:ev n σ x=.string s)
  (hl:lo.map (ev n σ)=lv)(hh:hi.map (ev n σ)=hv)(hb:∀w,(Instr.sliceBounds false s.size s.size lv hv none).run P w=.ok (l,h,m) w)  :
  (execOp (ev n σ) ⟨some d,.slice t x lo hi none,ty,pos,aft,g⟩).run P w=.ok (.value ((.string (s.extract l h)))) w:=
 (by simp[execOp,hx,hl,hh,Instr.sliceAt,Instr.slice,run_underlying hu,hb])
theorem aC{a:Option Addr}{sz:Nat}(ht:a7 P t=some sz)(hx:ev n σ x=.slice a len cap)  :
  (execOp (ev n σ) ⟨some d,.call ⟨.builtin .len, #[x], #[t]⟩,ty,pos,aft,g⟩).run P w=.ok (.value ((VI len))) w:=
 (cJ (s:=Builtin.len_ #[t] ty #[.slice a len cap]) (vs:= #[.slice a len cap]) (by simp[hx]) (fun _=>rfl) (by
  unfold a7 at ht
  cases hu:P.underlying t with
 |none=>simp[hu]at ht
 |some ds=>
   cases ds<;>simp only[hu]at ht<;>try (cases ht)
   simp[Builtin.len_,run_underlying hu,goInt]))
theorem Dy{s:ByteArray}(hu:P.underlying t=some .string)(hx:ev n σ x=.string s)  :
  (execOp (ev n σ) ⟨some d,.call ⟨.builtin .len, #[x], #[t]⟩,ty,pos,aft,g⟩).run P w=.ok (.value ((VI s.size))) w:=
 (cJ (s:=Builtin.len_ #[t] ty #[.string s]) (vs:= #[.string s]) (by simp[hx]) (fun _=>rfl) (by
   simp[Builtin.len_,run_underlying hu,goInt]))
theorem Dz{k:IntKind}{a b:Int}(hx:ev n σ x=.int k a)(hy:ev n σ y=.int k b)  :
  (execOp (ev n σ) ⟨some d,.call ⟨.builtin .min, #[x,y],W0⟩,ty,pos,aft,g⟩).run P w=.ok (.value ((.int k (if b<a then b else a)))) w:=
 (cJ (s:=Builtin.min_ W0 ty #[.int k a,.int k b]) (vs:= #[.int k a,.int k b]) (by simp[hx,hy]) (fun _=>rfl) (run_min_int2 _ W0 ty k k a b))
theorem Ea{k:IntKind}{a b:Int}(hx:ev n σ x=.int k a)(hy:ev n σ y=.int k b)  :
  (execOp (ev n σ) ⟨some d,.call ⟨.builtin .max, #[x,y],W0⟩,ty,pos,aft,g⟩).run P w=.ok (.value ((.int k (if a<b then b else a)))) w:=
 (cJ (s:=Builtin.max_ W0 ty #[.int k a,.int k b]) (vs:= #[.int k a,.int k b]) (by simp[hx,hy]) (fun _=>rfl) Dq)
theorem KI{F3:Array (Nat×Operand)}{cells:Array Value}
  (dF:W6 n σ F3.toList=pv)(hf:P.built t pv=some cells)  :
  (execOp (ev n σ) ⟨some d,.build t F3,ty,pos,aft,g⟩).run P w=.ok (.value ((.agg cells))) w:=by
 have hp:(F3.map fun(i,x)=>(i,ev n σ x)).toList=pv:=by rw[<-dF,sJ,zJ]
 have:=run_build (P:=P) w t (F3.map fun(i,x)=>(i,ev n σ x)) cells (by rw[hp];exact hf)
 simp only[execOp,D0,this]
 simp
theorem Eb{a:Option Addr}{l:List UInt8}(hs:P.underlying t=some (.slice e))(he:P.underlying e=some (.int .u8))(hd:P.underlying yt=some .string)
  (hx:ev n σ x=.slice a len cap)(hr:RdS w a (l.map V8))(hl:l.length=len)  :
  (execOp (ev n σ) ⟨some d,.convert t yt x,ty,pos,aft,g⟩).run P w=.ok (.value ((.string ⟨l.toArray⟩))) w:=by
 subst hl
 exact(by
  simp only[execOp,D0,hx]
  cases a with
 |none=>
   have:l=[]:=by rcases hr with h|⟨_,_,_,_,_,h,_⟩<;>simp_all
   subst this
   rw[run_convert_bytes_string w t yt e none _ cap hs he hd]
   simp[Conv.bytesToString]
   rfl
 |some ad=>
   rw[run_convert_bytes_back w t yt e ad cap l hs he hd (fun j hj=>by
    obtain⟨b,o,ha,hc⟩:=hr.cell (i:=j) (v:=V8 l[j]) (by simp[hj])
    cases ha
    rw[iD];exact hc)]
   simp)
theorem Ec{s:ByteArray}{k:IntKind}{i:Int}{u:UInt8}(hu:P.underlying t=some .string)(hx:ev n σ x=.string s)(hy:ev n σ y=.int k i)(h0:0<=i)(hv:s.data.toList[i.toNat]? =some u)  :
  (execOp (ev n σ) ⟨some d,.index t x y,ty,pos,aft,g⟩).run P w=.ok (.value ((V8 u))) w:=by
 have hlt:i.toNat<s.size:=by
  have:=(N1.1 hv).1
  simpa using this
 have e:s[i.toNat]? =some u:=by
  rw[getElem?_pos s i.toNat hlt]
  have hh:i.toNat<s.data.toList.length:=by simpa using hlt
  rw[B6 hh]at hv
  rw[<-hv];rfl
 simp[execOp,hx,hy,Instr.index,asIntOf,run_underlying hu,h0,e]
theorem Ed{cs:Array Value}{v:Value}{fs:Array Field}{f:Field}(hu:P.underlying t=some (.struct fs))(hf:fs[i]? =some f)(hc:O5 P f.type=true)(hx:ev n σ x=.agg cs)(hv:cs[f.offset]? =some v)  :
  (execOp (ev n σ) ⟨some d,.field t x i,ty,pos,aft,g⟩).run P w=.ok (.value (v)) w:=
 (by simp[execOp,hx,Instr.field,run_underlying hu,hf,asAgg,part,oU hc,hv])
theorem Ee{a:Option Addr}(hu:P.underlying t=some (.array k e))(hx:ev n σ x=.slice a len cap)(hk:k<=len)  :
  (execOp (ev n σ) ⟨some d,.sliceToArrayPointer t x,ty,pos,aft,g⟩).run P w=.ok (.value ((.pointer a))) w:=
 (by simp[execOp,hx,run_arrayAt (P:=P) (w:=w) t e k a len cap hu hk])
theorem EF{a:Option Addr}{b sz:Nat}{k:IntKind}{i:Int}(hx:ev n σ x=.slice a len cap)(hy:ev n σ y=.int k i)(ha:a7 P t=some sz)(hb:a=some ⟨b,o,none⟩)(h0:0<=i)(h1:i<len):
  (execOp (ev n σ) ⟨some d,.indexAddr t x y,ty,pos,aft,g⟩).run P w=.ok (.value (.pointer (some ⟨b,o+i.toNat*sz,none⟩))) w:=by
 subst hb
 unfold a7 at ha
 cases hu:P.underlying t with
|none=>simp[hu]at ha
|some ds=>
  cases ds<;>simp only[hu]at ha<;>try (cases ha)
  rename_i e
  cases hj:P.info? e with
 |none=>simp[hj]at ha
 |some j=>
   simp only[hj,X8,F2]at ha
   subst ha
   simp[execOp,hx,hy,Instr.indexAt,run_underlying hu,asIntOf,h0,h1,sizeOf,typeInfo,hj,iD]
variable {S':World->Prop} {listed:Array Bool} {dst:Option Tmp} {oo:Op}
theorem Ef(i:Nat){v:Value}(hi:ops[i]? =some ⟨some d,oo,ty,pos,aft,none⟩)(hs:Region.noSelect ops=true)(hf:Region.free .any ops listed i=true)(hr:(Region.ready .any ops listed).contains i=true)
  (hQ:∀c a w,Q (.panic c) (a.put (some d) v) w->Q (.panic c) a w)
  (hy:∀w,S' w->(execOp (ev n σ) ⟨some d,oo,ty,pos,aft,none⟩).run P w=.ok (.value v) w)(hS:S' w)
  (h:wpAnyH P .any ops Q S' fuel (listed.setIfInBounds i true) (mk n (up σ d v)) w):wpAnyH P .any ops Q S' (fuel+1) listed (mk n σ) w:=
 wpAnyH_take (v:=v) hi hs hf hr hQ (.inl ⟨rfl,fun w hw=>by rw[W7];exact hy w hw⟩) hS (by show wpAnyH P .any ops Q S' fuel _ ((mk n σ).put (some d) v) w;rw[eR];exact h)
theorem KJ(i:Nat){a:Act}(hi:ops[i]? =some ⟨dst,oo,ty,pos,aft,none⟩)(hr:Region.ready .any ops listed=[i])
  (h:Oper.wp P ⟨dst,oo,ty,pos,aft,none⟩ a w (fun a' w'=>S' w'/\wpAnyH P .any ops Q S' fuel (listed.setIfInBounds i true) a' w') Q):wpAnyH P .any ops Q S' (fuel+1) listed a w:=
 wpAnyH_all hr (by simp) (by
  simp only[O8,forall_eq]
  unfold wpOp
  simp only[hi]
  rw[if_pos (by simp[Region.wanted])]
  exact .inl h)
theorem QF{a:Act}(hr:Region.ready .any ops listed=[])(h:Q .normal a w):wpAnyH P .any ops Q S' fuel listed a w:=wpAnyH_done hr h fuel
theorem Eh(h:∀G:Nat->Array Bool->(Nat->Value)->World->Prop,(∀f l τ w,G f l τ w↔wpAnyH P .any ops Q S' f l (mk n τ) w)->G fuel listed σ w):wpAnyH P .any ops Q S' fuel listed (mk n σ) w:=
 (h (fun f l τ w=>wpAnyH P .any ops Q S' f l (mk n τ) w) (fun _ _ _ _=>Iff.rfl))
theorem AG{G:Nat->Array Bool->(Nat->Value)->World->Prop}(hG:∀f l τ w,G f l τ w↔wpAnyH P .any ops Q S' f l (mk n τ) w){G4:List (Nat×Value)}(h:∀τ,G fuel listed (o7 τ G4) w)(hp:fits σ G4):
  wpAnyH P .any ops Q S' fuel listed (mk n σ) w:=by
 have:=(hG _ _ _ _).1 (h σ)
 rwa [sK σ _ hp]at this
theorem Ei{G:Nat->Array Bool->(Nat->Value)->World->Prop}{G4:List (Nat×Value)}(h:∀τ,G fuel listed (o7 τ G4) w)(hp:fits σ G4):G fuel listed σ w:=by
 have:=h σ
 rwa [sK σ _ hp]at this
theorem Ej{a:Act}(rs:List Nat)(hr:Region.ready .any ops listed=rs)(D5:rs≠[])
  (h:∀i∈rs,wpOp P ops Q i (fun a' w'=>S' w'/\wpAnyH P .any ops Q S' fuel (listed.setIfInBounds i true) a' w') a w):wpAnyH P .any ops Q S' (fuel+1) listed a w:=wpAnyH_all hr D5 h
theorem xA(i:Nat){a:Act}(hi:ops[i]? =some ⟨dst,oo,ty,pos,aft,none⟩)(h:Oper.wp P ⟨dst,oo,ty,pos,aft,none⟩ a w K Q):wpOp P ops Q i K a w:=by
 unfold wpOp
 simp only[hi]
 rw[if_pos (by simp[Region.wanted])]
 exact .inl h
theorem Hp.perm{L':List Ch}(h:Hp w0 w S L)(hp:L.Perm L'):Hp w0 w S L':=
 ⟨h.os,h.tape,h.output,h.size,h.frame,fun c hc=>h.has c (hp.mem_iff.2 hc),fun c hc=>h.fresh c (hp.mem_iff.2 hc),
  (hp.pairwise_iff (fun {_ _} hxy b hb hx=>hxy b hx hb)).1 h.nd⟩
theorem QG(A B:List Ch)(c:Ch):(A++B++[c]).Perm (A++c::B):=by
 rw[H9]
 exact List.Perm.append_left A (PH c B)
theorem sV{id:Nat}{a:Act}{l:List Oper}(hm:P.follows .mixedOrders=true)(hB:Region.lexB .any l.toArray=true)
  (h:wpStill P l.toArray w.drew (fun a'=>Q .normal a' w.drew) l a):(Code.region id l.toArray true).wp P Q a w:=wp_region_still_lit hm hB h
theorem KK{id:Nat}{a:Act}{l:List Oper}(k:Nat)(hm:P.follows .mixedOrders=true)(hB:Region.lexTailB .any l.toArray k=true)
  (h:wpStill P l.toArray w.drew (fun a'=>wpList P l.toArray Q (l.drop k) a' w.drew) (l.take k) a):(Code.region id l.toArray true).wp P Q a w:=wp_region_still_tail k hm hB h
variable {Qs:Act->Prop} {rest:List Oper}
theorem A7{v:Value}(hy:(execOp (ev n σ) ⟨some d,oo,ty,pos,aft,none⟩).run P w=.ok (.value v) w)(h:wpStill P ops w Qs rest (mk n (up σ d v))):
  wpStill P ops w Qs (⟨some d,oo,ty,pos,aft,none⟩::rest) (mk n σ):=by
 unfold wpStill
 rw[if_pos (by simp[Region.wanted])]
 unfold Oper.still
 rw[W7,hy]
 exact⟨rfl,by show wpStill P ops w Qs rest ((mk n σ).put (some d) v);rw[eR];exact h⟩
theorem kP{a:Act}(h:Qs a):wpStill P ops w Qs [] a:=h
def Ret(P:Program)(f:FuncId)(vs:List Value)(w:World)(R:Value->World->Prop):Prop:=Calls P f vs.toArray w fun e w'=>∃v,e=.returned v/\R v w'
theorem Ret.mono{f:FuncId}{R R':Value->World->Prop}(h:Ret P f vs w R)(hr:∀v w',R v w'->R' v w'):Ret P f vs w R':=
 x9 h fun _ w' ⟨v,he,hv⟩=>⟨v,he,hr v w' hv⟩
theorem N4{f:FuncId}{fn:Func}{args:Array Operand}{vs:List Value}{R:Value->World->Prop}(hf:P.funcs[f]? =some fn)(hb:fn.body.isSome=true)(fR:(fn.name == "runtime.NumGoroutine")=false)
  (ha:sI n σ args.toList=vs)(hc:Ret P f vs w R)(h:∀v w',R v w'->K (mk n (up σ d v)) w'):
  Oper.wp P ⟨some d,.call ⟨.value (.func f),args,W0⟩,ty,pos,aft,g⟩ (mk n σ) w K Q:=
 Cr hf hb fR (vs:=vs.toArray) (by apply U2;rw[<-ha,zW];simp) (x9 hc fun e w' ⟨v,he,hv⟩=>by subst he;exact h v w' hv)
theorem oZ{f:FuncId}{fn:Func}{args:Array Operand}{vs:List Value}{v:Value}(hf:P.funcs[f]? =some fn)(hb:fn.body.isSome=true)(fR:(fn.name == "runtime.NumGoroutine")=false)
  (ha:sI n σ args.toList=vs)(hc:Ret P f vs w fun x w'=>x=v/\w'=w)(h:wpStill P ops w Qs rest (mk n (up σ d v))):
  wpStill P ops w Qs (⟨some d,.call ⟨.value (.func f),args,W0⟩,ty,pos,aft,none⟩::rest) (mk n σ):=by
 unfold wpStill
 rw[if_pos (by simp[Region.wanted])]
 unfold Oper.still
 have hn:fn.body≠none:=by cases hh:fn.body<;>simp_all
 have K3:fn.name≠ "runtime.NumGoroutine" :=by intro e;simp[e]at fR
 have lJ:args.map (ev n σ)=vs.toArray:=by apply U2;rw[<-ha,zW];simp
 have:(execOp (mk n σ).eval ⟨some d,.call ⟨.value (.func f),args,W0⟩,ty,pos,aft,none⟩).run P w=.ok (.enter f vs.toArray) w:=by
  rw[W7]
  simp[execOp,resolve,ev,Deferred.ofValue,invoke,callFunc,hf,K3,hn,lJ]
 rw[this]
 refine⟨rfl,v,x9 hc fun e w' ⟨x,he,hx,hw⟩=>⟨by rw[he,hx],hw⟩,?_⟩
 show wpStill P ops w Qs rest ((mk n σ).put (some d) v)
 rw[eR];exact h
theorem T7{f:FuncId}{fn:Func}{c:Code}{args:List Value}{R:Value->World->Prop}{n:Nat}
  (hf:P.funcs[f]? =some fn)(hb:fn.body=some c)(hn:fn.ntmps=n)(B1:args.length<=n)
  (h:c.wp P (bodyPost P fn fun e w'=>∃v,e=.returned v/\R v w') (mk n (fun t=>args.getD t undef)) w):Ret P f args w R:=
 JM hf hb hn B1 h
end
section
variable {n:Nat} {σ:Nat->Value}
end
theorem oM{p:Prop}(h:p:=by omega):p:=h
theorem bF{p:Prop} [Decidable p](h:¬ p):Value.bool (decide p)=Value.bool false:=congrArg Value.bool (decide_eq_false h)
theorem bT{p:Prop} [Decidable p](h:p):Value.bool (decide p)=Value.bool true:=congrArg Value.bool (decide_eq_true h)
theorem B8{K G:Prop}(k:K)(h:K->G:=by intro k;exact A3 (G5 L4 k)):G:=h k
theorem aZ{K G:Prop}(k:K)(h:K->G:=by intro k;exact A3 (G5 eT k)):G:=h k
theorem eN{K G:Prop}(k:K)(h:K->G:=by intro k;first|exact JN k|exact zX k):G:=h k
theorem rG{K G:Prop}(k:K)(h:K->G:=by intro k;(repeat refine D8 ?_);exact DM k):G:=h k
theorem o8{K G:Prop}(k:K)(h:K->G:=by intro k;refine iV ?_;(try dsimp only[Exit.then,Exit.inBlock]);exact k):G:=h k
theorem eZ{K G:Prop}(k:K)(h:K->G:=by intro k;(try simp only[Exit.then,Exit.inBlock, ↓reduceIte]);exact JQ k):G:=h k
theorem qN{K G:Prop}(k:K)(h:K->G:=by intro k;(repeat refine D8 ?_);exact cH rfl k):G:=h k
theorem qY{K G:Prop}(k:K)(h:K->G:=by intro k;(repeat refine D8 ?_);exact cG rfl k):G:=h k
theorem qB{K G:Prop}(k:K)(h:K->G:=by intro k;(repeat refine D8 ?_);exact PO k):G:=h k
section
variable {n:Nat} {σ:Nat->Value} {ty:TypeId} {pos:String} {aft:Array Edge} {d:Nat} {S':World->Prop} {listed:Array Bool} {oo:Op}
theorem lV{rest:List Oper}{v:Value}(hr:(execOp (ev n σ) ⟨some d,oo,ty,pos,aft,none⟩).run P w=.ok (.value v) w)(h:wpList P ops Q rest (mk n (up σ d v)) w):wpList P ops Q (⟨some d,oo,ty,pos,aft,none⟩::rest) (mk n σ) w:=A3 (G5 hr h)
theorem eX(i:Nat){v:Value}(hi:ops[i]? =some ⟨some d,oo,ty,pos,aft,none⟩)(hr:∀w,S' w->(execOp (ev n σ) ⟨some d,oo,ty,pos,aft,none⟩).run P w=.ok (.value v) w)(hS:S' w)(h:wpAnyH P .any ops Q S' fuel (listed.setIfInBounds i true) (mk n (up σ d v)) w)
  (h1:Region.noSelect ops=true:=by kernel_rfl)(h2:Region.free .any ops listed i=true:=by kernel_rfl)(h3:(Region.ready .any ops listed).contains i=true:=by kernel_rfl)(hq:∀c (a:Act) w,Q (.panic c) (a.put (some d) v) w->Q (.panic c) a w:=by exact fun _ _ _ h=>h):
  wpAnyH P .any ops Q S' (fuel+1) listed (mk n σ) w:=Ef i hi h1 h2 h3 hq hr hS h
end
theorem mixed:Tryz.prog.follows .mixedOrders=true:=by kernel_rfl
theorem EG:O5 Tryz.prog 4=true:=by kernel_rfl
theorem Ek:K2 Tryz.prog 4=some 1:=by kernel_rfl
theorem pA:O5 Tryz.prog 5=true:=by kernel_rfl
theorem xB:K2 Tryz.prog 5=some 1:=by kernel_rfl
theorem pC:zeroCells Tryz.prog 5=some [Value.int .u8 0]:=by kernel_rfl
theorem aV:T5 Tryz.prog 36=some 32:=by kernel_rfl
theorem jC:K2 Tryz.prog 36=some 32:=by kernel_rfl
theorem aW:zeroCells Tryz.prog 36=some (replicate 32 (Value.int .u8 0)):=by kernel_rfl
theorem sW:V0 Tryz.prog 36=some (32,1):=by kernel_rfl
theorem EH:O5 Tryz.prog 37=true:=by kernel_rfl
theorem El:K2 Tryz.prog 37=some 1:=by kernel_rfl
theorem EI:O5 Tryz.prog 45=true:=by kernel_rfl
theorem KL:zeroCells Tryz.prog 45=some [Value.slice none 0 0]:=by kernel_rfl
theorem aX:a7 Tryz.prog 45=some 1:=by kernel_rfl
theorem eY:SlTy Tryz.prog 45 5 1 1:=.mk' (by kernel_rfl) (by kernel_rfl)
theorem EJ:a7 Tryz.prog 69=some 1:=by kernel_rfl
theorem KM:SlTy Tryz.prog 69 45 1 24:=.mk' (by kernel_rfl) (by kernel_rfl)
theorem QH:a7 Tryz.prog 153=some 35:=by kernel_rfl
theorem Em:T5 Tryz.prog 156=some 35:=by kernel_rfl
theorem En:K2 Tryz.prog 156=some 35:=by kernel_rfl
theorem Eo:zeroCells Tryz.prog 156=some ([Value.string .empty]++[Value.int .i64 0]++(replicate 32 (Value.int .u8 0))++[Value.int .i64 0]):=by kernel_rfl
theorem Ep:aU Tryz.prog 156 2=some 2:=by kernel_rfl
theorem AH:O5 Tryz.prog 181=true:=by kernel_rfl
theorem QI:K2 Tryz.prog 181=some 1:=by kernel_rfl
theorem Er:zeroCells Tryz.prog 181=some [Value.slice none 0 0]:=by kernel_rfl
theorem AI:a7 Tryz.prog 181=some 32:=by kernel_rfl
theorem pD:SlTy Tryz.prog 181 36 32 32:=.mk' (by kernel_rfl) (by kernel_rfl)
theorem QJ:a7 Tryz.prog 184=some 33:=by kernel_rfl
theorem Es:O5 Tryz.prog 201=true:=by kernel_rfl
theorem Et:T5 Tryz.prog 234=some 33:=by kernel_rfl
theorem Eu:K2 Tryz.prog 234=some 33:=by kernel_rfl
theorem Ew:zeroCells Tryz.prog 234=some ((replicate 32 (Value.int .u8 0))++[Value.slice none 0 0]):=by kernel_rfl
theorem QK:aU Tryz.prog 234 0=some 0:=by kernel_rfl
theorem Ex:aU Tryz.prog 234 1=some 32:=by kernel_rfl
theorem KN:O5 Tryz.prog 241=true:=by kernel_rfl
theorem N7:O5 Tryz.prog 247=true:=by kernel_rfl
theorem EK:K2 Tryz.prog 247=some 1:=by kernel_rfl
theorem QL:T5 Tryz.prog 248=some 8:=by kernel_rfl
theorem QM:K2 Tryz.prog 248=some 8:=by kernel_rfl
theorem QN:zeroCells Tryz.prog 248=some (replicate 8 (Value.int .u32 0)):=by kernel_rfl
theorem R8:V0 Tryz.prog 248=some (8,1):=by kernel_rfl
theorem QO:Bld Tryz.prog 248 ((replicate 8 (Value.int .u32 0))).toArray (fun i=>some (i*1,1)):=Bld.arr R8 QN
theorem AJ:V0 Tryz.prog 249=some (64,1):=by kernel_rfl
theorem Ey:T5 Tryz.prog 251=some 74:=by kernel_rfl
theorem Ez:K2 Tryz.prog 251=some 74:=by kernel_rfl
theorem QP:zeroCells Tryz.prog 251=some ([Value.bool false]++(replicate 8 (Value.int .u32 0))++(replicate 64 (Value.int .u8 0))++[Value.int .u64 0]):=by kernel_rfl
theorem Fa:aU Tryz.prog 251 0=some 0:=by kernel_rfl
theorem EL:aU Tryz.prog 251 1=some 1:=by kernel_rfl
theorem QQ:aU Tryz.prog 251 2=some 9:=by kernel_rfl
theorem AK:aU Tryz.prog 251 3=some 73:=by kernel_rfl
theorem Fb:oX Tryz.prog 251=some #[(0,1),(1,8),(9,64),(73,1)]:=by kernel_rfl
theorem Fc:Bld Tryz.prog 251 (([Value.bool false]++(replicate 8 (Value.int .u32 0))++(replicate 64 (Value.int .u8 0))++[Value.int .u64 0])).toArray (fun i=>(#[(0,1),(1,8),(9,64),(73,1)]:Array (Nat×Nat))[i]?):=Bld.str Fb QP
theorem Fd:T5 Tryz.prog 262=some 2:=by kernel_rfl
theorem QR:K2 Tryz.prog 262=some 2:=by kernel_rfl
theorem KO:zeroCells Tryz.prog 262=some ([Value.slice none 0 0]++[Value.bool false]):=by kernel_rfl
theorem Fe:aU Tryz.prog 262 0=some 0:=by kernel_rfl
theorem QS:aU Tryz.prog 262 1=some 1:=by kernel_rfl
theorem Ff:oX Tryz.prog 262=some #[(0,1),(1,1)]:=by kernel_rfl
theorem Fg:Bld Tryz.prog 262 (([Value.slice none 0 0]++[Value.bool false])).toArray (fun i=>(#[(0,1),(1,1)]:Array (Nat×Nat))[i]?):=Bld.str Ff KO
theorem KP:T5 Tryz.prog 265=some 64:=by kernel_rfl
theorem EM:K2 Tryz.prog 265=some 64:=by kernel_rfl
theorem xC:zeroCells Tryz.prog 265=some (replicate 64 (Value.int .u32 0)):=by kernel_rfl
theorem mJ:V0 Tryz.prog 265=some (64,1):=by kernel_rfl
theorem Fh:Bld Tryz.prog 265 ((replicate 64 (Value.int .u32 0))).toArray (fun i=>some (i*1,1)):=Bld.arr mJ xC
def gI(x:UInt32)(k:Nat):UInt32:=(x<<<UInt32.ofNat k)|||(x>>>UInt32.ofNat (32-k))
def KQ(b:List UInt8)(j:Nat):UInt32:=
 (((b.getD (4*j) 0).toUInt32<<<UInt32.ofNat 24)|||((b.getD (4*j+1) 0).toUInt32<<<UInt32.ofNat 16)|||((b.getD (4*j+2) 0).toUInt32<<<UInt32.ofNat 8))|||(b.getD (4*j+3) 0).toUInt32
def pE(b:List UInt8):Nat->List UInt32
|0=>[]
|j+1=>pE b j++[KQ b j]
def QT(x:UInt32):UInt32:=(gI x 25^^^gI x 14)^^^(x>>>UInt32.ofNat 3)
def QU(y:UInt32):UInt32:=(gI y 15^^^gI y 13)^^^(y>>>UInt32.ofNat 10)
def EN(l:List UInt32):UInt32:=
 (l.getD (l.length-16) 0+QT (l.getD (l.length-15) 0)+l.getD (l.length-7) 0)+QU (l.getD (l.length-2) 0)
def R2(b:List UInt8):Nat->List UInt32
|0=>pE b 16
|k+1=>R2 b k++[EN (R2 b k)]
structure S8 where
 a:UInt32
 b:UInt32
 c:UInt32
 d:UInt32
 e:UInt32
 f:UInt32
 g:UInt32
 h:UInt32
def S8.l(s:S8):List UInt32:=[s.a,s.b,s.c,s.d,s.e,s.f,s.g,s.h]
def jD:List UInt32:=[
 0x428a2f98,0x71374491,0xb5c0fbcf,0xe9b5dba5,0x3956c25b,0x59f111f1,0x923f82a4,0xab1c5ed5,
 0xd807aa98,0x12835b01,0x243185be,0x550c7dc3,0x72be5d74,0x80deb1fe,0x9bdc06a7,0xc19bf174,
 0xe49b69c1,0xefbe4786,0x0fc19dc6,0x240ca1cc,0x2de92c6f,0x4a7484aa,0x5cb0a9dc,0x76f988da,
 0x983e5152,0xa831c66d,0xb00327c8,0xbf597fc7,0xc6e00bf3,0xd5a79147,0x06ca6351,0x14292967,
 0x27b70a85,0x2e1b2138,0x4d2c6dfc,0x53380d13,0x650a7354,0x766a0abb,0x81c2c92e,0x92722c85,
 0xa2bfe8a1,0xa81a664b,0xc24b8b70,0xc76c51a3,0xd192e819,0xd6990624,0xf40e3585,0x106aa070,
 0x19a4c116,0x1e376c08,0x2748774c,0x34b0bcb5,0x391c0cb3,0x4ed8aa4a,0x5b9cca4f,0x682e6ff3,
 0x748f82ee,0x78a5636f,0x84c87814,0x8cc70208,0x90befffa,0xa4506ceb,0xbef9a3f7,0xc67178f2]
def AL:S8:=⟨0x6a09e667,0xbb67ae85,0x3c6ef372,0xa54ff53a,0x510e527f,0x9b05688c,0x1f83d9ab,0x5be0cd19⟩
def QV(s:S8)(k w:UInt32):S8:=
 let up:=(gI s.e 26^^^gI s.e 21)^^^gI s.e 7
 let x:=(((s.h+up)+((s.e&&&s.f)^^^(~~~s.e&&&s.g)))+k)+w
 let down:=(gI s.a 30^^^gI s.a 19)^^^gI s.a 10
 let y:=down+(((s.a&&&s.b)^^^(s.a&&&s.c))^^^(s.b&&&s.c))
 ⟨x+y,s.a,s.b,s.c,s.d+x,s.e,s.f,s.g⟩
def mK(ws:List UInt32)(s:S8):Nat->S8
|0=>s
|i+1=>QV (mK ws s i) (jD.getD i 0) (ws.getD i 0)
def gJ(s t:S8):S8:=⟨s.a+t.a,s.b+t.b,s.c+t.c,s.d+t.d,s.e+t.e,s.f+t.f,s.g+t.g,s.h+t.h⟩
def sX(s:S8)(blk:List UInt8):S8:=gJ s (mK (R2 blk 48) s 64)
theorem KR(b:List UInt8):∀j,(pE b j).length=j
|0=>rfl
|j+1=>by simp[pE,KR b j]
theorem EO(b:List UInt8):∀k,(R2 b k).length=16+k
|0=>KR b 16
|k+1=>by simp[R2,EO b k];omega
def L5(l:List UInt32):List Value:=l.map E8++replicate (64-l.length) (E8 0)
theorem AM(l:List UInt32)(h:l.length<=64):(L5 l).length=64:=by simp[L5];omega
theorem KS(l:List UInt32)(j:Nat)(h:j<l.length):(L5 l)[j]? =some (E8 (l.getD j 0)):=by
 rw[L5,N5 (by simpa using h)]
 simp[h]
theorem QW(l:List UInt32)(v:UInt32)(h:l.length<64):(L5 l).set l.length (E8 v)=L5 (l++[v]):=by
 unfold L5
 rw[dA _ _ (by simp)]
 have:64-l.length=(64-(l++[v]).length)+1:=by simp;omega
 rw[this,List.replicate_succ]
 simp
theorem Fi:∀kk:Fin 32,(UInt64.ofNat (18446744073709551584+kk.val))&&&UInt64.ofNat 31=UInt64.ofNat kk.val:=by decide
theorem Fj(kk:Nat)(_h:kk<32):u64.wrap ((kk:Int)-32)=((UInt64.ofNat (18446744073709551584+kk)).toNat:Int):=by
 rw[mH,aM];omega
theorem kQ(x:UInt32)(kk:Nat)(w:World)(h2:kk<32)(h3:0<kk)(k:Int)(hk:k=(kk:Int)-32):
  Ret Tryz.prog 199 [E8 x,VI k] w fun v w'=>v=E8 (gI x kk)/\w'=w:=by
 subst hk
 refine T7 Tryz.func199 rfl Tryz.ntmps199 (by simp) ?_
 refine rG ?_;refine A3 (U8 ?_);refine eN ?_
 have e:=Fi ⟨kk,h2⟩
 simp only at e
 have hk:((UInt64.ofNat kk).toNat:Int)=kk:=by rw[aM];omega
 have hs:((UInt64.ofNat 32-UInt64.ofNat kk).toNat:Int)=32-kk:=by rw[UInt64.toNat_sub,aM,aM];omega
 refine rG ?_;refine A3 (E7 ?_);refine A3 (sP Tryz.underlying3 Tryz.underlying172 rfl (Fj kk h2) ?_);refine A3 (J3 rfl (AB 31 (by decide)) (fun _=>Db) ?_);refine A3 (U8 ?_);refine eN ?_
 rw[e]
 refine rG ?_;refine A3 (E7 ?_);refine A3 (E7 ?_);refine A3 (sO rfl rfl (.inl rfl) (fun _=>DV oM oM) ?_);refine A3 (E7 ?_);refine A3 (E7 ?_);refine A3 (J3 (AB 32 (by decide)) rfl (fun _=>Cy) ?_);refine A3 (sO rfl rfl (.inr rfl) (fun _=>DW oM oM) ?_);refine A3 (J3 rfl rfl (fun _=>DU) ?_);refine A3 (U8 ?_);refine eN ?_
 refine iV (w9 (v:=.int _ _) Tryz.results199 rfl ⟨_,rfl,?_,rfl⟩);have e1:((UInt64.ofNat kk).toNat:Int).toNat=kk:=by omega
 have e2:((UInt64.ofNat 32-UInt64.ofNat kk).toNat:Int).toNat=32-kk:=by omega
 rw[gI,e1,e2]
theorem QX(w:World)(b:Nat)(on:Bool)(C:List Value)(T:TypeId)(hH:w.heap[b]? =some (.cells C.toArray T (0,0)))(hC:C[0]? =some (.bool on)):
  Ret Tryz.prog 177 [.pointer (some ⟨b,0,none⟩)] w fun v w'=>v=.bool (!on)/\w'=w:=by
 refine T7 Tryz.func177 rfl Tryz.ntmps177 (by simp) ?_
 have H:=Hp.start w (.blk b C T) b hH rfl
 refine rG ?_;refine A3 (U8 ?_);refine eN ?_
 refine rG ?_;refine A3 (E7 ?_);refine A3 (Dt Tryz.underlying205 rfl rfl ?_);refine A3 (E7 ?_);refine cE rfl rfl rfl (E7 ?_);refine cE rfl rfl rfl (sL rfl ?_);refine cE rfl rfl rfl (oV rfl Fa ?_);refine cE rfl rfl rfl (x4 H (i:=0) rfl rfl EG hC ?_);refine cE rfl rfl rfl (Cq rfl ?_);refine A3 (Cp rfl ?_);refine A3 (U8 ?_);refine eN ?_
 exact iV (w9 (v:=.bool _) Tryz.results177 rfl ⟨_,rfl,rfl,rfl⟩)
theorem EP(b:List UInt8)(j:Nat)(h:j<b.length):(b.map V8)[j]? =some (V8 (b.getD j 0)):=by simp[h]
set_option maxHeartbeats 1000000 in
theorem Fk(w0:World)(p o:Nat)(bs:List UInt8)(hb:bs.length=64)(hr:RdS w0 (some ⟨p,o,none⟩) (bs.map V8)):
  Ret Tryz.prog 198 [.pointer (some ⟨p,o,none⟩)] w0 fun v w'=>v=.agg (L5 (R2 bs 48)).toArray/\Hp w0 w' [] []:=by
 refine T7 Tryz.func198 rfl Tryz.ntmps198 (by simp) ?_
 have H:=Hp.refl w0 []
 refine rG ?_;refine A3 (W9 H xC (fun b2 w H U5=>?_));refine eN ?_
 refine rG ?_;refine A3 (W9 H xC (fun b3 w H z6=>?_));refine eN ?_
 refine rG ?_;refine A3 (E7 ?_);refine eN ?_
 refine qB ?_;refine aA (ι:=Nat) (fun i=>[(8,VI i),(3,.pointer (some ⟨b3,0,none⟩)),(2,.pointer (some ⟨b2,0,none⟩)),(0,.pointer (some ⟨p,o,none⟩))])
  (fun i w=>i<=16/\Hp w0 w [] [.blk b2 (L5 []) 265,.blk b3 (L5 (pE bs i)) 265]) (fun i=>16-i) 0 ⟨rfl,rfl,rfl,rfl,trivial⟩ ⟨by omega,H⟩ ?_
 clear H
 rintro i τ w ⟨hi,H⟩
 refine rG ?_;refine A3 (J3 rfl rfl (fun _=>aB) ?_);refine eN ?_
 repeat refine D8 ?_
 refine iU rfl (fun hlt=>?_) (fun hlt=>?_)
 ·have aN:i<16:=by omega
  have dG:=KR bs i
  refine M6 ?_;refine qB ?_;refine rG ?_;refine A3 (E7 ?_);refine A3 (U8 ?_);refine eN ?_
  repeat refine D8 ?_
  refine KK 38 mixed (by kernel_rfl) ?_;replace H:=H.drew
  refine A7 (L4) ?_;refine A7 (L4) ?_;refine A7 (L4) ?_;refine A7 (D1 rfl rfl (fun _=>sQ oM oM)) ?_;refine A7 (kN rfl) ?_;refine A7 (T6 rfl rfl AJ oM oM) ?_;refine A7 (wZ (H.rd hr (U9 _)) rfl rfl pA (EP bs _ oM)) ?_;refine A7 (iZ Tryz.underlying5 Tryz.underlying247 rfl (DY _)) ?_;refine A7 (oY rfl rfl (.inl rfl) (fun _=>DV (by decide) (by decide))) ?_;refine A7 (L4) ?_;refine A7 (L4) ?_;refine A7 (D1 rfl rfl (fun _=>sQ oM oM)) ?_;refine A7 (D1 rfl rfl (fun _=>Z9 oM oM)) ?_;refine A7 (kN rfl) ?_;refine A7 (T6 rfl rfl AJ oM oM) ?_;refine A7 (wZ (H.rd hr (U9 _)) rfl rfl pA (EP bs _ oM)) ?_;refine A7 (iZ Tryz.underlying5 Tryz.underlying247 rfl (DY _)) ?_;refine A7 (oY rfl rfl (.inl rfl) (fun _=>DV (by decide) (by decide))) ?_;refine A7 (D1 rfl rfl (fun _=>DU)) ?_;refine A7 (L4) ?_;refine A7 (L4) ?_;refine A7 (D1 rfl rfl (fun _=>sQ oM oM)) ?_;refine A7 (D1 rfl rfl (fun _=>Z9 oM oM)) ?_;refine A7 (kN rfl) ?_;refine A7 (T6 rfl rfl AJ oM oM) ?_;refine A7 (wZ (H.rd hr (U9 _)) rfl rfl pA (EP bs _ oM)) ?_;refine A7 (iZ Tryz.underlying5 Tryz.underlying247 rfl (DY _)) ?_;refine A7 (oY rfl rfl (.inl rfl) (fun _=>DV (by decide) (by decide))) ?_;refine A7 (D1 rfl rfl (fun _=>DU)) ?_;refine A7 (L4) ?_;refine A7 (L4) ?_;refine A7 (D1 rfl rfl (fun _=>sQ oM oM)) ?_;refine A7 (D1 rfl rfl (fun _=>Z9 oM oM)) ?_;refine A7 (kN rfl) ?_;refine A7 (T6 rfl rfl AJ oM oM) ?_;refine A7 (wZ (H.rd hr (U9 _)) rfl rfl pA (EP bs _ oM)) ?_;refine A7 (iZ Tryz.underlying5 Tryz.underlying247 rfl (DY _)) ?_;refine A7 (D1 rfl rfl (fun _=>DU)) ?_;refine kP ?_;refine A3 (cI rfl rfl mJ oM oM ?_);refine A3 (oW H (i:=1) (v:=E8 (KQ bs i)) rfl rfl ?_ EK rfl (by rw[AM _ oM];omega) (fun w H=>?_))
  ·have h0:(4*(i:Int)).toNat*1=4*i:=by omega
   have h1:(4*(i:Int)+1).toNat*1=4*i+1:=by omega
   have h2:(4*(i:Int)+2).toNat*1=4*i+2:=by omega
   have h3:(4*(i:Int)+3).toNat*1=4*i+3:=by omega
   show E8 ((((bs.getD ((4*(i:Int)).toNat*1) 0).toUInt32<<<UInt32.ofNat (24:Int).toNat|||(bs.getD ((4*(i:Int)+1).toNat*1) 0).toUInt32<<<UInt32.ofNat (16:Int).toNat)|||(bs.getD ((4*(i:Int)+2).toNat*1) 0).toUInt32<<<UInt32.ofNat (8:Int).toNat)|||(bs.getD ((4*(i:Int)+3).toNat*1) 0).toUInt32)=_
   rw[h0,h1,h2,h3];rfl
  refine eN ?_
  have e:(L5 (pE bs i)).set (0+(i:Int).toNat*1) (E8 (KQ bs i))=L5 (pE bs (i+1)):=by
   rw[pE, <-QW _ _ oM,dG];congr 1;omega
  rw[e]at H
  refine rG ?_;refine A3 (J3 rfl rfl (fun _=>Z9 oM oM) ?_);refine A3 (E7 ?_);refine eN ?_
  refine U7 (i+1) ?_ ?_ ?_
  ·exact⟨rfl,rfl,rfl,rfl,trivial⟩
  ·exact⟨by omega,H⟩
  show 16-(i+1)<16-i;omega
 have hi16:i=16:=by omega
 subst hi16
 clear hlt hi
 refine W8 ?_;refine rG ?_;refine A3 (U8 ?_);refine eN ?_
 refine qB ?_;refine aA (ι:=Nat) (fun k=>[(5,VI (16+k:Nat)),(3,.pointer (some ⟨b3,0,none⟩)),(2,.pointer (some ⟨b2,0,none⟩))])
  (fun k w=>k<=48/\Hp w0 w [] [.blk b2 (L5 []) 265,.blk b3 (L5 (R2 bs k)) 265]) (fun k=>48-k) 0 ⟨rfl,rfl,rfl,trivial⟩ ⟨by omega,H⟩ ?_
 clear H
 rintro k τ w ⟨hk,H⟩
 have rF:=EO bs k
 refine rG ?_;refine A3 (E7 ?_);refine A3 (J3 rfl rfl (fun _=>aB) ?_);refine eN ?_
 repeat refine D8 ?_
 refine iU rfl (fun hlt=>?_) (fun hlt=>?_)
 ·have aN:k<48:=by omega
  have hg:∀j,j<16+k->(L5 (R2 bs k))[j]? =some (E8 ((R2 bs k).getD j 0)):=fun j hj=>KS _ _ oM
  refine M6 ?_;refine qB ?_;repeat refine D8 ?_
  refine sV mixed (by kernel_rfl) ?_;replace H:=H.drew
  refine A7 (L4) ?_;refine A7 (D1 rfl rfl (fun _=>gE oM oM)) ?_;refine A7 (T6 rfl rfl mJ oM oM) ?_;refine A7 (Q9 H (i:=1) rfl rfl N7 (hg _ oM)) ?_;refine A7 (L4) ?_;refine A7 (D1 rfl rfl (fun _=>gE oM oM)) ?_;refine A7 (T6 rfl rfl mJ oM oM) ?_;refine A7 (Q9 H (i:=1) rfl rfl N7 (hg _ oM)) ?_;refine A7 (eT) ?_;refine A7 (eT) ?_;refine kP ?_;have x0:0+(((16+k:Nat):Int)-16).toNat*1=16+k-16:=by omega
  have x1:0+(((16+k:Nat):Int)-15).toNat*1=16+k-15:=by omega
  have x2:0+(((16+k:Nat):Int)-2).toNat*1=16+k-2:=by omega
  have x3:0+(((16+k:Nat):Int)-7).toNat*1=16+k-7:=by omega
  refine rG ?_;refine A3 (E7 ?_);refine A3 (N4 Tryz.func199 rfl rfl rfl (kQ _ 25 _ oM oM _ rfl) ?_);rintro _ w ⟨rfl,rfl⟩
  refine A3 (E7 ?_);refine A3 (N4 Tryz.func199 rfl rfl rfl (kQ _ 14 _ oM oM _ rfl) ?_);rintro _ w ⟨rfl,rfl⟩
  refine A3 (J3 rfl rfl (fun _=>iX) ?_);refine A3 (E7 ?_);refine A3 (sO rfl rfl (.inr rfl) (fun _=>DW (by decide) (by decide)) ?_);refine A3 (J3 rfl rfl (fun _=>iX) ?_);refine A3 (U8 ?_);refine eN ?_
  refine rG ?_;refine A3 (E7 ?_);refine A3 (N4 Tryz.func199 rfl rfl rfl (kQ _ 15 _ oM oM _ rfl) ?_);rintro _ w ⟨rfl,rfl⟩
  refine A3 (E7 ?_);refine A3 (N4 Tryz.func199 rfl rfl rfl (kQ _ 13 _ oM oM _ rfl) ?_);rintro _ w ⟨rfl,rfl⟩
  refine A3 (J3 rfl rfl (fun _=>iX) ?_);refine A3 (E7 ?_);refine A3 (sO rfl rfl (.inr rfl) (fun _=>DW (by decide) (by decide)) ?_);refine A3 (J3 rfl rfl (fun _=>iX) ?_);refine A3 (U8 ?_);refine eN ?_
  repeat refine D8 ?_
  refine KK 15 mixed (by kernel_rfl) ?_;replace H:=H.drew
  refine A7 (L4) ?_;refine A7 (L4) ?_;refine A7 (D1 rfl rfl (fun _=>gE oM oM)) ?_;refine A7 (T6 rfl rfl mJ oM oM) ?_;refine A7 (Q9 H (i:=1) rfl rfl N7 (hg _ oM)) ?_;refine A7 (L4) ?_;refine A7 (D1 rfl rfl (fun _=>iW)) ?_;refine A7 (L4) ?_;refine A7 (D1 rfl rfl (fun _=>gE oM oM)) ?_;refine A7 (T6 rfl rfl mJ oM oM) ?_;refine A7 (Q9 H (i:=1) rfl rfl N7 (hg _ oM)) ?_;refine A7 (D1 rfl rfl (fun _=>iW)) ?_;refine A7 (L4) ?_;refine A7 (D1 rfl rfl (fun _=>iW)) ?_;refine A7 (T6 rfl rfl mJ oM oM) ?_;refine kP ?_;refine A3 (oW H (i:=1) (v:=E8 (EN (R2 bs k))) rfl rfl ?_ EK rfl (by rw[AM _ oM];omega) (fun w H=>?_))
  ·show E8 (((R2 bs k).getD (0+(((16+k:Nat):Int)-16).toNat*1) 0+QT ((R2 bs k).getD (0+(((16+k:Nat):Int)-15).toNat*1) 0)+(R2 bs k).getD (0+(((16+k:Nat):Int)-7).toNat*1) 0)+QU ((R2 bs k).getD (0+(((16+k:Nat):Int)-2).toNat*1) 0))=_
   rw[x0,x1,x2,x3,EN,rF]
  refine eN ?_
  have e:(L5 (R2 bs k)).set (0+((16+k:Nat):Int).toNat*1) (E8 (EN (R2 bs k)))=L5 (R2 bs (k+1)):=by
   rw[R2, <-QW _ _ oM,rF];congr 1;omega
  rw[e]at H
  refine rG ?_;refine A3 (E7 ?_);refine A3 (J3 rfl rfl (fun _=>Z9 oM oM) ?_);refine A3 (U8 ?_);refine eN ?_
  refine U7 (k+1) ?_ ?_ ?_
  ·exact⟨rfl,rfl,rfl,trivial⟩
  ·exact⟨by omega,H⟩
  show 48-(k+1)<48-k;omega
 have hk48:k=48:=by omega
 subst hk48
 clear hlt hk
 refine W8 ?_;have rH:(L5 (R2 bs 48)).length=64:=AM _ oM
 have jZ:((L5 (R2 bs 48)).drop 0).take 64=L5 (R2 bs 48):=by rw[qM,V9 oM]
 have lM:(L5 (R2 bs 48)).toArray.all (·.oneCell')=true:=by
  rw[nL];simp[L5,Value.oneCell']
 refine rG ?_;refine A3 (DZ H (i:=1) rfl rfl KP (by rw[rH];exact B2 _) ?_)
 rw[jZ]
 refine A3 (iY H (i:=0) rfl rfl rfl (by rw[EM];simp[rH]) lM (by simp[rH,AM]) (fun w H=>?_));refine eN ?_
 refine iV (AE Tryz.results198 H (i:=0) rfl rfl KP (by simp[rH]) ⟨_,rfl,rfl,?_⟩);exact H.sub (P4 _)
section
def N8(s:S8)(wt:List UInt8)(m:UInt64):List Value:=.bool true::(s.l.map E8++(wt.map V8++[L9 m]))
theorem KT(l:List UInt32):(l.map E8).toArray.all (·.oneCell')=true:=by
 rw[nL];simp[Value.oneCell']
def kR(l:List UInt32)(wt:List UInt8)(m:UInt64):List Value:=.bool true::(l.map E8++(wt.map V8++[L9 m]))
theorem Fl(l:List UInt32)(wt:List UInt8)(m:UInt64)(i:Nat)(h:i<l.length):(kR l wt m)[1+i]? =some (E8 (l.getD i 0)):=by
 rw[kR,Nat.add_comm,DC,N5 (by simpa using h)]
 simp[h]
theorem Fm(l:List UInt32)(wt:List UInt8)(m:UInt64)(i:Nat)(v:UInt32)(h:i<l.length):(kR l wt m).set (1+i) (E8 v)=kR (l.set i v) wt m:=by
 rw[kR,Nat.add_comm,List.set_cons_succ,List.set_append_left _ _ (by simpa using h)]
 simp[kR,List.map_set]
def F3(A B:List UInt32)(i:Nat):List UInt32:=A.take i++B.drop i
theorem QY(A B:List UInt32)(i:Nat)(h:A.length=B.length)(hi:i<=A.length):(F3 A B i).length=B.length:=by simp only[F3,C6,F7,K4];omega
theorem Fn(A B:List UInt32)(i:Nat)(h:A.length=B.length)(hi:i<A.length):(F3 A B i).getD i 0=B.getD i 0:=by
 have:(A.take i).length=i:=by rw[F7];omega
 simp only[F3,l6]
 rw[L7 oM,this];simp
theorem Fo(A B:List UInt32)(i:Nat)(h:A.length=B.length)(hi:i<A.length):(F3 A B i).set i (A.getD i 0)=F3 A B (i+1):=by
 have h1:(A.take i).length=i:=by rw[F7];omega
 apply V7
 intro j
 rw[List.getElem?_set]
 have hl:(F3 A B i).length=B.length:=QY A B i h oM
 by_cases h2:i=j
 ·subst h2
  rw[if_pos rfl,if_pos oM]
  rw[F3,N5 (by rw[F7];omega),eJ oM]
  simp[hi]
 rw[if_neg h2]
 have h4:(A.take (i+1)).length=i+1:=by rw[F7];omega
 by_cases h3:j<i
 ·rw[F3,F3,N5 oM,N5 oM,eJ h3,eJ oM]
 rw[F3,F3,L7 oM,L7 oM,h1,h4,Q5,Q5]
 congr 1;omega
theorem Fp(s t:S8)(i:Nat)(hi:i<8):s.l.getD i 0+t.l.getD i 0=(gJ s t).l.getD i 0:=by
 have e:(gJ s t).l=List.zipWith (·+·) s.l t.l:=rfl
 have h1:s.l.length=8:=rfl
 have h2:t.l.length=8:=rfl
 rw[e]
 simp only[l6,List.getElem?_zipWith]
 rw[B6 (by omega:i<s.l.length),B6 (by omega:i<t.l.length)]
 rfl
theorem Fq(w0:World):Ret Tryz.prog 197 [] w0 fun v w'=>v=.agg (L5 jD).toArray/\Hp w0 w' [] []:=by
 refine T7 Tryz.func197 rfl Tryz.ntmps197 (by simp) ?_
 have H:=Hp.refl w0 []
 refine rG ?_;refine A3 (W9 H xC (fun b0 w H T4=>?_));refine eN ?_
 refine rG ?_;refine A3 (ED (cells:=(L5 jD).toArray) Fh rfl (by kernel_rfl) ?_);refine A3 (iY H (i:=0) rfl rfl rfl (by rw[EM];rfl) (by kernel_rfl) (by rfl) (fun w H=>?_));refine eN ?_
 refine iV (AE Tryz.results197 H (i:=0) rfl rfl KP (by rfl) ⟨_,rfl,rfl,?_⟩);exact H.sub (P4 _)
theorem Fs(w0:World):Ret Tryz.prog 138 [] w0 fun v w'=>∃b,v=.pointer (some ⟨b,0,none⟩)/\Hp w0 w' [] [.blk b (N8 AL (replicate 64 0) 0) 251]:=by
 refine T7 Tryz.func138 rfl Tryz.ntmps138 (by simp) ?_
 have H:=Hp.refl w0 []
 refine rG ?_;refine A3 (U8 ?_);refine eN ?_
 refine rG ?_;refine A3 (ED (cells:=(AL.l.map E8).toArray) QO rfl (by kernel_rfl) ?_);refine A3 (ED (cells:=(N8 AL (replicate 64 0) 0).toArray) Fc rfl (by kernel_rfl) ?_);refine A3 (AD H rfl (fun b w H hb=>?_));refine A3 (U8 ?_);refine eN ?_
 exact iV (w9 Tryz.results138 rfl ⟨_,rfl,b,rfl,H⟩)
theorem AN(s:S8)(wt:List UInt8)(m:UInt64)(h:wt.length=64):(N8 s wt m).length=74:=by simp[N8,S8.l,h]
theorem Ft(s:S8)(wt:List UInt8)(m:UInt64)(h:wt.length=64):((N8 s wt m).drop 9).take 64=wt.map V8:=by
 simp[N8,S8.l,uZ,h]
theorem EQ(s:S8)(wt:List UInt8)(m:UInt64)(h:wt.length=64):(N8 s wt m)[73]? =some (L9 m):=by
 simp[N8,S8.l,h]
theorem Fu(s:S8)(wt:List UInt8)(m m':UInt64)(h:wt.length=64):(N8 s wt m).set 73 (L9 m')=N8 s wt m':=by
 simp[N8,S8.l,h]
attribute [local irreducible] R2 mK
set_option maxHeartbeats 8000000 in
def fA(n t:Nat)(a:Option Nat):List Ch:=match a with|none=>[]|some x=>[.blk x (replicate n (Value.int .u32 0)) t]
def gL(h:Ch)(a b c:Option Nat):List Ch:=h::(fA 64 265 a++(fA 64 265 b++fA 8 248 c))
def ER(d:Nat)(a:Option Nat):List (Nat×Value):=match a with|none=>[]|some x=>[(d,.pointer (some ⟨x,0,none⟩))]
def QZ(hb:Nat)(D A B:Value)(k:Nat)(a b c:Option Nat):List (Nat×Value):=(0,.pointer (some ⟨hb,0,none⟩))::(14,.pointer (some ⟨hb,0+9,none⟩))::(19,D)::((match k with|0=>[]|1=>[(11,A)]|_=>[(11,A),(15,B)])++(ER 2 a++(ER 3 b++ER 4 c)))
def AO(a:Option Nat):Nat:=match a with|none=>1|_=>0
def ES(k:Nat)(a b c:Option Nat):Nat:=3+((2-k)+(AO a+(AO b+AO c)))
def KU(k:Nat)(a b c:Option Nat):List Nat:=(match k with|0=>[0]|1=>[4]|_=>[])++((match a with|none=>[9]|_=>[])++((match b with|none=>[10]|_=>[])++(match c with|none=>[11]|_=>[])))
def Fv(k:Nat)(a b c:Option Nat):Array Bool:= #[blt 0 k,true,true,true,blt 1 k,true,true,true,true,a.isSome,b.isSome,c.isSome,false,false,false]
theorem Fw{h:Ch}{b c:Option Nat}{x:Nat}(H:Hp w0 w S (gL h none b c++[.blk x (replicate 64 (Value.int .u32 0)) 265])):Hp w0 w S (gL h (some x) b c):=H.perm (QG [h] (fA 64 265 b++fA 8 248 c) _)
theorem Fx{h:Ch}{a c:Option Nat}{x:Nat}(H:Hp w0 w S (gL h a none c++[.blk x (replicate 64 (Value.int .u32 0)) 265])):Hp w0 w S (gL h a (some x) c):=by
 have:=H.perm (L':=(h::fA 64 265 a)++_::fA 8 248 c) (by simpa [gL,fA] using QG (h::fA 64 265 a) (fA 8 248 c) _)
 simpa [gL,fA] using this
theorem Fy{h:Ch}{a b:Option Nat}{x:Nat}(H:Hp w0 w S (gL h a b none++[.blk x (replicate 8 (Value.int .u32 0)) 248])):Hp w0 w S (gL h a b (some x)):=by simpa [gL,fA] using H
set_option maxHeartbeats 1000000 in
theorem Fz(w0:World)(hb:Nat)(st:S8)(wt:List UInt8)(m:UInt64)(P0:wt.length=64)(hH:w0.heap[hb]? =some (.cells (N8 st wt m).toArray 251 (0,0))):
  Ret Tryz.prog 178 [.pointer (some ⟨hb,0,none⟩)] w0 fun v w'=>v=.tuple #[]/\Hp w0 w' [hb] [.blk hb (N8 (sX st wt) wt m) 251]:=by
 refine T7 Tryz.func178 rfl Tryz.ntmps178 (by simp) ?_
 have H:=Hp.start w0 (.blk hb (N8 st wt m) 251) hb hH rfl
 have rH:(L5 (R2 wt 48)).length=64:=AM _ (by rw[EO];omega)
 have lM:(L5 (R2 wt 48)).toArray.all (·.oneCell')=true:=by
  rw[nL];simp[L5,Value.oneCell']
 refine D8 ?_;refine Cn (ι:=Nat×Nat×Nat) (fun i=>[(2,.pointer (some ⟨i.1,0,none⟩)),(3,.pointer (some ⟨i.2.1,0,none⟩)),(4,.pointer (some ⟨i.2.2,0,none⟩)),(0,.pointer (some ⟨hb,0,none⟩))])
  (fun i w=>Hp w0 w [hb] [.blk hb (N8 st wt m) 251,.blk i.1 (L5 jD) 265,.blk i.2.1 (L5 (R2 wt 48)) 265,.blk i.2.2 (st.l.map E8) 248]) ?_ ?_
 ·as_aux_lemma=>
  repeat refine D8 ?_
  refine Du (fun w=>Hp w0 w [hb] [.blk hb (N8 st wt m) 251]) mixed ?_;replace H:=H.drew
  have HS:(fun w=>Hp w0 w [hb] [.blk hb (N8 st wt m) 251]) _:=H.sub (List.Sublist.cons_cons _ (P4 _))
  refine eX 1 rfl (fun w HS=>L4) HS ?_;refine eX 2 rfl (fun w HS=>kN rfl) HS ?_;refine eX 3 rfl (fun w HS=>eW rfl QQ) HS ?_;refine eX 5 rfl (fun w HS=>L4) HS ?_;refine eX 6 rfl (fun w HS=>kN rfl) HS ?_;refine eX 7 rfl (fun w HS=>eW rfl EL) HS ?_;refine eX 8 rfl  (fun w HS=>KG HS (i:=0) rfl rfl QL (by rw[AN _ _ _ P0];decide)) HS ?_;refine Eh fun G hG=>?_
  have sb:∀{a b c},List.Sublist [Ch.blk hb (N8 st wt m) 251] (gL (.blk hb (N8 st wt m) 251) a b c):=List.Sublist.cons_cons _ (P4 _)
  have key:∀n k a b c w,Hp w0 w [hb] (gL (.blk hb (N8 st wt m) 251) a b c)->k<=2->ES k a b c=n+3->∀τ,G (ES k a b c) (Fv k a b c) (o7 τ (QZ hb (.agg (st.l.map E8).toArray) (.agg (L5 jD).toArray) (.agg (L5 (R2 wt 48)).toArray) k a b c)) w:=by
   intro n
   induction n with
  |zero=>
    intro k a b c w H hk hn τ
    rw[hG]
    rcases k with _|_|k<;>rcases a with _|b9<;>rcases b with _|b10<;>rcases c with _|b11<;>try (simp[ES,AO]at hn;done)
    obtain rfl:k=0:=by omega
    have HS:(fun w=>Hp w0 w [hb] [.blk hb (N8 st wt m) 251]) _:=H.sub sb
    dsimp only[QZ,ER,gL,fA,v6,Y5]at H ⊢
    refine KJ (fuel:=2) 12 rfl (by kernel_rfl) (iY H (i:=1) rfl rfl rfl (by rw[EM];rfl) (by kernel_rfl) (by rfl) (fun w H=>?_));refine⟨H.sub (List.Sublist.cons_cons _ (P4 _)),?_⟩
    refine KJ 13 rfl (by kernel_rfl) (iY H (i:=2) rfl rfl rfl (by rw[EM];simp[rH]) lM (by simp[rH]) (fun w H=>?_));refine⟨H.sub (List.Sublist.cons_cons _ (P4 _)),?_⟩
    refine KJ 14 rfl (by kernel_rfl) (iY H (i:=3) rfl rfl rfl (by rw[QM];rfl) (KT _) (by rfl) (fun w H=>?_));refine⟨H.sub (List.Sublist.cons_cons _ (P4 _)),?_⟩
    refine QF (by kernel_rfl) ?_;exact Co (b9,b10,b11) ⟨rfl,rfl,rfl,rfl,trivial⟩ H
  |succ n ih=>
    intro k a b c w H hk hn τ
    rw[hG]
    obtain⟨R,hR⟩:∃R,R=KU k a b c:=⟨_,rfl⟩
    rcases k with _|_|k<;>try obtain rfl:k=0:=by omega
    all_goals
     rcases a with _|b9<;>rcases b with _|b10<;>rcases c with _|b11
     all_goals try (simp[ES,AO]at hn;done)
     all_goals (refine Ej R (by rw[hR];kernel_rfl) (by rw[hR];simp[KU]) ?_;subst hR;intro i hi;simp only[KU,Y5,v6,K8,List.not_mem_nil,or_false]at hi)
     all_goals repeat' (rcases hi with rfl|hi)
     all_goals try subst hi
     all_goals first
     |(show wpOp _ _ _ 0 _ _ _;refine xA 0 rfl (N4 Tryz.func197 rfl rfl rfl (Fq _) ?_);rintro _ w ⟨rfl,Hc⟩;replace H:=H.call Hc;rw[Z5]at H;exact⟨H.sub sb,AG hG (ih 1 _ _ _ _ H (by decide) (Nat.succ.inj hn)) (by repeat' first|exact trivial|refine⟨rfl,?_⟩)⟩)
     |(show wpOp _ _ _ 4 _ _ _;refine xA 4 rfl (N4 Tryz.func198 rfl rfl rfl (Fk _ hb (0+9) wt P0 (by rw[<-Ft st wt m P0];exact(Ch.rd_blk (H.has _ X9) (0+9)).take 64)) ?_);rintro _ w ⟨rfl,Hc⟩;replace H:=H.call Hc;rw[Z5]at H;exact⟨H.sub sb,AG hG (ih 2 _ _ _ _ H (by decide) (Nat.succ.inj hn)) (by repeat' first|exact trivial|refine⟨rfl,?_⟩)⟩)
     |(show wpOp _ _ _ 9 _ _ _;refine xA 9 rfl (W9 H xC fun b9 w H _=>?_);exact⟨H.sub (sb.trans (DD _ _)),AG hG (ih _ _ _ _ _ (Fw H) hk (Nat.succ.inj hn)) (by repeat' first|exact trivial|refine⟨rfl,?_⟩)⟩)
     |(show wpOp _ _ _ 10 _ _ _;refine xA 10 rfl (W9 H xC fun b9 w H _=>?_);exact⟨H.sub (sb.trans (DD _ _)),AG hG (ih _ _ _ _ _ (Fx H) hk (Nat.succ.inj hn)) (by repeat' first|exact trivial|refine⟨rfl,?_⟩)⟩)
     |(show wpOp _ _ _ 11 _ _ _;refine xA 11 rfl (W9 H QN fun b9 w H _=>?_);exact⟨H.sub (sb.trans (DD _ _)),AG hG (ih _ _ _ _ _ (Fy H) hk (Nat.succ.inj hn)) (by repeat' first|exact trivial|refine⟨rfl,?_⟩)⟩)
  exact Ei (key 5 0 none none none _ H (by decide) rfl) ⟨rfl,rfl,rfl,trivial⟩
 as_aux_lemma=>
 rintro⟨b2,b3,b4⟩ τ w H
 have rF:=EO wt 48
 have hcomp:sX st wt=gJ st (mK (R2 wt 48) st 64):=rfl
 simp only[hcomp]
 clear hcomp rH lM hH
 obtain⟨sc,hsc⟩:∃sc,R2 wt 48=sc:=⟨_,rfl⟩
 simp only[hsc]at H rF ⊢
 clear hsc
 refine rG ?_;refine A3 (E7 ?_);refine eN ?_
 refine qB ?_;refine aA (ι:=Nat) (fun i=>[(20,VI i),(2,.pointer (some ⟨b2,0,none⟩)),(3,.pointer (some ⟨b3,0,none⟩)),(4,.pointer (some ⟨b4,0,none⟩)),(0,.pointer (some ⟨hb,0,none⟩))])
  (fun i w=>i<=64/\Hp w0 w [hb] [.blk hb (N8 st wt m) 251,.blk b2 (L5 jD) 265,.blk b3 (L5 sc) 265,.blk b4 ((mK sc st i).l.map E8) 248])
  (fun i=>64-i) 0 ⟨rfl,rfl,rfl,rfl,rfl,trivial⟩ ⟨by omega,by rw[mK];exact H⟩ ?_
 clear H
 rintro i τ w ⟨hi,H⟩
 have hpw:jD.length=64:=rfl
 refine rG ?_;refine A3 (J3 rfl rfl (fun _=>aB) ?_);refine eN ?_
 repeat refine D8 ?_
 refine iU rfl (fun hlt=>?_) (fun hlt=>?_)
 ·have aN:i<64:=by omega
  have g1:∀j,j<64->(L5 jD)[j]? =some (E8 (jD.getD j 0)):=fun j hj=>KS _ _ oM
  have g2:∀j,j<64->(L5 sc)[j]? =some (E8 (sc.getD j 0)):=fun j hj=>KS _ _ oM
  have x1:0+(i:Int).toNat*1=i:=by omega
  refine M6 ?_;refine qB ?_;refine rG ?_;refine A3 (E7 ?_);refine A3 (U8 ?_);refine eN ?_
  repeat refine D8 ?_
  refine sV mixed (by kernel_rfl) ?_;replace H:=H.drew
  refine A7 (T6 rfl rfl R8 oM oM) ?_;refine A7 (Q9 H (i:=3) rfl rfl N7 rfl) ?_;refine oZ Tryz.func199 rfl rfl rfl (kQ _ 26 _ oM oM _ rfl) ?_
  refine A7 (T6 rfl rfl R8 oM oM) ?_;refine A7 (Q9 H (i:=3) rfl rfl N7 rfl) ?_;refine oZ Tryz.func199 rfl rfl rfl (kQ _ 21 _ oM oM _ rfl) ?_
  refine A7 (D1 rfl rfl (fun _=>iX)) ?_;refine A7 (T6 rfl rfl R8 oM oM) ?_;refine A7 (Q9 H (i:=3) rfl rfl N7 rfl) ?_;refine oZ Tryz.func199 rfl rfl rfl (kQ _ 7 _ oM oM _ rfl) ?_
  refine A7 (D1 rfl rfl (fun _=>iX)) ?_;refine A7 (eT) ?_;refine kP ?_;repeat refine D8 ?_
  refine sV mixed (by kernel_rfl) ?_;replace H:=H.drew
  refine A7 (T6 rfl rfl R8 oM oM) ?_;refine A7 (Q9 H (i:=3) rfl rfl N7 rfl) ?_;refine A7 (L4) ?_;refine A7 (D1 rfl rfl (fun _=>iW)) ?_;refine A7 (T6 rfl rfl R8 oM oM) ?_;refine A7 (Q9 H (i:=3) rfl rfl N7 rfl) ?_;refine A7 (T6 rfl rfl R8 oM oM) ?_;refine A7 (Q9 H (i:=3) rfl rfl N7 rfl) ?_;refine A7 (D1 rfl rfl (fun _=>AA)) ?_;refine A7 (T6 rfl rfl R8 oM oM) ?_;refine A7 (Q9 H (i:=3) rfl rfl N7 rfl) ?_;refine A7 (KF rfl (fun _=>Cv)) ?_;refine A7 (T6 rfl rfl R8 oM oM) ?_;refine A7 (Q9 H (i:=3) rfl rfl N7 rfl) ?_;refine A7 (D1 rfl rfl (fun _=>AA)) ?_;refine A7 (D1 rfl rfl (fun _=>iX)) ?_;refine A7 (D1 rfl rfl (fun _=>iW)) ?_;refine A7 (L4) ?_;refine A7 (T6 rfl rfl mJ oM oM) ?_;refine A7 (Q9 H (i:=1) rfl rfl N7 (by rw[x1];exact g1 i aN)) ?_;refine A7 (D1 rfl rfl (fun _=>iW)) ?_;refine A7 (L4) ?_;refine A7 (T6 rfl rfl mJ oM oM) ?_;refine A7 (Q9 H (i:=2) rfl rfl N7 (by rw[x1];exact g2 i aN)) ?_;refine A7 (D1 rfl rfl (fun _=>iW)) ?_;refine A7 (eT) ?_;refine kP ?_;repeat refine D8 ?_
  refine sV mixed (by kernel_rfl) ?_;replace H:=H.drew
  refine A7 (T6 rfl rfl R8 oM oM) ?_;refine A7 (Q9 H (i:=3) rfl rfl N7 rfl) ?_;refine oZ Tryz.func199 rfl rfl rfl (kQ _ 30 _ oM oM _ rfl) ?_
  refine A7 (T6 rfl rfl R8 oM oM) ?_;refine A7 (Q9 H (i:=3) rfl rfl N7 rfl) ?_;refine oZ Tryz.func199 rfl rfl rfl (kQ _ 19 _ oM oM _ rfl) ?_
  refine A7 (D1 rfl rfl (fun _=>iX)) ?_;refine A7 (T6 rfl rfl R8 oM oM) ?_;refine A7 (Q9 H (i:=3) rfl rfl N7 rfl) ?_;refine oZ Tryz.func199 rfl rfl rfl (kQ _ 10 _ oM oM _ rfl) ?_
  refine A7 (D1 rfl rfl (fun _=>iX)) ?_;refine A7 (eT) ?_;refine kP ?_;refine rG ?_;refine A3 (E7 ?_);refine A3 (cI rfl rfl R8 oM oM ?_);refine A3 (x4 H (i:=3) rfl rfl N7 rfl ?_);refine A3 (cI rfl rfl R8 oM oM ?_);refine A3 (x4 H (i:=3) rfl rfl N7 rfl ?_);refine A3 (J3 rfl rfl (fun _=>AA) ?_);refine A3 (cI rfl rfl R8 oM oM ?_);refine A3 (x4 H (i:=3) rfl rfl N7 rfl ?_);refine A3 (cI rfl rfl R8 oM oM ?_);refine A3 (x4 H (i:=3) rfl rfl N7 rfl ?_);refine A3 (J3 rfl rfl (fun _=>AA) ?_);refine A3 (J3 rfl rfl (fun _=>iX) ?_);refine A3 (cI rfl rfl R8 oM oM ?_);refine A3 (x4 H (i:=3) rfl rfl N7 rfl ?_);refine A3 (cI rfl rfl R8 oM oM ?_);refine A3 (x4 H (i:=3) rfl rfl N7 rfl ?_);refine A3 (J3 rfl rfl (fun _=>AA) ?_);refine A3 (J3 rfl rfl (fun _=>iX) ?_);refine A3 (J3 rfl rfl (fun _=>iW) ?_);refine A3 (U8 ?_);refine eN ?_
  refine rG ?_;refine A3 (E7 ?_);refine A3 (E7 ?_);refine A3 (J3 rfl rfl (fun _=>iW) ?_);refine A3 (cI rfl rfl R8 oM oM ?_);refine A3 (x4 H (i:=3) rfl rfl N7 rfl ?_);refine A3 (cI rfl rfl R8 oM oM ?_);refine A3 (x4 H (i:=3) rfl rfl N7 rfl ?_);refine A3 (cI rfl rfl R8 oM oM ?_);refine A3 (x4 H (i:=3) rfl rfl N7 rfl ?_);refine A3 (cI rfl rfl R8 oM oM ?_);refine A3 (x4 H (i:=3) rfl rfl N7 rfl ?_);refine A3 (E7 ?_);refine A3 (J3 rfl rfl (fun _=>iW) ?_);refine A3 (cI rfl rfl R8 oM oM ?_);refine A3 (x4 H (i:=3) rfl rfl N7 rfl ?_);refine A3 (cI rfl rfl R8 oM oM ?_);refine A3 (x4 H (i:=3) rfl rfl N7 rfl ?_);refine A3 (cI rfl rfl R8 oM oM ?_);refine A3 (x4 H (i:=3) rfl rfl N7 rfl ?_);refine A3 (ED (pv:=en 0 ((QV (mK sc st i) (jD.getD i 0) (sc.getD i 0)).l.map E8)) QO rfl (QA _ (KT _) rfl) ?_);refine A3 (iY H (i:=3) rfl rfl rfl (by rw[QM];rfl) (KT _) (by rfl) (fun w H=>?_));refine eN ?_
  have e9:=mK.eq_2 sc st i
  refine rG ?_;refine A3 (J3 rfl rfl (fun _=>Z9 oM oM) ?_);refine A3 (E7 ?_);refine eN ?_
  refine U7 (i+1) ?_ ?_ ?_
  ·exact⟨rfl,rfl,rfl,rfl,rfl,trivial⟩
  ·exact⟨by omega,by rw[e9];exact H⟩
  show 64-(i+1)<64-i;omega
 have hi64:i=64:=by omega
 subst hi64
 clear hlt hi
 obtain⟨rr,nQ⟩:∃rr,mK sc st 64=rr:=⟨_,rfl⟩
 simp only[nQ]at H ⊢
 clear nQ
 refine W8 ?_;refine rG ?_;refine A3 (E7 ?_);refine eN ?_
 refine qB ?_;refine aA (ι:=Nat) (fun i=>[(110,VI i),(4,.pointer (some ⟨b4,0,none⟩)),(0,.pointer (some ⟨hb,0,none⟩))])
  (fun i w=>i<=8/\Hp w0 w [hb] [.blk hb (kR (F3 (gJ st rr).l st.l i) wt m) 251,.blk b2 (L5 jD) 265,.blk b3 (L5 sc) 265,.blk b4 (rr.l.map E8) 248])
  (fun i=>8-i) 0 ⟨rfl,rfl,rfl,trivial⟩ ⟨by omega,H⟩ ?_
 clear H
 rintro i τ w ⟨hi,H⟩
 refine rG ?_;refine A3 (J3 rfl rfl (fun _=>aB) ?_);refine eN ?_
 repeat refine D8 ?_
 refine iU rfl (fun hlt=>?_) (fun hlt=>?_)
 ·have aN:i<8:=by omega
  have h8:(gJ st rr).l.length=8:=rfl
  have h8':st.l.length=8:=rfl
  have hpl8:(F3 (gJ st rr).l st.l i).length=8:=QY _ _ i rfl oM
  have x1:0+1+(i:Int).toNat*1=1+i:=by omega
  have x2:0+(i:Int).toNat*1=i:=by omega
  have g1:(rr.l.map E8)[i]? =some (E8 (rr.l.getD i 0)):=by
   have:i<rr.l.length:=aN
   simp[this]
  refine M6 ?_;refine qB ?_;refine rG ?_;refine A3 (E7 ?_);refine A3 (U8 ?_);refine eN ?_
  repeat refine D8 ?_
  refine KK 13 mixed (by kernel_rfl) ?_;replace H:=H.drew
  refine A7 (L4) ?_;refine A7 (L4) ?_;refine A7 (kN rfl) ?_;refine A7 (eW rfl EL) ?_;refine A7 (T6 rfl rfl R8 oM oM) ?_;refine A7 (Q9 H (i:=0) rfl rfl N7 (by rw[x1];exact Fl _ _ _ i oM)) ?_;refine A7 (L4) ?_;refine A7 (T6 rfl rfl R8 oM oM) ?_;refine A7 (Q9 H (i:=3) rfl rfl N7 (by rw[x2];exact g1)) ?_;refine A7 (D1 rfl rfl (fun _=>iW)) ?_;refine A7 (kN rfl) ?_;refine A7 (eW rfl EL) ?_;refine A7 (T6 rfl rfl R8 oM oM) ?_;refine kP ?_;refine A3 (oW H (i:=0) (v:=E8 ((gJ st rr).l.getD i 0)) rfl rfl ?_ EK rfl (by rw[x1];simp[kR,hpl8];omega) (fun w H=>?_))
  ·show E8 ((F3 (gJ st rr).l st.l i).getD i 0+rr.l.getD i 0)=_
   rw[Fn _ _ i (h8.trans h8'.symm) oM,Fp _ _ i aN]
  refine eN ?_
  have e:(kR (F3 (gJ st rr).l st.l i) wt m).set (0+1+(i:Int).toNat*1) (E8 ((gJ st rr).l.getD i 0))=kR (F3 (gJ st rr).l st.l (i+1)) wt m:=by
   rw[x1,Fm _ _ _ i _ oM,Fo _ _ i (h8.trans h8'.symm) oM]
  rw[e]at H
  refine rG ?_;refine A3 (J3 rfl rfl (fun _=>Z9 oM oM) ?_);refine A3 (E7 ?_);refine eN ?_
  refine U7 (i+1) ?_ ?_ ?_
  ·exact⟨rfl,rfl,rfl,trivial⟩
  ·exact⟨by omega,H⟩
  show 8-(i+1)<8-i;omega
 have hi8:i=8:=by omega
 subst hi8
 refine W8 ?_
 simp only[Exit.then,Exit.inBlock, ↓reduceIte]
 refine JQ (DO Tryz.results178 ?_);refine⟨_,rfl,rfl,?_⟩
 exact H.sub (List.Sublist.cons_cons _ (P4 _))
end
structure HS where
 st:S8
 wt:List UInt8
 m:UInt64
def HS.at_(s:HS):Nat:=s.m.toNat % 64
def jE(s:HS)(b:UInt8):HS:=
 if s.at_=63 then ⟨sX s.st (s.wt.set s.at_ b),s.wt.set s.at_ b,s.m+1⟩ else ⟨s.st,s.wt.set s.at_ b,s.m+1⟩
def I3(s:HS):List UInt8->HS
|[]=>s
|b::l=>I3 (jE s b) l
def HS.init:HS:=⟨AL,replicate 64 0,0⟩
theorem ET(s:HS)(a b:List UInt8):I3 s (a++b)=I3 (I3 s a) b:=by
 induction a generalizing s with
|nil=>rfl
|cons x a ih=>simp[I3,ih]
theorem Ga(s:HS)(b:UInt8):(jE s b).wt.length=s.wt.length:=by unfold jE;split<;>simp
theorem KV(s:HS)(l:List UInt8):(I3 s l).wt.length=s.wt.length:=by
 induction l generalizing s with
|nil=>rfl
|cons x l ih=>rw[I3,ih,Ga]
def aY(wt:List UInt8)(k:Nat)(l:List UInt8):List UInt8:=wt.take k++l++wt.drop (k+l.length)
theorem Gb(wt:List UInt8)(k:Nat)(l:List UInt8)(h:k+l.length<=wt.length):(aY wt k l).length=wt.length:=by simp[aY];omega
theorem KW(wt:List UInt8)(k:Nat)(b:UInt8)(l:List UInt8)(h:k+(l.length+1)<=wt.length):aY (wt.set k b) (k+1) l=aY wt k (b::l):=by
 unfold aY
 have e1:(wt.set k b).take (k+1)=wt.take k++[b]:=by
  rw[List.take_set,List.take_succ_eq_append_getElem oM]
  have:(wt.take k).length=k:=by rw[F7];omega
  rw[dA _ _ oM,this];simp
 have e2:(wt.set k b).drop (k+1+l.length)=wt.drop (k+(b::l).length):=by
  rw[List.drop_set_of_lt oM];congr 1;simp;omega
 rw[e1,e2];simp
theorem RA(m:UInt64)(k:Nat)(h:m.toNat % 64+k<64):(m+UInt64.ofNat k).toNat % 64=m.toNat % 64+k:=by
 rw[CY,aM];omega
theorem KX(m:UInt64)(k:Nat):m+1+UInt64.ofNat k=m+UInt64.ofNat (k+1):=by
 apply UInt64.toNat_inj.1
 rw[CY,CY,CY,aM,aM]
 have:(1:UInt64).toNat=1:=rfl
 omega
theorem Gc(l:List UInt8):∀s:HS,s.wt.length=64->s.at_+l.length<64->I3 s l=⟨s.st,aY s.wt s.at_ l,s.m+UInt64.ofNat l.length⟩:=by
 induction l with
|nil=>intro s hw _;simp[I3,aY]
|cons b l ih=>
  intro s hw h
  have vO:s.at_≠63:=by simp at h;omega
  have e:jE s b=⟨s.st,s.wt.set s.at_ b,s.m+1⟩:=by unfold jE;rw[if_neg vO]
  have ha:(s.m+1).toNat % 64=s.at_+1:=RA s.m 1 (by simp[HS.at_]at h ⊢;omega)
  rw[I3,e,ih _ (by simpa using hw) (by simp only[HS.at_,G8]at h ha ⊢;omega)]
  simp only[HS.at_]at ha ⊢
  rw[ha]
  have:=KW s.wt (s.m.toNat % 64) b l (by simp[HS.at_]at h;omega)
  rw[this,KX];rfl
theorem Gd(l:List UInt8):∀s:HS,s.wt.length=64->s.at_+l.length=64->l≠[]->I3 s l=⟨sX s.st (aY s.wt s.at_ l),aY s.wt s.at_ l,s.m+UInt64.ofNat l.length⟩:=by
 induction l with
|nil=>intro s _ _ h;exact absurd rfl h
|cons b l ih=>
  intro s hw h _
  by_cases hl:l=[]
  ·subst hl
   have vO:s.at_=63:=by simp at h;omega
   have e:jE s b=⟨sX s.st (s.wt.set s.at_ b),s.wt.set s.at_ b,s.m+1⟩:=by unfold jE;rw[if_pos vO]
   have e2:aY s.wt s.at_ [b]=s.wt.set s.at_ b:=by
    have:=KW s.wt s.at_ b [] (by simp;omega)
    rw[<-this,aY];simp
   rw[I3,I3,e,e2];rfl
  have hpos:0<l.length:=JE.2 hl
  have vO:s.at_≠63:=by simp at h;omega
  have e:jE s b=⟨s.st,s.wt.set s.at_ b,s.m+1⟩:=by unfold jE;rw[if_neg vO]
  have ha:(s.m+1).toNat % 64=s.at_+1:=RA s.m 1 (by simp[HS.at_]at h ⊢;omega)
  rw[I3,e,ih _ (by simpa using hw) (by simp only[HS.at_,G8]at h ha ⊢;omega) hl]
  simp only[HS.at_]at ha ⊢
  rw[ha]
  have:=KW s.wt (s.m.toNat % 64) b l (by simp[HS.at_]at h;omega)
  rw[this,KX];rfl
def S5(s:HS):List Value:=N8 s.st s.wt s.m
theorem Ge(s:S8)(wt:List UInt8)(m:UInt64):∀v∈N8 s wt m,v.oneCell'=true:=by
 intro v hv
 simp only[N8,K8,S3,J6,List.not_mem_nil,or_false]at hv
 rcases hv with rfl|⟨_,_,rfl⟩|⟨_,_,rfl⟩|rfl<;>rfl
theorem Gf(s:S8)(wt:List UInt8)(m:UInt64)(k:Nat)(l:List UInt8)(h:wt.length=64)(hk:k+l.length<=64):
  (N8 s wt m).take (0+9+k*1)++l.map V8++(N8 s wt m).drop (0+9+k*1+l.length)=N8 s (aY wt k l) m:=by
 have e:N8 s wt m=(.bool true::s.l.map E8)++(wt.map V8++[L9 m]):=rfl
 have h9:(Value.bool true::s.l.map E8).length=9:=by simp[S8.l]
 have e2:N8 s (aY wt k l) m=(.bool true::s.l.map E8)++((aY wt k l).map V8++[L9 m]):=rfl
 have e3:0+9+k*1=(Value.bool true::s.l.map E8).length+k:=by omega
 rw[e,e2,e3,O7,List.take_length_add_append,List.drop_length_add_append,lG (by simp;omega),qO (by simp;omega)]
 simp[aY,vC,List.map_drop]
theorem Gg(m:UInt64):i64.wrap ((m.toNat:Int) % 64)=((m.toNat % 64:Nat):Int):=by
 rw[wrap_i64 oM oM];omega
theorem Gh(k:Nat)(_h:k<18446744073709551616):u64.wrap (k:Int)=((UInt64.ofNat k).toNat:Int):=by
 rw[mH,aM];omega
set_option maxHeartbeats 4000000 in
theorem RB(w0:World)(hb:Nat)(s:HS)(a:Option Addr)(len cap:Nat)(l:List UInt8)(P0:s.wt.length=64)(hH:w0.heap[hb]? =some (.cells (S5 s).toArray 251 (0,0)))
  (hr:RdS w0 a (l.map V8))(hl:l.length=len)(v8:len<=cap)(Y7:l≠[]->Apart a [hb])(N2:len<=9223372036854775807):
  Ret Tryz.prog 139 [.pointer (some ⟨hb,0,none⟩),.slice a len cap] w0 fun v w'=>v=.tuple #[]/\Hp w0 w' [hb] [.blk hb (S5 (I3 s l)) 251]:=by
 refine T7 Tryz.func139 rfl Tryz.ntmps139 (by simp) ?_
 have H:=Hp.start w0 (.blk hb (S5 s) 251) hb hH rfl
 refine rG ?_;refine A3 (E7 ?_);refine A3 (N4 Tryz.func177 rfl rfl rfl (QX _ hb true _ _ hH rfl) ?_);rintro _ w ⟨rfl,hw⟩
 rw[hw];clear hw w
 refine eN ?_
 refine qN ?_;refine M6 ?_;refine qB ?_;refine aA (ι:=Option Addr×Nat×Nat×List UInt8×HS) (fun i=>[(0,.pointer (some ⟨hb,0,none⟩)),(1,.slice i.1 i.2.1 i.2.2.1)])
  (fun i w=>i.2.1<=i.2.2.1/\i.2.1<=9223372036854775807/\i.2.2.2.1.length=i.2.1/\RdS w0 i.1 (i.2.2.2.1.map V8)/\(i.2.2.2.1≠[]->Apart i.1 [hb])/\i.2.2.2.2.wt.length=64/\I3 i.2.2.2.2 i.2.2.2.1=I3 s l/\Hp w0 w [hb] [.blk hb (S5 i.2.2.2.2) 251])
  (fun i=>i.2.1) (a,len,cap,l,s) ⟨rfl,rfl,trivial⟩ ⟨v8,N2,hl,hr,Y7,P0,rfl,H⟩ ?_
 clear H hr hl v8 Y7 N2 P0 hH
 rintro⟨a,len,cap,rest,s'⟩ τ w ⟨v8,N2,hl,hr,Y7,P0,U4,H⟩
 simp only at v8 N2 hl hr Y7 P0 U4 H
 refine rG ?_;refine A3 (E7 ?_);refine A3 (PW aX rfl ?_);refine A3 (J3 rfl rfl (fun _=>zY) ?_);refine eN ?_
 repeat refine D8 ?_
 refine iU rfl (fun hlt=>?_) (fun hlt=>?_)
 ·have D7:0<len:=by have:(0:Int)<(len:Int):=hlt;omega
  have hne0:rest≠[]:=fun e=>by rw[e]at hl;simp at hl;omega
  obtain⟨st,wt,m⟩:=s'
  simp only[S5]at P0 H
  obtain⟨iM,lN⟩:∃iM,m.toNat % 64=iM:=⟨_,rfl⟩
  have hat64:iM<64:=by omega
  obtain⟨k,hk⟩:∃k,min len (64-iM)=k:=⟨_,rfl⟩
  have nS:0<k:=by omega
  have hk2:k<=len:=by omega
  have hk3:iM+k<=64:=by omega
  have vQ:(rest.take k).length=k:=by rw[F7];omega
  have hC:=AN st wt m P0
  refine M6 ?_;refine qB ?_;refine rG ?_;refine A3 (E7 ?_);refine A3 (sL rfl ?_);refine A3 (oV rfl AK ?_);refine A3 (x4 H (i:=0) rfl rfl EH (EQ _ _ _ P0) ?_);refine A3 (J3 rfl rfl (fun _=>PP oM oM) ?_);refine A3 (sP Tryz.underlying37 Tryz.underlying3 rfl ((Gg m).trans (congrArg _ lN)) ?_);refine A3 (U8 ?_);refine eN ?_
  refine rG ?_;refine A3 (E7 ?_);refine A3 (sL rfl ?_);refine A3 (oV rfl QQ ?_);refine A3 (E7 ?_);refine A3 (Dp (l:=iM) rfl AJ rfl rfl rfl (fun w=>by exact EB oM oM w) oM ?_);refine A3 (E7 ?_);refine A3 (QB H (i:=0) (vs:=rest.map V8) rfl Tryz.underlying45 Tryz.underlying45 xB (by decide) rfl rfl (H.rd hr (Y7 hne0)) (by simp[hl]) (by simp[Value.oneCell']) (by rw[hC];omega) (fun w H=>?_))
  rw[hk]at H ⊢
  have e1:(rest.map V8).take (k*1)=(rest.take k).map V8:=by rw[l5,vC]
  have e2:0+9+iM*1+k*1=0+9+iM*1+(rest.take k).length:=by rw[vQ];omega
  rw[e1,e2,Gf st wt m iM (rest.take k) P0 oM]at H
  refine A3 (U8 ?_);refine eN ?_
  obtain⟨lO,hwt'⟩:∃x,aY wt iM (rest.take k)=x:=⟨_,rfl⟩
  have hwl:lO.length=64:=by rw[<-hwt',Gb _ _ _ oM,P0]
  rw[hwt']at H
  refine rG ?_;refine A3 (E7 ?_);refine A3 (E7 ?_);refine A3 (Dl (a:=a) (len:=len) (cap:=cap) (l:=k) rfl aX rfl rfl rfl (fun w=>by exact EB oM oM w) ?_);refine A3 (U8 ?_);refine eN ?_
  have dH:RdS w0 (sa a k cap 1) ((rest.drop k).map V8):=by
   have:=hr.sa k cap 1 (by simp;omega)
   rwa [l5, <-List.map_drop]at this
  refine rG ?_;refine A3 (E7 ?_);refine A3 (sL rfl ?_);refine A3 (oV rfl AK ?_);refine A3 (x4 H (i:=0) rfl rfl EH (EQ _ _ _ hwl) ?_);refine A3 (E7 ?_);refine A3 (sP Tryz.underlying3 Tryz.underlying37 rfl (Gh k oM) ?_);refine A3 (J3 rfl rfl (fun _=>Cw) ?_);refine A3 (sL rfl ?_);refine A3 (oV rfl AK ?_);refine A3 (oW H (i:=0) (v:=L9 (m+UInt64.ofNat k)) rfl rfl rfl El rfl (by rw[AN _ _ _ hwl];decide) (fun w H=>?_));refine eN ?_
  have e3:(N8 st lO m).set (0+73) (L9 (m+UInt64.ofNat k))=N8 st lO (m+UInt64.ofNat k):=Fu _ _ _ _ hwl
  simp only[List.set_cons_zero]at H
  rw[e3]at H
  refine rG ?_;refine A3 (E7 ?_);refine A3 (E7 ?_);refine A3 (J3 rfl rfl (fun _=>Z9 oM oM) ?_);refine A3 (J3 rfl rfl (fun _=>JT) ?_);refine eN ?_
  have hsum:I3 ⟨st,wt,m⟩ rest=I3 (I3 ⟨st,wt,m⟩ (rest.take k)) (rest.drop k):=by rw[<-ET,uY]
  repeat refine D8 ?_
  refine iU rfl (fun h64=>?_) (fun h64=>?_)
  ·have hfull:I3 ⟨st,wt,m⟩ (rest.take k)=⟨sX st lO,lO,m+UInt64.ofNat k⟩:=by
    have D5:rest.take k≠[]:=fun e=>by rw[e]at vQ;simp at vQ;omega
    have:=Gd (rest.take k) ⟨st,wt,m⟩ P0 (by show m.toNat % 64+_=64;omega) D5
    have e4:HS.at_ ⟨st,wt,m⟩=iM:=lN
    rw[this,e4,vQ];simp only[hwt']
   refine rG ?_;refine A3 (E7 ?_);refine A3 (N4 Tryz.func178 rfl rfl rfl (Fz _ hb st lO (m+UInt64.ofNat k) hwl (H.blk (i:=0) rfl)) ?_);rintro _ w ⟨rfl,Hc⟩
   replace H:=H.callAt (i:=0) rfl rfl rfl Hc
   refine eN ?_
   refine U7 (sa a k cap 1,len-k,cap-k,rest.drop k,⟨sX st lO,lO,m+UInt64.ofNat k⟩) ?_ ?_ ?_
   ·exact⟨rfl,rfl,trivial⟩
   ·exact⟨by simp only;omega,by simp only;omega,by simp only[K4];omega,dH,fun _=>(Y7 hne0).sa k cap 1,hwl,by simp only;rw[<-hfull, <-hsum,U4],H⟩
   show len-k<len;omega
  have hless:I3 ⟨st,wt,m⟩ (rest.take k)=⟨st,lO,m+UInt64.ofNat k⟩:=by
   have:=Gc (rest.take k) ⟨st,wt,m⟩ P0 (by show m.toNat % 64+_<64;omega)
   have e4:HS.at_ ⟨st,wt,m⟩=iM:=lN
   rw[this,e4,vQ];simp only[hwt']
  refine M6 ?_;refine U7 (sa a k cap 1,len-k,cap-k,rest.drop k,⟨st,lO,m+UInt64.ofNat k⟩) ?_ ?_ ?_
  ·exact⟨rfl,rfl,trivial⟩
  ·exact⟨by simp only;omega,by simp only;omega,by simp only[K4];omega,dH,fun _=>(Y7 hne0).sa k cap 1,hwl,by simp only;rw[<-hless, <-hsum,U4],H⟩
  show len-k<len;omega
 have h0:rest=[]:=l4.1 (by have:¬ (0:Int)<(len:Int):=hlt;omega)
 subst h0
 refine W8 ?_
 simp only[Exit.then,Exit.inBlock, ↓reduceIte]
 refine JQ (DO Tryz.results139 ?_);refine⟨_,rfl,rfl,?_⟩
 rw[<-U4];exact H
theorem Hp.unS{L:List Ch}{b:Nat}{T:TypeId}(H:Hp w0 w (b::S) (.blk b C T::L))(h0:w0.heap[b]? =some (.cells C.toArray T (0,0))):Hp w0 w S L:=by
 have iH:=List.pairwise_cons.1 H.nd
 refine⟨H.os,H.tape,H.output,H.size,fun b' I2 hn=>?_,fun c hc=>H.has c (by simp[hc]),fun c hc b' hk=>?_,iH.2⟩
 ·by_cases h:b'=b
  ·subst h;rw[h0];exact H.has (.blk b' C T) (by simp)
  exact H.frame b' I2 (fun hm=>by rcases K8.1 hm with h1|h1;exact h h1;exact hn h1)
 rcases H.fresh c (by simp[hc]) b' hk with h1|h1
 ·simp only[K8]at h1
  rcases h1 with rfl|h1
  ·exact absurd hk (iH.1 c hc _ rfl)
  exact .inl h1
 exact .inr h1
theorem Gi(s:HS)(P0:s.wt.length=64):((S5 s).drop 0).take 74=S5 s:=by
 rw[qM,V9 (by rw[S5,AN _ _ _ P0];decide)]
theorem Gj(s:HS):(S5 s).toArray.all (·.oneCell')=true:=by
 rw[nL,P5];exact Ge _ _ _
theorem EU(s:HS)(P0:s.wt.length=64):(S5 s).length=74:=AN _ _ _ P0
theorem Gk(s:HS)(b:UInt8):(jE s b).m=s.m+1:=by unfold jE;split<;>rfl
theorem Gm(l:List UInt8):∀s:HS,(I3 s l).m=s.m+UInt64.ofNat l.length:=by
 induction l with
|nil=>intro s;simp[I3]
|cons b l ih=>intro s;rw[I3,ih,Gk,KX];rfl
def dQ(m:UInt64):Nat:=(119-m.toNat % 64) % 64
def jF(m:UInt64):List UInt8:=(List.range 8).map fun i=>((m<<<3)>>>UInt64.ofNat (56-8*i)).toUInt8
theorem RC(m:UInt64):(jF m).length=8:=by simp[jF]
theorem Gn(m:UInt64)(i:Nat)(h:i<8):(jF m).take (i+1)=(jF m).take i++[((m<<<3)>>>UInt64.ofNat (56-8*i)).toUInt8]:=by
 rw[List.take_succ_eq_append_getElem (by rw[RC];exact h)]
 simp[jF]
def RD(m:UInt64):List UInt8:=128::(replicate (dQ m) 0++jF m)
def AP(s:HS):HS:=I3 s (RD s.m)
def gM(l:List UInt32):List UInt8:=(List.range 32).map fun j=>((l.getD (j / 4) 0)>>>UInt32.ofNat (24-8*(j % 4))).toUInt8
def sY(s:HS):List UInt8:=gM (AP s).st.l
theorem RE(l:List UInt32):(gM l).length=32:=by simp[gM]
theorem RF(s:HS):(sY s).length=32:=RE _
def jG(l:List UInt8)(j n:Nat):List Value:=(l.take j).map V8++replicate (n-j) (V8 0)
theorem Gp(l:List UInt8)(n:Nat):jG l 0 n=replicate n (V8 0):=by simp[jG]
theorem Gq(l:List UInt8)(n:Nat)(h:l.length=n):jG l n n=l.map V8:=by simp[jG,V9 (Nat.le_of_eq h)]
theorem Gr(l:List UInt8)(j n:Nat)(h:l.length=n)(hj:j<=n):(jG l j n).length=n:=by simp[jG];omega
theorem Gt(l:List UInt8)(j n:Nat)(h:l.length=n)(hj:j<n)(v:UInt8)(hv:l[j]? =some v):(jG l j n).set j (V8 v)=jG l (j+1) n:=by
 have h1:((l.take j).map V8).length=j:=by simp;omega
 have h2:l.take (j+1)=l.take j++[v]:=by
  rw[DE,hv];rfl
 unfold jG
 rw[dA _ _ oM,h1,h2,bP]
 have:n-j=(n-(j+1))+1:=by omega
 rw[this,List.replicate_succ]
 simp
theorem Gu(l:List UInt32)(i k:Nat)(hi:i<8)(hk:k<4):(gM l)[4*i+k]? =some ((l.getD i 0)>>>UInt32.ofNat (24-8*k)).toUInt8:=by
 have e1:(4*i+k) / 4=i:=by omega
 have e2:(4*i+k) % 4=k:=by omega
 simp[gM,Y6,JF (show 4*i+k<32 by omega),e1,e2]
theorem RG{a:Int}(h0:0<=a)(h1:a<18446744073709551616):u64.wrap a=a:=by rw[mH];omega
theorem KY{L:List Ch}{b hb:Nat}{s:HS}{x:UInt8}{T:TypeId}(H:Hp w0 w S (L++[.blk b [V8 x] T]))(hi:L[i]? =some (.blk hb (S5 s) 251))(P0:s.wt.length=64):
  Ret Tryz.prog 139 [.pointer (some ⟨hb,0,none⟩),.slice (some ⟨b,0,none⟩) 1 1] w fun v w'=>v=.tuple #[]/\Hp w0 w' S (L.set i (.blk hb (S5 (I3 s [x])) 251)):=by
 have hlt:i<L.length:=(N1.1 hi).1
 have G9:(L++[Ch.blk b [V8 x] T])[i]? =some (.blk hb (S5 s) 251):=by rw[N5 hlt];exact hi
 have I2:(Ch.blk b [V8 x] T).ok w:=H.has _ (by simp)
 have D5:b≠hb:=by
  intro e
  have:=JZ H.nd (i:=i) (j:=L.length) (e:=.blk b [V8 x] T) G9 (by simp) oM (b:=hb) rfl
  exact this (by rw[e];rfl)
 refine(RB w hb s (some ⟨b,0,none⟩) 1 1 [x] P0 (H.has _ (E3 G9)) (Ch.rd_all I2) rfl (B2 _) (fun _ y hy=>?_) (by decide)).mono fun v w' ⟨hv,Hc⟩=>⟨hv,?_⟩
 ·cases hy;simpa using D5
 have:=H.callAt G9 rfl rfl Hc
 rw[Z5,List.set_append_left _ _ hlt]at this
 exact this.sub (DD _ _)
theorem KZ(z v:Value)(hv:v.oneCell'=true):Instr.fill (fun i=>some (i*1,1)) ((Array.range (1*1)).map (([z].toArray)[· % ([z].toArray).size]!)) [(0,v)]=some #[v]:=by
 have:v.cells= #[v]:=by cases v<;>simp_all[Value.cells,Value.oneCell']
 have e:Array.range (1*1)= #[0]:=by decide
 rw[e]
 simp[Instr.fill,this,Array.zipIdx]
set_option maxHeartbeats 4000000 in
theorem Gv(w0:World)(T4:Nat)(s:HS)(P0:s.wt.length=64)(hH:w0.heap[T4]? =some (.cells (S5 s).toArray 251 (0,0))):
  Ret Tryz.prog 140 [.pointer (some ⟨T4,0,none⟩)] w0 fun v w'=>v=.agg ((sY s).map V8).toArray/\Hp w0 w' [] []:=by
 refine T7 Tryz.func140 rfl Tryz.ntmps140 (by simp) ?_
 have H:=Hp.start w0 (.blk T4 (S5 s) 251) T4 hH rfl
 refine rG ?_;refine A3 (W9 H aW (fun b2 w H U5=>?_));refine eN ?_
 refine rG ?_;refine A3 (W9 H aW (fun b3 w H z6=>?_));refine eN ?_
 refine rG ?_;refine A3 (E7 ?_);refine A3 (N4 Tryz.func177 rfl rfl rfl (QX _ T4 true _ _ (H.blk (i:=0) rfl) rfl) ?_);rintro _ w' ⟨rfl,hw⟩
 rw[hw];clear hw w'
 refine eN ?_
 refine qN ?_;refine M6 ?_;refine rG ?_;refine A3 (E7 ?_);refine A3 (sL rfl ?_);refine A3 (DZ H (i:=0) rfl rfl Ey (by rw[EU s P0];decide) ?_)
 rw[Gi s P0]
 refine A3 (W9 H QP (fun b4 w H hb4=>?_));refine A3 (iY H (i:=3) rfl rfl rfl (by rw[Ez];simp[EU s P0]) (Gj s) (by simp[EU s P0]) (fun w H=>?_));refine eN ?_
 refine rG ?_;refine A3 (E7 ?_);refine A3 (sL rfl ?_);refine A3 (oV rfl AK ?_);refine A3 (x4 H (i:=0) rfl rfl EH (EQ _ _ _ P0) ?_);refine A3 (sO rfl rfl (.inl rfl) (fun _=>Dc (by decide) (by decide)) ?_);refine A3 (U8 ?_);refine eN ?_
 refine rG ?_;refine A3 (sU H eY pC (by decide) rfl (by decide) (KZ _ (V8 128) rfl) (fun b w H hb=>?_));refine A3 (N4 Tryz.func139 rfl rfl rfl (KY (x:=128) H (i:=3) rfl P0) ?_);rintro _ w ⟨rfl,Hc⟩
 clear H
 have H:=Hc;clear Hc
 refine eN ?_
 have e1:s.m.toNat<18446744073709551616:=DX s.m
 refine qB ?_;refine aA (ι:=Nat) (fun _=>[(5,L9 (s.m<<<3)),(4,.pointer (some ⟨b4,0,none⟩)),(3,.pointer (some ⟨b3,0,none⟩)),(2,.pointer (some ⟨b2,0,none⟩))])
  (fun j w=>j<=dQ s.m/\Hp w0 w [T4] [.blk T4 (S5 s) 251,.blk b2 (replicate 32 (V8 0)) 36,.blk b3 (replicate 32 (V8 0)) 36,.blk b4 (S5 (I3 s (128::replicate j 0))) 251])
  (fun j=>dQ s.m-j) 0 ⟨rfl,rfl,rfl,rfl,trivial⟩ ⟨L8 _,H⟩ ?_
 clear H
 rintro j τ w ⟨hj,H⟩
 have lP:(I3 s (128::replicate j 0)).wt.length=64:=by rw[KV,P0]
 have w3:(I3 s (128::replicate j 0)).m.toNat % 64=(s.m.toNat+1+j) % 64:=by
  rw[Gm,CY,aM,G8,jV];omega
 refine rG ?_;refine A3 (oV rfl AK ?_);refine A3 (x4 H (i:=3) rfl rfl EH (EQ _ _ _ lP) ?_);refine A3 (J3 rfl rfl (fun _=>PP oM oM) ?_);refine A3 (J3 rfl rfl (fun _=>DQ) ?_);refine eN ?_
 repeat refine D8 ?_
 refine iU rfl (fun D5=>?_) (fun D5=>?_)
 ·have hjz:j<dQ s.m:=by
   simp only[dQ]at hj ⊢
   omega
  clear w3 D5
  generalize hc:I3 s (128::replicate j 0)=c at H lP
  refine M6 ?_;refine qB ?_;refine rG ?_;refine A3 (sU H eY pC (by decide) rfl (by decide) (KZ _ (V8 0) rfl) (fun b w H hb=>?_));refine A3 (N4 Tryz.func139 rfl rfl rfl (KY (x:=0) H (i:=3) rfl lP) ?_);rintro _ w ⟨rfl,Hc⟩
  clear H
  have H:=Hc;clear Hc
  refine eN ?_
  refine U7 (j+1) ?_ ?_ ?_
  ·exact⟨rfl,rfl,rfl,rfl,trivial⟩
  ·refine⟨hjz,?_⟩
   have e:I3 s (128::replicate (j+1) 0)=I3 c [0]:=by
    rw[List.replicate_succ', <-hc, <-ET];rfl
   rw[e];exact H
  show dQ s.m-(j+1)<dQ s.m-j;omega
 have hjz:j=dQ s.m:=by
  simp only[dQ]at hj ⊢
  omega
 subst hjz
 clear w3 D5 hj lP
 refine W8 ?_;refine rG ?_;refine A3 (E7 ?_);refine eN ?_
 refine qB ?_;refine aA (ι:=Nat) (fun i=>[(29,VI i),(5,L9 (s.m<<<3)),(4,.pointer (some ⟨b4,0,none⟩)),(3,.pointer (some ⟨b3,0,none⟩)),(2,.pointer (some ⟨b2,0,none⟩))])
  (fun i w=>i<=8/\Hp w0 w [T4] [.blk T4 (S5 s) 251,.blk b2 (replicate 32 (V8 0)) 36,.blk b3 (replicate 32 (V8 0)) 36,.blk b4 (S5 (I3 s (128::(replicate (dQ s.m) 0++(jF s.m).take i)))) 251])
  (fun i=>8-i) 0 ⟨rfl,rfl,rfl,rfl,rfl,trivial⟩ ⟨by omega,by rw[List.take_zero,Z5];exact H⟩ ?_
 clear H
 rintro i τ w ⟨hi,H⟩
 have lP:(I3 s (128::(replicate (dQ s.m) 0++(jF s.m).take i))).wt.length=64:=by rw[KV,P0]
 refine rG ?_;refine A3 (J3 rfl rfl (fun _=>aB) ?_);refine eN ?_
 repeat refine D8 ?_
 refine iU rfl (fun hlt=>?_) (fun hlt=>?_)
 ·have aN:i<8:=by omega
  generalize hc:I3 s (128::(replicate (dQ s.m) 0++(jF s.m).take i))=c at H lP
  have e2:(56-8*(i:Int)).toNat=56-8*i:=by omega
  refine M6 ?_;refine qB ?_;refine rG ?_;refine A3 (E7 ?_);refine A3 (U8 ?_);refine eN ?_
  refine rG ?_;refine A3 (E7 ?_);refine A3 (E7 ?_);refine A3 (J3 rfl rfl (fun _=>sQ oM oM) ?_);refine A3 (J3 rfl rfl (fun _=>gE oM oM) ?_);refine A3 (sP Tryz.underlying3 Tryz.underlying172 rfl (RG (a:=56-8*(i:Int)) oM oM) ?_);refine A3 (sO rfl rfl (.inr rfl) (fun _=>PS oM oM) ?_)
  rw[e2]
  refine A3 (sP Tryz.underlying37 Tryz.underlying5 rfl (JX _) ?_);refine A3 (sU H eY pC (by decide) rfl (by decide) (KZ _ (V8 (((s.m<<<3)>>>UInt64.ofNat (56-8*i)).toUInt8)) rfl) (fun b w H hb=>?_));refine A3 (N4 Tryz.func139 rfl rfl rfl (KY (x:=((s.m<<<3)>>>UInt64.ofNat (56-8*i)).toUInt8) H (i:=3) rfl lP) ?_);rintro _ w ⟨rfl,Hc⟩
  clear H
  have H:=Hc;clear Hc
  refine eN ?_
  refine rG ?_;refine A3 (J3 rfl rfl (fun _=>Z9 oM oM) ?_);refine A3 (E7 ?_);refine eN ?_
  refine U7 (i+1) ?_ ?_ ?_
  ·exact⟨rfl,rfl,rfl,rfl,rfl,trivial⟩
  ·refine⟨aN,?_⟩
   have e:I3 s (128::(replicate (dQ s.m) 0++(jF s.m).take (i+1)))=I3 c [((s.m<<<3)>>>UInt64.ofNat (56-8*i)).toUInt8]:=by
    rw[Gn s.m i aN, <-hc, <-ET, <-H9];rfl
   rw[e];exact H
  show 8-(i+1)<8-i;omega
 have hi8:i=8:=by omega
 subst hi8
 have bQ:I3 s (128::(replicate (dQ s.m) 0++(jF s.m).take 8))=AP s:=by
  rw[V9 (Nat.le_of_eq (RC _)),AP,RD]
 rw[bQ]at H lP
 have hdg:sY s=gM (AP s).st.l:=rfl
 rw[hdg]
 generalize AP s=c at H lP
 have hl8:c.st.l.length=8:=rfl
 have hld:((S5 c).drop (0+1)).take 8=c.st.l.map E8:=rfl
 refine W8 ?_;refine rG ?_;refine A3 (oV rfl EL ?_);refine A3 (DZ H (i:=3) rfl rfl QL (by rw[EU c lP];decide) ?_)
 rw[hld]
 refine A3 (E7 ?_);refine eN ?_
 generalize c.st.l=l at hl8
 have hW:=RE l
 refine qB ?_;refine aA (ι:=Nat) (fun i=>[(44,VI i),(43,.agg (l.map E8).toArray),(3,.pointer (some ⟨b3,0,none⟩)),(2,.pointer (some ⟨b2,0,none⟩))])
  (fun i w=>i<=8/\Hp w0 w [T4] [.blk T4 (S5 s) 251,.blk b2 (replicate 32 (V8 0)) 36,.blk b3 (jG (gM l) (4*i) 32) 36])
  (fun i=>8-i) 0 ⟨rfl,rfl,rfl,rfl,trivial⟩ ⟨by omega,by rw[Gp];exact H.sub (DD _ [_])⟩ ?_
 clear H
 rintro i τ w ⟨hi,H⟩
 refine rG ?_;refine A3 (J3 rfl rfl (fun _=>aB) ?_);refine eN ?_
 repeat refine D8 ?_
 refine iU rfl (fun hlt=>?_) (fun hlt=>?_)
 ·have aN:i<8:=by omega
  have nT:(l.map E8).toArray[(i:Int).toNat]? =some (E8 (l.getD i 0)):=by
   have:i<l.length:=by omega
   simp[this]
  refine M6 ?_;refine qB ?_;refine rG ?_;refine A3 (E7 ?_);refine A3 (Ds Tryz.underlying248 N7 EK rfl rfl oM oM nT ?_);refine A3 (U8 ?_);refine A3 (U8 ?_);refine eN ?_
  refine rG ?_;refine A3 (E7 ?_);refine eN ?_
  refine qB ?_;refine aA (ι:=Nat) (fun k=>[(48,VI k),(44,VI i),(7,VI i),(8,E8 (l.getD i 0)),(43,.agg (l.map E8).toArray),(3,.pointer (some ⟨b3,0,none⟩)),(2,.pointer (some ⟨b2,0,none⟩))])
   (fun k w=>k<=4/\Hp w0 w [T4] [.blk T4 (S5 s) 251,.blk b2 (replicate 32 (V8 0)) 36,.blk b3 (jG (gM l) (4*i+k) 32) 36])
   (fun k=>4-k) 0 ⟨rfl,rfl,rfl,rfl,rfl,rfl,rfl,trivial⟩ ⟨by omega,H⟩ ?_
  clear H
  rintro k τ w ⟨hk,H⟩
  refine rG ?_;refine A3 (J3 rfl rfl (fun _=>aB) ?_);refine eN ?_
  repeat refine D8 ?_
  refine iU rfl (fun hlk=>?_) (fun hlk=>?_)
  ·have hlk':k<4:=by omega
   have e2:(24-8*(k:Int)).toNat=24-8*k:=by omega
   have e3:0+(4*(i:Int)+(k:Int)).toNat*1=4*i+k:=by omega
   have e4:=Gt (gM l) (4*i+k) 32 hW oM _ (Gu l i k aN hlk')
   refine M6 ?_;refine qB ?_;refine rG ?_;refine A3 (E7 ?_);refine A3 (U8 ?_);refine eN ?_
   refine rG ?_;refine A3 (E7 ?_);refine A3 (J3 rfl rfl (fun _=>sQ oM oM) ?_);refine A3 (E7 ?_);refine A3 (J3 rfl rfl (fun _=>Z9 oM oM) ?_);refine A3 (E7 ?_);refine A3 (E7 ?_);refine A3 (J3 rfl rfl (fun _=>sQ oM oM) ?_);refine A3 (J3 rfl rfl (fun _=>gE oM oM) ?_);refine A3 (sP Tryz.underlying3 Tryz.underlying172 rfl (RG (a:=24-8*(k:Int)) oM oM) ?_);refine A3 (sO rfl rfl (.inr rfl) (fun _=>DW oM oM) ?_)
   rw[e2]
   refine A3 (sP Tryz.underlying247 Tryz.underlying5 rfl (Dd _) ?_);refine A3 (cI rfl rfl sW oM oM ?_);refine A3 (oW H (i:=2) (v:=V8 ((l.getD i 0)>>>UInt32.ofNat (24-8*k)).toUInt8) rfl rfl rfl xB rfl (by rw[Gr _ _ _ hW oM];omega) (fun w H=>?_));refine eN ?_
   rw[e3,e4]at H
   refine rG ?_;refine A3 (J3 rfl rfl (fun _=>Z9 oM oM) ?_);refine A3 (E7 ?_);refine eN ?_
   refine U7 (k+1) ?_ ?_ ?_
   ·exact⟨rfl,rfl,rfl,rfl,rfl,rfl,rfl,trivial⟩
   ·exact⟨hlk',H⟩
   show 4-(k+1)<4-k;omega
  have hk4:k=4:=by omega
  subst hk4
  refine W8 ?_;refine rG ?_;refine A3 (J3 rfl rfl (fun _=>Z9 oM oM) ?_);refine A3 (E7 ?_);refine eN ?_
  refine U7 (i+1) ?_ ?_ ?_
  ·exact⟨rfl,rfl,rfl,rfl,trivial⟩
  ·exact⟨aN,H⟩
  show 8-(i+1)<8-i;omega
 have hi8:i=8:=by omega
 subst hi8
 rw[Gq _ _ hW]at H
 have hWa:((gM l).map V8).toArray.all (·.oneCell')=true:=by rw[nL];simp[Value.oneCell']
 have hWt:(((gM l).map V8).drop 0).take 32=(gM l).map V8:=by rw[qM,V9 (by simp[hW])]
 refine W8 ?_;refine rG ?_;refine A3 (DZ H (i:=2) rfl rfl aV (by simp[hW]) ?_)
 rw[hWt]
 refine A3 (iY H (i:=1) rfl rfl rfl (by rw[jC];simp[hW]) hWa (by simp[hW]) (fun w H=>?_));refine eN ?_
 refine iV (AE Tryz.results140 H (i:=1) rfl rfl aV (by simp[hW]) ⟨_,rfl,rfl,?_⟩);exact(H.unS hH).sub (P4 _)
section
variable {n:Nat} {σ:Nat->Value} {K:Act->World->Prop}
 {ty:TypeId} {pos:String} {aft:Array Edge} {g:Option (Nat×Bool)} {d:Nat} {t:TypeId} {x:Operand} {S:List Nat} {L:List Ch}
end
structure Sl where
 a:Option Addr
 len:Nat
 cap:Nat
 l:List UInt8
def Sl.v(s:Sl):Value:=.slice s.a s.len s.cap
structure Sl.ok (s:Sl) (w:World):Prop where
 rd:RdS w s.a (s.l.map V8)
 ln:s.l.length=s.len
 le:s.len<=s.cap
 mx:s.len<=9223372036854775807
theorem Hp.rd'{L:List Ch}(h:Hp w0 w S L){a:Option Addr}(hr:RdS w0 a vs)(Y7:vs≠[]->Apart a S):RdS w a vs:=by
 by_cases hv:vs=[]
 ·exact .inl hv
 exact h.rd hr (Y7 hv)
theorem Sl.ok.up{x:Sl}{L:List Ch}(hx:x.ok w0)(H:Hp w0 w S L)(Y7:x.l≠[]->Apart x.a S):x.ok w:=
 ⟨H.rd' hx.rd (fun h=>Y7 (by simpa using h)),hx.ln,hx.le,hx.mx⟩
theorem Sl.ok.apart{x:Sl}(hx:x.ok w0){b:Nat}(hb:w0.heap.size<=b):x.l≠[]->Apart x.a [b]:=by
 intro D5 y hy
 rcases hx.rd with h|⟨b',o,C,T,fr,ha,hh,_⟩
 ·exact absurd (by simpa using h) D5
 rw[ha]at hy
 cases hy
 have:=(Z4.1 hh).1
 simp only[O8];omega
theorem Hp.newer{L:List Ch}(H:Hp w0 w [] L){b:Nat}{c:Ch}(hi:L[i]? =some c)(hk:c.key=some b):w0.heap.size<=b:=by
 rcases H.fresh c (E3 hi) b hk with h|h
 ·simp at h
 exact h
def fC(ps:List Sl):List UInt8:=ps.flatMap (·.l)
theorem Gw(ps:List Sl)(i:Nat)(p:Sl)(h:ps[i]? =some p):fC (ps.take (i+1))=fC (ps.take i)++p.l:=by
 rw[DE,h];simp[fC]
theorem Gx{L:List Ch}{hb:Nat}{s:HS}{x:Sl}(H:Hp w0 w S L)(hi:L[i]? =some (.blk hb (S5 s) 251))(P0:s.wt.length=64)(hx:x.ok w)(Y7:x.l≠[]->Apart x.a [hb]):
  Ret Tryz.prog 139 [.pointer (some ⟨hb,0,none⟩),x.v] w fun v w'=>v=.tuple #[]/\Hp w0 w' S (L.set i (.blk hb (S5 (I3 s x.l)) 251)):=by
 refine(RB w hb s x.a x.len x.cap x.l P0 (H.has _ (E3 hi)) hx.rd hx.ln hx.le Y7 hx.mx).mono fun v w' ⟨hv,Hc⟩=>⟨hv,?_⟩
 have:=H.callAt hi rfl rfl Hc
 rw[Z5]at this
 exact this
theorem Gy:N8 AL (replicate 64 0) 0=S5 HS.init:=rfl
theorem RH(l:List UInt8):(I3 HS.init l).wt.length=64:=by rw[KV];rfl
theorem LA(w0:World)(pa:Option Addr)(len cap:Nat)(ps:List Sl)(hr:RdS w0 pa (ps.map Sl.v))(hl:ps.length=len)(M4:∀p∈ps,p.ok w0)(N2:len<9223372036854775807):
  Ret Tryz.prog 87 [.slice pa len cap] w0 fun v w'=>v=.agg ((sY (I3 HS.init (fC ps))).map V8).toArray/\Hp w0 w' [] []:=by
 refine T7 Tryz.func87 rfl Tryz.ntmps87 (by simp) ?_
 have H:=Hp.refl w0 []
 refine rG ?_;refine A3 (W9 H aW (fun b2 w H U5=>?_));refine eN ?_
 refine rG ?_;refine A3 (N4 Tryz.func138 rfl rfl rfl (Fs _) ?_);rintro _ w ⟨hb,rfl,Hc⟩
 replace H:=H.call Hc
 rw[Gy]at H
 clear Hc
 refine A3 (U8 ?_);refine eN ?_
 refine rG ?_;refine A3 (E7 ?_);refine A3 (PW EJ rfl ?_);refine A3 (E7 ?_);refine eN ?_
 refine qB ?_;refine aA (ι:=Nat) (fun i=>[(9,VI i),(8,VI len),(7,.slice pa len cap),(3,.pointer (some ⟨hb,0,none⟩)),(2,.pointer (some ⟨b2,0,none⟩))])
  (fun i w=>i<=len/\Hp w0 w [] [.blk b2 (replicate 32 (V8 0)) 36,.blk hb (S5 (I3 HS.init (fC (ps.take i)))) 251])
  (fun i=>len-i) 0 ⟨rfl,rfl,rfl,rfl,rfl,trivial⟩ ⟨by omega,H⟩ ?_
 clear H
 rintro i τ w ⟨hi,H⟩
 refine rG ?_;refine A3 (J3 rfl rfl (fun _=>aB) ?_);refine eN ?_
 repeat refine D8 ?_
 refine iU rfl (fun hlt=>?_) (fun hlt=>?_)
 ·have aN:i<len:=by omega
  have nT:ps[i]? =some (ps[i]'oM):=B6 _
  generalize (ps[i]'oM)=p at nT
  have hp:=M4 p (E3 nT)
  have hv:(ps.map Sl.v)[(i:Int).toNat*1]? =some p.v:=by simp[nT]
  refine M6 ?_;refine qB ?_;refine rG ?_;refine A3 (Dg rfl rfl EJ oM oM (by decide) (H.rd hr (U9 _)) (by simp[hl]) (fun b o ha=>?_));refine A3 (Dh (H.rd hr (U9 _)) ha rfl EI hv ?_);refine A3 (U8 ?_);refine eN ?_
  refine rG ?_;refine A3 (E7 ?_);refine A3 (E7 ?_);refine A3 (N4 Tryz.func139 rfl rfl rfl (Gx H (i:=1) rfl (RH _) (hp.up H (fun _=>U9 _)) (hp.apart (H.newer (i:=1) rfl rfl))) ?_);rintro _ w ⟨rfl,Hc⟩
  clear H
  have H:=Hc;clear Hc
  rw[<-ET, <-Gw ps i p nT]at H
  refine eN ?_
  refine rG ?_;refine A3 (J3 rfl rfl (fun _=>Z9 oM oM) ?_);refine A3 (E7 ?_);refine eN ?_
  refine U7 (i+1) ?_ ?_ ?_
  ·exact⟨rfl,rfl,rfl,rfl,rfl,trivial⟩
  ·exact⟨aN,H⟩
  show len-(i+1)<len-i;omega
 have G9:i=len:=by omega
 subst G9
 rw[V9 (Nat.le_of_eq hl)]at H
 have hd:=RF (I3 HS.init (fC ps))
 refine W8 ?_;refine rG ?_;refine A3 (E7 ?_);refine A3 (N4 Tryz.func140 rfl rfl rfl (Gv _ hb _ (RH _) (H.blk (i:=1) rfl)) ?_);rintro _ w ⟨rfl,Hc⟩
 replace H:=H.call Hc
 rw[Z5]at H
 refine A3 (iY H (i:=0) rfl rfl rfl (by rw[jC];simp[hd]) (by rw[nL];simp[Value.oneCell']) (by simp[hd]) (fun w H=>?_));refine eN ?_
 refine iV (AE Tryz.results87 H (i:=0) rfl rfl aV (by simp[hd]) ⟨_,rfl,rfl,?_⟩);exact H.sub (P4 _)
section
open Go Go.ChangeShapes Go.WideShapes Go.ChangeAt Go.RowKit
theorem Tryz.own:ownKnob Tryz.prog.godebug=none:=by kernel_rfl
theorem Tryz.laidOut:laidOutB Tryz.prog=true:=by kernel_rfl
section
variable {H:Type} {enc:TypeId×Value->H}
theorem RI(hl:laidOutB P=true){W W':World}(hb:Below W.heap.size W W'):
  ∀{ts:List TypeId} {vs:List Value} {ds:List (DataW H)} {ps:List MemPlace},(∀t∈ts,P.readableRec t=true/\t<P.types.size)->DataW.TrodAll enc P W 0 (fun _=>true) true ts vs ds ps->(∀x∈ps,x.block<W.heap.size)->
   DataW.TrodAll enc P W' 0 (fun b=>decide (b<W.heap.size)) true ts vs ds ps
|[],_,_,_,_,h,_=>by
  obtain⟨rfl,rfl,rfl⟩:=trodAll_nil h
  exact trodAll_mk0
|t::ts,_,_,_,ht,h,hlt=>by
  obtain⟨v,vs,d,ds,p,q,rfl,rfl,rfl,h1,h2⟩:=trodAll_cons h
  exact⟨p,q,Below.trod hl (ht t (by simp)).1 (ht t (by simp)).2 h1 hb (fun x hx=>hlt x (by simp[hx])),RI hl hb (fun u hu=>ht u (by simp[hu])) h2 (fun x hx=>hlt x (by simp[hx])),rfl⟩
theorem Gz(tb:TypeId)(hb:P.underlying tb=some .bool)(w:World)(b:Bool)(P2:Nat)(sp:Nat->Bool)(held:Bool):DataW.Trod enc P w P2 sp held tb (.bool b) (.lit (.bool b)) []:=⟨1,by simp[DataW.trod,hb,Value.cells]⟩
theorem Ha{f:Func}{s:ChangeSpec}{apart fresh handsOn:Bool}{W W':World}{args:Array Value}{ds gs:List (DataW H)}{before:List MemPlace}{tb:TypeId}(hl:laidOutB P=true)
  (hts:∀t∈f.params.toList,P.readableRec t=true/\t<P.types.size)(hW:DataW.Whole enc P f.params.toList s.vars apart W args.toList ds gs before)(hH:Hp W W' [] [])(hv:s.vars=[])
  (hs:s.fn H ds={ results:=[.lit (.bool true)],args:=ds })(hr:f.resultTypes= #[tb])(hb:P.underlying tb=some .bool):s.post enc P f apart fresh handsOn false W args (.bool true) W':=by
 have hlt:=hW.lt
 have hW':=hW
 obtain⟨p,q,hA,hV,rfl,_,_⟩:=hW
 rw[hv]at hV
 cases gs with
|cons g gs=>simp[DataW.TrodVars]at hV
|nil=>
  have hq:q=[]:=by simpa [DataW.TrodVars] using hV
  subst hq
  have hbel:=hH.below
  have hs':s.fn H (ds++[])={ results:=[.lit (.bool true)],args:=ds}:=by rw[Z5];exact hs
  have nU:(Value.bool true).resultList f.resultTypes.size=[.bool true]:=by rw[hr];rfl
  refine⟨ds,[],p++[],[],p,[],hW',?_,?_,?_,hbel.frame _,fun h=>by cases h⟩
  ·rw[hs',nU,hr]
   exact trodAll_mk1 (Gz tb hb W' true _ _ _)
  ·rw[hs']
   exact RI hl hbel hts hA (fun x hx=>hlt x (by simp[hx]))
  rw[hs',hv];rfl
theorem Hd{f:FuncId}{fn:Func}{s:ChangeSpec}{apart fresh handsOn:Bool}{W:World}{args:Array Value}{ds gs:List (DataW H)}{before:List MemPlace}{tb:TypeId}(hl:laidOutB P=true)
  (hts:∀t∈fn.params.toList,P.readableRec t=true/\t<P.types.size)(hW:DataW.Whole enc P fn.params.toList s.vars apart W args.toList ds gs before)(hv:s.vars=[])
  (hs:s.fn H ds={ results:=[.lit (.bool true)],args:=ds })(hr:fn.resultTypes= #[tb])(hb:P.underlying tb=some .bool)
  (h:Ret P f args.toList W fun v w'=>v=.bool true/\Hp W w' [] []):Calls P f args W fun e W'=>∃v,e=.returned v/\s.post enc P fn apart fresh handsOn false W args v W':=by
 have h':Calls P f args W fun e w'=>∃v,e=.returned v/\v=.bool true/\Hp W w' [] []:=by simpa [Ret] using h
 exact x9 h' fun e w' ⟨v,he,vR,hH⟩=>⟨v,he,by subst vR;exact Ha hl hts hW hH hv hs hr hb⟩
end
def He(P:Program)(ts:List TypeId):Bool:=ts.all fun t=>P.readableRec t&&decide (t<P.types.size)
theorem Hf{ts:List TypeId}(h:He Tryz.prog ts=true):∀t∈ts,Tryz.prog.readableRec t=true/\t<Tryz.prog.types.size:=by
 intro t ht
 have:=P5.1 h t ht
 simpa using this
theorem Hg(P:Program)(cs:List Char)(h:P.initOrder=String.ofList cs)(hb:((behindMainWord (wordsSigns cs)).head? == some "cut".toList)=true):∃rest,behindMainWord (wordsSigns P.initOrder.toList)= "cut".toList::rest:=by
 rw[h,String.toList_ofList]
 generalize behindMainWord (wordsSigns cs)=l at hb
 cases l with
|nil=>simp at hb
|cons c r=>exact⟨r,by simpa using hb⟩
set_option maxRecDepth 100000 in
theorem Tryz.cut:∃rest,behindMainWord (wordsSigns Tryz.prog.initOrder.toList)= "cut".toList::rest:=by
 refine Hg Tryz.prog _ rfl ?_
 kernel_rfl
theorem RJ(rest:List (List Char)):stripLifts liftWords ("cut".toList::rest)=([], "cut".toList::rest):=by
 kernel_rfl
theorem Hh{rest:List (List Char)}(h:behindMainWord (wordsSigns P.initOrder.toList)= "cut".toList::rest):P.headLifts=[]:=by
 unfold Program.headLifts
 rw[h,RJ]
 simp
theorem Hi{rest:List (List Char)}(h:behindMainWord (wordsSigns P.initOrder.toList)= "cut".toList::rest):P.liftsFinal=false:=by
 unfold Program.liftsFinal
 rw[h,Hh h]
 simp
theorem Hj{rest:List (List Char)}(h:behindMainWord (wordsSigns P.initOrder.toList)= "cut".toList::rest):P.make=some .cut:=by
 unfold Program.make
 rw[h]
 simp
theorem Hl{rest:List (List Char)}(h:behindMainWord (wordsSigns P.initOrder.toList)= "cut".toList::rest)(h1:P.laysLater=false)(h2:P.bearsReflect=false)(h3:P.doorFits []=true):P.mayEnter=true:=by
 unfold Program.mayEnter
 rw[h]
 simp only[RJ,h1,h2,h3]
 simp
theorem Hm(P:Program)(f:FuncId)(fn:Func)(s:ChangeSpec)(c:OpenClaim)(h1:laidOutB P=true)(h2:mapsRowed P=true)(h3:P.stops=[])(h4:P.stopKnobs=[])(h5:P.stopsHeard=true)(h6:P.mayEnter=true)(h7:P.liftsFinal=false)(h8:P.make=some .cut)(pk:Bool)(h9:P.plainKeys=pk)
  (r:(c.wf (OpenSpec.ofChange s)&&fn.params.all (P.readableRec ·)&&namedTie P c.named s.vars &&
 (c.stops==[])&&(c.knobs==[]) && 
 (c.inPlace==P.inPlace f)&&(c.unfollowed==P.unfollowed f)&&(c.recurses==P.recurses f)&&(c.named==P.varsNamed f))=true)
  (r2:((c.maps==(fn.params.toList++s.plain.varTypes P).any (P.mapsRec ·))&&(c.ifaces==(fn.params.toList++s.plain.varTypes P).any (P.ifacesRec ·))&&(c.mapsOut==P.mapsAmong fn.resultTypes.toList) &&
 (c.loops==(fn.params.toList++s.plain.varTypes P).any (P.loopsFrom ·))&&(c.wideKeys==(fn.params.toList++s.plain.varTypes P++fn.resultTypes.toList).any (P.wideKeysFrom ·)) &&
 s.vars.all (P.varReadable ·)&&fn.resultTypes.all (fun t=>P.readableRec t&&decide (t<P.types.size))&&(c.ifacesOut==fn.resultTypes.toList.any (P.ifacesRec ·))&&(c.loopsOut==fn.resultTypes.toList.any (P.loopsFrom ·))&&(c.plainKeys==pk)&&c.shortTexts.isNone&&(c.lifted==false)&&(some Make.cut==some c.make)&&(c.kinds==(if c.domain.isEmpty then [] else fn.params.toList.map fun t=>match P.underlying t with|some (.int k)=>some k|_=>none))&&(c.pinned==c.pinnedBy) &&
 (c.veiled==(fn.params.toList++s.plain.varTypes P++fn.resultTypes.toList).any (P.veiledRec ·))&&c.veiledFits P fn.params.toList (fn.params.toList++s.plain.varTypes P++fn.resultTypes.toList))=true):joinedFacts P f fn s c=true:=by
 simp only[A9]at r r2
 obtain⟨⟨⟨⟨⟨⟨⟨⟨k1,k4⟩,k5⟩,k6⟩,k8⟩,k10⟩,k11⟩,k12⟩,k13⟩:=r
 obtain⟨⟨⟨⟨⟨⟨⟨⟨⟨⟨⟨⟨⟨⟨⟨⟨m1,m2⟩,m3⟩,m4⟩,m5⟩,m6⟩,m7⟩,m8⟩,m9⟩,m10⟩,m11⟩,m12⟩,m13⟩,m14⟩,m15⟩,m16⟩,m17⟩:=r2
 unfold joinedFacts
 rw[h3,h4,h7,h8,h9]
 simp only[A9]
 exact⟨⟨⟨⟨⟨⟨⟨⟨⟨⟨⟨⟨⟨⟨⟨⟨⟨⟨⟨⟨⟨⟨⟨⟨⟨⟨⟨⟨⟨⟨⟨k1,h1⟩,h2⟩,k4⟩,k5⟩,k6⟩,rfl⟩,k8⟩,rfl⟩,k10⟩,k11⟩,k12⟩,k13⟩,m1⟩,m2⟩,m3⟩,m4⟩,m5⟩,m6⟩,m7⟩,m8⟩,m9⟩,m10⟩,m11⟩,h5⟩,h6⟩,m12⟩,m13⟩,m14⟩,m15⟩,m16⟩,m17⟩
theorem Tryz.mapsRowed:mapsRowed Tryz.prog=true:=by kernel_rfl
theorem Tryz.stops:Tryz.prog.stops=[]:=by kernel_rfl
theorem Tryz.stopKnobs:Tryz.prog.stopKnobs=[]:=by kernel_rfl
theorem Tryz.stopsHeard:Tryz.prog.stopsHeard=true:=by kernel_rfl
theorem Tryz.laysLater:Tryz.prog.laysLater=false:=by kernel_rfl
theorem Tryz.bearsReflect:Tryz.prog.bearsReflect=false:=by kernel_rfl
theorem Tryz.doorFits:Tryz.prog.doorFits []=true:=by kernel_rfl
theorem Tryz.mayEnter:Tryz.prog.mayEnter=true:=Tryz.cut.elim fun _ h=>Hl h Tryz.laysLater Tryz.bearsReflect Tryz.doorFits
theorem Tryz.liftsFinal:Tryz.prog.liftsFinal=false:=Tryz.cut.elim fun _ h=>Hi h
theorem Tryz.make:Tryz.prog.make=some .cut:=Tryz.cut.elim fun _ h=>Hj h
theorem Tryz.plainKeys:Tryz.prog.plainKeys=false:=by kernel_rfl
end
section
open Go Go.ChangeShapes Go.WideShapes Go.ChangeAt Go.RowKit Go.Deep
section
variable {H:Type} {enc:TypeId×Value->H} {W:World}
theorem Hn:Tryz.prog.cellsOf 5=1:=by kernel_rfl
instance:Inhabited Sl:=⟨⟨none,0,0,[]⟩⟩
end
end
inductive Stp where|f (i off:Nat)|e (i z n:Nat)
def Stp.off:Stp->Nat
|.f _ o=>o
|.e i z _=>i*z
def Stp.ok:Stp->Prop
|.f _ _=>True
|.e i _ n=>i<n
def B9:List Stp->Nat
|[]=>0
|x::p=>x.off+B9 p
structure MS where
 s:Nat
 K:List (List UInt8)
inductive V where
|i (k:IntKind) (n:Int)|b (p:Bool)|bc (p:Bool)|s (l:List UInt8)
|st (n:Nat) (g:Nat->V)|ar (z n:Nat) (g:Nat->V)|bs (n:Nat) (l:List UInt8)|tu (n:Nat) (g:Nat->V)
|bl (t:Nat) (l:List UInt8)|sl (t z n:Nat) (g:Nat->V)
|np|pr (r j:Nat) (p:List Stp)|pz (v:V)|ro (v:V)|lit (x:Value)|fn (f:FuncId) (n:Nat) (g:Nat->V)
|os (r z:Nat)|uk (n:Nat)|fo (z:Nat) (b:V) (i:Nat) (v:V)|lb (l:List UInt8)|vw (r:Nat) (p:List Stp) (a n:Nat)
|mp (b n:Nat) (t:MS)
|un
instance:Inhabited V:=⟨.un⟩
inductive Ow where|no|fz (x:Value)|rt (r j k:Nat)|tp (t:Nat)
structure Cx where
 G:Nat->Nat->Ow
 ρ:Nat->Nat->Option (Nat×Nat×Nat)
 Φ:(Nat->Nat->Ow)->(Nat->Nat->Option (Nat×Nat×Nat))->List Nat->Prop
 κ:Nat
 ν:Nat
 wr:Bool
def N9(t:MS):Value:=.tuple #[.int .u8 t.s,.agg (t.K.map fun k=>.agg (k.map fun u=>.int .u8 (u.toNat:Int)).toArray).toArray]
def LB(b:Nat):Nat->Value
|0=>.map (some b)
|n+1=>.int .i64 n
abbrev E9(u:UInt8):Value:=.int .u8 (u.toNat:Int)
def dR:Nat->(Nat->List Value->Prop)->List Value->Prop
|0,_,cs=>cs=[]
|n+1,R,cs=>∃a b,cs=a++b/\dR n R a/\R n b
def FzAt(G:Nat->Nat->Ow)(b o:Nat)(cs:List Value):Prop:=∀(k:Nat) x,cs[k]? =some x->G b (o+k)=.fz x
def SlR(G:Nat->Nat->Ow)(lv:List Nat)(c t n z:Nat)(W:Nat->Nat->Prop)(cs:List Value):Prop:=
 ∃a cap,cs=[.slice a n cap]/\n<=cap/\cap<=maxLen/\t<c/\(t=1->cap=n)/\
  (((a=none\/t=0)/\cap=0)\/∃b o,a=some ⟨b,o,none⟩/\W b o/\(t∈lv->∀i,n*z<=i->i<cap*z->G b (o+i)=.tp t))
def ins(cs:List Value)(o:Nat)(xs:List Value):List Value:=cs.take o++xs++cs.drop (o+xs.length)
theorem o9(h:o+xs.length<=cs.length):(ins cs o xs).length=cs.length:=by simp[ins];omega
def V.sz:V->Nat
|.st n g=>sum n fun k=>(g k).sz
|.ar z n _=>n*z
|.bs n _=>n
|.uk n=>n
|.fo _ y _ _=>y.sz
|_=>1
where sum:Nat->(Nat->Nat)->Nat
|0,_=>0
|n+1,f=>sum n f+f n
def V.mem:V->Bool
|.st n g=>all n fun k=>(g k).mem
|.tu _ _|.ro _|.un=>false
|.fo z y _ v=>y.mem&&v.mem&&beq v.sz z
|_=>true
where all:Nat->(Nat->Bool)->Bool
|0,_=>true
|n+1,f=>all n f&&f n
def rep(X:Cx):V->List Nat->Nat->List Value->Prop
|.i k n,_,_,cs=>cs=[.int k n]/\k.wrap n=n
|.b p,_,_,cs=>cs=[.bool p]
|.s l,_,_,cs=>cs=[.string ⟨l.toArray⟩]/\l.length<=maxLen
|.st n g,lv,c,cs=>dR n (fun k=>rep X (g k) lv c) cs
|.ar z n g,_,_,cs=>cs.length=n*z/\∀k,k<n->rep X (g k) [] 2 ((cs.drop (k*z)).take z)/\(g k).mem=true
|.bs n l,_,_,cs=>l.length=n/\cs=l.map E9
|.tu _ _,_,_,_=>False
|.bl t l,lv,c,cs=>SlR X.G lv c t l.length 1 (fun b o=>FzAt X.G b o (l.map E9)) cs
|.sl t z n g,lv,c,cs=>0<z/\SlR X.G lv c t n z (fun b o=>∀i,i<n->∃es,rep X (g i) [] 2 es/\es.length=z/\(g i).mem=true/\FzAt X.G b (o+i*z) es) cs
|.np,_,_,cs=>cs=[.pointer none]
|.pr r j p,_,c,cs=>(2<=r/\r<c)/\∃b o0 N,X.ρ r j=some (b,o0,N)/\cs=[.pointer (some ⟨b,o0+B9 p,none⟩)]/\∀x∈p,x.ok
|.pz v,_,_,cs=>∃b o es,cs=[.pointer (some ⟨b,o,none⟩)]/\rep X v [] 2 es/\0<es.length/\FzAt X.G b o es
|.lit x,_,_,cs=>cs=[x]/\x.oneCell'=true
|.fn f n g,lv,c,cs=>∃vs:List Value,cs=[.func (.func f) #[] vs.toArray]/\vs.length=n/\∀k,k<n->∃x,vs[k]? =some x/\rep X (g k) lv c [x]
|.ro _,_,_,_=>False
|.bc p,_,_,cs=>cs=[.bool p]
|.os r z,lv,c,cs=>2<=r/\0<z/\∃b n,X.ρ r 0=some (b,0,n*z)/\SlR X.G lv c r n z (fun b' o'=>0<n->b'=b/\o'=0) cs/\(n=0->r∈lv->∃a,cs=[.slice a 0 0])
|.uk n,_,_,cs=>cs.length=n/\∀x∈cs,x.oneCell'=true
|.fo z b i v,lv,c,cs=>i*z+z<=cs.length/\(∃es,es.length=z/\rep X b lv c (ins cs (i*z) es))/\rep X v lv c ((cs.drop (i*z)).take z)
|.lb l,lv,c,cs=>2<c/\SlR X.G lv c 1 l.length 1 (fun b o=>X.ν<=b/\o=0/\FzAt X.G b o (l.map E9)) cs
|.vw r p a n,_,c,cs=>(2<=r/\r<c)/\(∀x∈p,x.ok)/\∃b o N cap,X.ρ r 0=some (b,o,N)/\cs=[.slice (some ⟨b,o+B9 p+a,none⟩) n cap]/\n<=cap/\cap<=maxLen
|.mp b n t,_,c,cs=>cs=[LB b n]/\(∃t',X.G b n=.fz (N9 t')/\(n=0->t'=t))/\2<c
|.un,_,_,_=>True
def V.strip:V->V
|.bl t l=>.bl (bif blt t 2 then t else 0) l
|.sl t z n g=>.sl (bif blt t 2 then t else 0) z n g
|.st n g=>.st n fun k=>(g k).strip
|.fn f n g=>.fn f n fun k=>(g k).strip
|.fo z y m v=>.fo z y.strip m v.strip
|.lb l=>.bl 1 l
|x=>x
def d6:Nat->Bool:=fun _=>false
def V.prs(S:Nat->Bool):V->Bool
|.pr r j _=>S r&&beq j 0
|.os r _|.vw r _ _ _=>S r
|.fo _ y _ v=>y.prs S&&v.prs S
|.st n g|.tu n g|.fn _ n g=>V.mem.all n fun k=>(g k).prs S
|.mp _ _ _=>false
|_=>true
theorem x5{n:Nat}{f:Nat->Bool}(h:V.mem.all n f=true):∀k,k<n->f k=true:=by
 induction n with
|zero=>intro k hk;omega
|succ n ih=>
  simp only[V.mem.all,A9]at h
  intro k hk
  by_cases he:k=n
  ·subst he;exact h.2
  exact ih h.1 k oM
theorem EV{n:Nat}{R:Nat->List Value->Prop}{f:Nat->Nat}{cs:List Value}(h:dR n R cs)(hl:∀k cs,k<n->R k cs->cs.length=f k):cs.length=V.sz.sum n f:=by
 induction n generalizing cs with
|zero=>simp[dR]at h;subst h;rfl
|succ n ih=>
  obtain⟨a,b,rfl,h1,h2⟩:=h
  rw[C6,ih h1 (fun k cs hk=>hl k cs oM),hl n b oM h2]
  rfl
theorem X3{X:Cx}:∀{v:V} {lv c cs},v.mem=true->rep X v lv c cs->cs.length=v.sz:=by
 intro v
 induction v with
|st n g ih=>
  intro lv c cs hm h
  exact EV h fun k cs hk hr=>ih k (x5 hm k hk) hr
|ar z n g ih=>intro lv c cs _ h;exact h.1
|bs n l=>intro lv c cs _ h;obtain⟨h1,rfl⟩:=h;simp[V.sz,h1]
|b|bc|np=>intro lv c cs _ h;simp only[rep]at h;subst h;rfl
|i|s=>intro lv c cs _ h;obtain⟨rfl,_⟩:=h;rfl
|lit x=>intro lv c cs _ h;obtain⟨rfl,_⟩:=h;rfl
|bl t l=>intro lv c cs _ h;obtain⟨_,_,rfl,_⟩:=h;rfl
|sl t z n g=>intro lv c cs _ h;obtain⟨_,_,_,rfl,_⟩:=h;rfl
|pr=>intro lv c cs _ h;obtain⟨_,_,_,_,_,rfl,_⟩:=h;rfl
|pz=>intro lv c cs _ h;obtain⟨_,_,_,rfl,_⟩:=h;rfl
|os r z=>intro lv c cs _ h;obtain⟨_,_,_,_,_,⟨_,_,rfl,_⟩,_⟩:=h;rfl
|mp b n t=>intro lv c cs _ h;obtain⟨rfl,_⟩:=h;rfl
|uk n=>intro lv c cs _ h;exact h.1
|lb l=>intro lv c cs _ h;obtain⟨_,_,_,rfl,_⟩:=h;rfl
|vw=>intro lv c cs _ h;obtain⟨_,_,_,_,_,_,_,rfl,_⟩:=h;rfl
|fo z b i v N3 _=>
  intro lv c cs hm h
  obtain⟨h1,⟨es,h2,h3⟩,_⟩:=h
  simp only[V.mem,A9]at hm
  have:=N3 hm.1.1 h3
  rw[o9 oM]at this
  exact this
|fn=>intro lv c cs _ h;obtain⟨_,rfl,_⟩:=h;rfl
|tu|ro|un=>intro lv c cs hm;cases hm
theorem d7{n:Nat}{R R':Nat->List Value->Prop}{cs:List Value}(h:dR n R cs)(hr:∀k cs,k<n->R k cs->R' k cs):dR n R' cs:=by
 induction n generalizing cs with
|zero=>exact h
|succ n ih=>
  obtain⟨a,b,rfl,h1,h2⟩:=h
  exact⟨a,b,rfl,ih h1 (fun k cs hk=>hr k cs oM),hr n b oM h2⟩
structure Cx.le (X X':Cx) (lv lv':List Nat) (c:Nat):Prop where
 fz:∀b i x,X.G b i=.fz x->X'.G b i=.fz x
 tp:∀b i t,t∈lv'->t<c->X.G b i=.tp t->X'.G b i=.tp t
 lv:∀t,t∈lv'->t<c->t∈lv
 ρ:∀r j p,2<=r->r<c->X.ρ r j=some p->X'.ρ r j=some p
 ν:X'.ν=X.ν
structure Gle (G:Nat->Nat->Ow) (ρ:Nat->Nat->Option (Nat×Nat×Nat)) (G':Nat->Nat->Ow) (ρ':Nat->Nat->Option (Nat×Nat×Nat)) (lv lv':List Nat) (c:Nat):Prop where
 fz:∀b i x,G b i=.fz x->G' b i=.fz x
 tp:∀b i t,t∈lv'->t<c->G b i=.tp t->G' b i=.tp t
 lv:∀t,t∈lv'->t<c->t∈lv
 ρ:∀r j p,2<=r->r<c->ρ r j=some p->ρ' r j=some p
theorem Cx.le.g{X X':Cx}(h:X.le X' lv lv' c)(hc:c'<=c):Gle X.G X.ρ X'.G X'.ρ lv lv' c':=
 ⟨h.fz,fun b i t ht hlt hx=>h.tp b i t ht (X7 hlt hc) hx,fun t ht hlt=>h.lv t ht (X7 hlt hc),fun r j p h2 hr h'=>h.ρ r j p h2 (X7 hr hc) h'⟩
theorem FzAt.mono{G G':Nat->Nat->Ow}{b:Nat}(h:∀b i x,G b i=.fz x->G' b i=.fz x)(hf:FzAt G b o cs):FzAt G' b o cs:=fun k x hk=>h _ _ _ (hf k x hk)
theorem SlR.mono{X X':Cx}{t n z:Nat}{W W':Nat->Nat->Prop}(hl:X.le X' lv lv' c)(hc:c<=c')(hw:∀b o,W b o->W' b o)(h:SlR X.G lv c t n z W cs):SlR X'.G lv' c' t n z W' cs:=by
 obtain⟨a,cap,h1,h2,h3,h4,h5,h6⟩:=h
 refine⟨a,cap,h1,h2,h3,by omega,h5,?_⟩
 rcases h6 with h6|⟨b,o,q1,q2,q3⟩
 ·exact .inl h6
 exact .inr ⟨b,o,q1,hw _ _ q2,fun ht i hi G9=>hl.tp _ _ _ ht h4 (q3 (hl.lv _ ht h4) i hi G9)⟩
theorem Cx.le.nil{X X':Cx}(h:X.le X' lv lv' c):X.le X' [] [] 2:=⟨h.fz,fun _ _ _ ht=>by simp at ht,fun _ ht=>by simp at ht,fun r _ _ h2 hr _=>by omega,h.ν⟩
theorem rep.mono{X X':Cx}:∀{v:V} {lv lv':List Nat} {c c':Nat} {cs:List Value},X.le X' lv lv' c->c<=c'->rep X v lv c cs->rep X' v lv' c' cs:=by
 intro v
 induction v with
|i|b|bc|np|s|bs|lit|un|uk=>intro lv lv' c c' cs _ _ h;exact h
|os r z=>
  intro lv lv' c c' cs hl hc h
  obtain⟨h1,h2,b,n,h3,h4,h5⟩:=h
  have rI:r<c:=by obtain⟨_,_,_,_,_,q,_⟩:=h4;exact q
  exact⟨h1,h2,b,n,hl.ρ _ _ _ h1 rI h3,SlR.mono hl hc (fun _ _ h=>h) h4,fun e hr=>h5 e (hl.lv r hr rI)⟩
|mp b n t=>intro lv lv' c c' cs hl hc h;exact⟨h.1,h.2.1.imp fun _ q=>⟨hl.fz _ _ _ q.1,q.2⟩,X7 h.2.2 hc⟩
|lb l=>intro lv lv' c c' cs hl hc h;exact⟨by have:=h.1;omega,SlR.mono hl hc (fun b o h=>⟨by rw[hl.ν];exact h.1,h.2.1,h.2.2.mono hl.fz⟩) h.2⟩
|vw r p a n=>
  intro lv lv' c c' cs hl hc h
  obtain⟨⟨e1,e2⟩,e3,b,o,N,cap,q1,q2⟩:=h
  exact⟨⟨e1,by omega⟩,e3,b,o,N,cap,hl.ρ _ _ _ e1 e2 q1,q2⟩
|fo z b i v N3 Q6=>
  intro lv lv' c c' cs hl hc h
  obtain⟨h1,⟨es,h2,h3⟩,h4⟩:=h
  exact⟨h1,⟨es,h2,N3 hl hc h3⟩,Q6 hl hc h4⟩
|tu|ro=>intro lv lv' c c' cs _ _ h;exact h.elim
|st n g ih=>intro lv lv' c c' cs hl hc h;exact d7 h fun k cs _ hk=>ih k hl hc hk
|ar z n g ih=>intro lv lv' c c' cs hl hc h;exact⟨h.1,fun k hk=>⟨ih k hl.nil (B2 _) (h.2 k hk).1,(h.2 k hk).2⟩⟩
|bl t l=>intro lv lv' c c' cs hl hc h;exact SlR.mono hl hc (fun b o=>FzAt.mono hl.fz) h
|sl t z n g ih=>
  intro lv lv' c c' cs hl hc h
  refine⟨h.1,SlR.mono hl hc (fun b o hw i hi=>?_) h.2⟩
  obtain⟨es,q1,q2,q4,q3⟩:=hw i hi
  exact⟨es,ih i hl.nil (B2 _) q1,q2,q4,q3.mono hl.fz⟩
|pr r j p=>
  intro lv lv' c c' cs hl hc h
  obtain⟨⟨e1,e2⟩,b,o0,N,q1,q2⟩:=h
  exact⟨⟨e1,by omega⟩,b,o0,N,hl.ρ _ _ _ e1 e2 q1,q2⟩
|pz v ih=>
  intro lv lv' c c' cs hl hc h
  obtain⟨b,o,es,q1,q2,q3,q4⟩:=h
  exact⟨b,o,es,q1,ih hl.nil (B2 _) q2,q3,q4.mono hl.fz⟩
|fn f n g ih=>
  intro lv lv' c c' cs hl hc h
  obtain⟨vs,q1,q2,q3⟩:=h
  exact⟨vs,q1,q2,fun k hk=>by obtain⟨x,h1,h2⟩:=q3 k hk;exact⟨x,h1,ih k hl hc h2⟩⟩
def repv(X:Cx)(lv:List Nat)(c:Nat):V->Value->Prop
|.tu n g,x=>∃C:Array Value,x=.tuple C/\C.size=n/\∀k,k<n->∃y,C[k]? =some y/\repv X lv c (g k) y
|.un,_=>True
|.st n g,x=>∃C:Array Value,x=.agg C/\rep X (.st n g) lv c C.toList
|.ar z n g,x=>∃C:Array Value,x=.agg C/\rep X (.ar z n g) lv c C.toList
|.bs n l,x=>∃C:Array Value,x=.agg C/\rep X (.bs n l) lv c C.toList
|w,x=>rep X w lv c [x]
theorem repv.mono{X X':Cx}:∀{v:V} {lv lv':List Nat} {c c':Nat} {x:Value},X.le X' lv lv' c->c<=c'->repv X lv c v x->repv X' lv' c' v x:=by
 intro v
 induction v with
|tu n g ih=>
  intro lv lv' c c' x hl hc h
  obtain⟨C,h1,h2,h3⟩:=h
  exact⟨C,h1,h2,fun k hk=>by obtain⟨y,q1,q2⟩:=h3 k hk;exact⟨y,q1,ih k hl hc q2⟩⟩
|st|ar|bs=>intro lv lv' c c' x hl hc h;obtain⟨C,h1,h2⟩:=h;exact⟨C,h1,rep.mono hl hc h2⟩
|un=>intro _ _ _ _ _ _ _ _;trivial
|_=>intro lv lv' c c' x hl hc h;exact rep.mono (v:=_) hl hc h
def EW(X:Cx):MemPlace->Prop
|.cell b i=>(∃r j k,X.G b i=.rt r j k)\/∃t,X.G b i=.tp t
|.map b=>X.wr=true/\∃t,X.G b 0=.fz (N9 t)
abbrev ad(b i:Nat):Addr:=⟨b,i,none⟩
def FrN(w:World)(b i:Nat):Prop:=w.frozen? (ad b i)=false/\(i=0->∀j,w.frozen? (ad b j)=false)
theorem FrN.to{b:Nat}(hh:∀j,w'.frozen? (ad b j)=w.frozen? (ad b j))(h:FrN w b i):FrN w' b i:=⟨(hh i).trans h.1,fun e j=>(hh j).trans (h.2 e j)⟩
theorem FrN.all{b:Nat}(h:∀j,w.frozen? (ad b j)=false):FrN w b i:=⟨h i,fun _=>h⟩
def R4(X:Cx)(w:World)(r j b o:Nat)(cs:List Value):Prop:=∀(k:Nat) x,cs[k]? =some x->X.G b (o+k)=.rt r j k/\w.cell? (ad b (o+k))=some x/\FrN w b (o+k)
def RtR(X:Cx)(lv:List Nat)(c:Nat)(w:World)(r j b o N:Nat):V->Prop
|.ro v=>∃cs,rep X v [] 2 cs/\v.mem=true/\cs.length=N/\FzAt X.G b o cs
|.un=>True
|v=>∃cs,rep X v lv c cs/\v.mem=true/\cs.length=N/\R4 X w r j b o cs
def UnM(w:World)(b:Nat):Prop:=∀C T fr,w.heap[b]? =some (.cells C T fr)->fr=(0,0)\/C.size<=fr.1
def NoMark(G:Nat->Nat->Ow)(n:Nat)(w:World):Prop:=∀b,n<=b->(∃i,G b i≠ .no)->UnM w b
theorem NoMark.sub{G G':Nat->Nat->Ow}{n:Nat}(h:NoMark G n w)(hs:∀b i,n<=b->G' b i≠ .no->(∃i',G b i'≠ .no)\/UnM w b):NoMark G' n w:=fun b hb ⟨i,hi⟩=>(hs b i hb hi).elim (h b hb) id
def F9(k:List UInt8):Value:=.agg (k.map E9).toArray
def X4:Nat->V->Bool
|0,.i .i64 _=>true
|1,.bl t l=>beq t 0&&Nat.ble l.length 1000000
|2,.st n g=>beq n 2&&(match g 0,g 1 with|.bl t l,.b _=>beq t 0&&Nat.ble l.length 1000000|_,_=>false)
|_,_=>false
def MapC(X:Cx)(w:World)(b n:Nat)(t:MS):Prop:=∃es F8,w.heap[b]? =some (.map es F8)/\
 match n with
|0=>(es.toList.map (·.key)).Nodup/\(es.toList.map (·.born)).Nodup/\∀e∈es.toList,e.born<F8/\(∃k:List UInt8,k.length=32/\e.key=F9 k/\k∈t.K)/\∃v,X4 t.s v=true/\repv X [] 2 v e.val
|n+1=>∃e∈es.toList,e.born=n
structure FzOk (X:Cx) (w:World) (b i:Nat) (x:Value):Prop where
 c:x.oneCell'=true->w.cell? (ad b i)=some x
 m:∀t,x=N9 t->MapC X w b i t
 o:x.oneCell'=true\/∃t,x=N9 t
theorem RK:∀{l m:List UInt8},l.map E9=m.map E9->l=m
|[],[],_=>rfl
|[],_::_,h=>by simp at h
|_::_,[],h=>by simp at h
|a::l,b::m,h=>by
  simp only[U1,qP,Value.int.injEq,true_and]at h
  rw[RK h.2,DB.1 (Int.ofNat_inj.1 h.1)]
theorem Ho{l m:List UInt8}(h:F9 l=F9 m):l=m:=by
 unfold F9 at h
 simp only[Value.agg.injEq]at h
 exact RK (by simpa using congrArg Array.toList h)
theorem RL:∀{K K':List (List UInt8)},K.map F9=K'.map F9->K=K'
|[],[],_=>rfl
|[],_::_,h=>by simp at h
|_::_,[],h=>by simp at h
|a::l,b::m,h=>by
  simp only[U1,qP]at h
  rw[Ho h.1,RL h.2]
theorem RM{t t':MS}(h:N9 t=N9 t'):t=t':=by
 obtain⟨s,K⟩:=t
 obtain⟨s',K'⟩:=t'
 unfold N9 at h
 simp only[Value.tuple.injEq]at h
 have h:=congrArg Array.toList h
 simp only[qP,Value.int.injEq,true_and,Value.agg.injEq,and_true]at h
 obtain⟨h1,h2⟩:=h
 have h1:s=s':=Int.ofNat_inj.1 h1
 subst h1
 have h2:(K.map F9).toArray=(K'.map F9).toArray:=h2
 have h2:K.map F9=K'.map F9:=by simpa only[DF] using congrArg Array.toList h2
 rw[RL h2]
theorem pF{t:MS}(h:(N9 t).oneCell'=true):False:=by cases h
theorem FzOk.cell{X:Cx}{b:Nat}(h1:w.cell? (ad b i)=some x)(h2:x.oneCell'=true):FzOk X w b i x:=⟨fun _=>h1,fun t e=>by subst e;exact(pF h2).elim,.inl h2⟩
def fD:List Value:=Lib.pow10Tab.map (.int .u64)
def LC(g:Nat):Prop:=Tryz.prog.globalNamed "internal/strconv.uint64pow10" =some g
structure Wd (X0 X:Cx) (h:Nat->Nat->V) (lv:List Nat) (c:Nat) (w0 w:World):Prop where
 kb:w0.keptBut w (EW X0)
 tape:w.tape=w0.tape
 fz0:∀b i x,X0.G b i=.fz x->X.G b i=.fz x
 no0:∀b i,b<w0.heap.size->X0.G b i=.no->X.G b i=.no\/∃t,X.G b i=.fz (N9 t)
 mp0:∀b t,b<w0.heap.size->X.G b 0=.fz (N9 t)->X0.G b 0=.fz (N9 t)
 ρ0:∀r j p,X0.ρ r j=some p->X.ρ r j=some p
 ex:∀b i,X.G b i≠ .no->b<w.heap.size
 fz:∀b i x,X.G b i=.fz x->FzOk X w b i x
 tp:∀b i t,X.G b i=.tp t->(w.cell? (ad b i)).isSome=true/\w.frozen? (ad b i)=false
 rt:∀r j b o N,X.ρ r j=some (b,o,N)->RtR X lv c w r j b o N (h r j)
 c2:2<=c
 lvc:∀t,t∈lv->2<=t/\t<c
 ρc:∀r j p,X.ρ r j=some p->r<c
 inv:X0.Φ X.G X.ρ lv
 imo:∀G ρ G' ρ' lv1 Q1,Gle G ρ G' ρ' lv1 Q1 X0.κ->X0.Φ G ρ lv1->X0.Φ G' ρ' Q1
 κc:X0.κ<=c
 νe:X.ν=X0.ν
 we:X.wr=X0.wr
 gz:∀g,LC g->FzAt X0.G g 0 fD/\∃C T fr,w0.heap[g]? =some (.cells C T fr)/\C.size=fD.length
 ν0:w0.heap.size<=X0.ν
 νs:X0.ν<=w.heap.size
 nf:NoMark X.G X0.ν w
theorem Hq{a b:World}{m:MemPlace->Prop}(h:a.keptBut b m){x:Nat}{C:Array Value}{T:TypeId}{fr:Nat×Nat}(ha:a.heap[x]? =some (.cells C T fr)):∃C' T' bR,b.heap[x]? =some (.cells C' T' bR)/\C'.size=C.size:=by
 have:=h.2.2 x (Z4.1 ha).1
 rw[ha]at this
 cases hb:b.heap[x]? with
|none=>rw[hb]at this;simp at this
|some o=>
  rw[hb]at this
  cases o with
 |cells C' T' bR=>exact⟨C',T',bR,rfl,this.2.2.1⟩
 |_=>simp at this
theorem Wd.gz1{X0 X X':Cx}{h:Nat->Nat->V}(H:Wd X0 X h lv c w0 w)(hf:∀b i x,X.G b i=.fz x->X'.G b i=.fz x):∀g,LC g->FzAt X'.G g 0 fD/\∃C T fr,w.heap[g]? =some (.cells C T fr)/\C.size=fD.length:=fun p hp=>by
 obtain⟨h1,C,T,fr,h2,h3⟩:=H.gz p hp
 obtain⟨C',T',bR,h4,h5⟩:=Hq H.kb h2
 exact⟨fun k x hk=>hf _ _ _ (H.fz0 _ _ _ (h1 k x hk)),C',T',bR,h4,h5.trans h3⟩
theorem Hr{X X':Cx}(hf:∀b i x,X.G b i=.fz x->X'.G b i=.fz x){t:Nat}{v:V}{x:Value}(hm:X4 t v=true)(h:repv X [] 2 v x):repv X' [] 2 v x:=by
 have bl:∀{q:Nat} {l:List UInt8} {cs:List Value},rep X (.bl q l) [] 2 cs->rep X' (.bl q l) [] 2 cs:=fun {q l cs} h=>by
  obtain⟨a,cap,h1,h2,h3,h4,h5,h6⟩:=h
  exact⟨a,cap,h1,h2,h3,h4,h5,h6.imp id fun⟨b,o,q1,q2,_⟩=>⟨b,o,q1,q2.mono hf,fun ht=>by simp at ht⟩⟩
 unfold X4 at hm
 split at hm
 ·exact h
 ·exact bl h
 ·rename_i n g
  rw[A9]at hm
  obtain rfl:=A5 hm.1
  obtain⟨C,h1,h2⟩:=h
  refine⟨C,h1,d7 h2 fun k cs hk hr=>?_⟩
  have hm:=hm.2
  split at hm
  ·rename_i q l p e0 e1
   match k,hk with
  |0,_=>rw[e0]at hr ⊢;exact bl hr
  |1,_=>rw[e1]at hr ⊢;exact hr
  cases hm
 cases hm
theorem MapC.mono{X X':Cx}{b n:Nat}{t:MS}(hf:∀b i x,X.G b i=.fz x->X'.G b i=.fz x)(hm:∀es F8,w.heap[b]? =some (.map es F8)->w'.heap[b]? =some (.map es F8))(h:MapC X w b n t):MapC X' w' b n t:=by
 obtain⟨es,F8,h1,h2⟩:=h
 refine⟨es,F8,hm _ _ h1,?_⟩
 cases n with
|zero=>
  obtain⟨h2,h3,h4⟩:=h2
  exact⟨h2,h3,fun e he=>⟨(h4 e he).1,(h4 e he).2.1,by obtain⟨v,q1,q2⟩:=(h4 e he).2.2;exact⟨v,q1,Hr hf q1 q2⟩⟩⟩
|succ n=>exact h2
theorem FzOk.move{X X':Cx}{b i:Nat}{x:Value}(hf:∀b i x,X.G b i=.fz x->X'.G b i=.fz x)(hc:w'.cell? (ad b i)=w.cell? (ad b i))(hm:∀es F8,w.heap[b]? =some (.map es F8)->w'.heap[b]? =some (.map es F8))(h:FzOk X w b i x):FzOk X' w' b i x:=
 ⟨fun h1=>hc.trans (h.c h1),fun t e=>(h.m t e).mono hf hm,h.o⟩
theorem Wd.cell{X0 X:Cx}{h:Nat->Nat->V}(H:Wd X0 X h lv c w0 w){b:Nat}(hx:X.G b i=.fz x)(h1:x.oneCell'=true):w.cell? (ad b i)=some x:=(H.fz b i x hx).c h1
theorem Wd.inv'{X0 X:Cx}{h:Nat->Nat->V}(H:Wd X0 X h lv c w0 w){X':Cx}(hl:X.le X' lv lv' c):X0.Φ X'.G X'.ρ lv':=H.imo _ _ _ _ _ _ (hl.g H.κc) H.inv
theorem r8{X:Cx}:∀{v:V} {lv c cs},v.mem=true->rep X v lv c cs->∀x∈cs,x.oneCell'=true:=by
 intro v
 induction v with
|st n g ih=>
  intro lv c cs hm h
  have dB:∀m cs,m<=n->dR m (fun k=>rep X (g k) lv c) cs->∀x∈cs,x.oneCell'=true:=by
   intro m
   induction m with
  |zero=>intro cs _ h x hx;simp[dR]at h;subst h;simp at hx
  |succ m ihm=>
    rintro cs B1 ⟨a,b,rfl,h1,h2⟩ x hx
    rcases S3.1 hx with hx|hx
    ·exact ihm a oM h1 x hx
    exact ih m (x5 hm m oM) h2 x hx
  exact dB n cs (B2 _) h
|ar z n g ih=>
  intro lv c cs hm h x hx
  obtain⟨i,hi,rfl⟩:=JG hx
  obtain⟨h1,h2⟩:=h
  have hz:0<z:=by
   rcases Nat.eq_zero_or_pos z with h0|h0
   ·subst h0;simp at h1;subst h1;simp at hi
   exact h0
  have hk:i / z<n:=by rw[Nat.div_lt_iff_lt_mul hz];omega
  have hr:i % z<z:=Nat.mod_lt _ hz
  have hd:i / z*z+i % z=i:=by rw[Nat.mul_comm];exact Nat.div_add_mod i z
  have he:cs[i]∈(cs.drop (i / z*z)).take z:=by
   apply E3 (i:=i % z)
   rw[eJ hr,Q5,hd,B6 hi]
  exact ih (i / z) (h2 _ hk).2 (h2 _ hk).1 _ he
|bs n l=>
  rintro lv c cs _ ⟨_,rfl⟩ x hx
  obtain⟨u,_,rfl⟩:=J6.1 hx
  rfl
|b|bc|np=>intro lv c cs _ h x hx;simp only[rep]at h;subst h;simp at hx;subst hx;rfl
|i|s=>rintro lv c cs _ ⟨rfl,_⟩ x hx;simp at hx;subst hx;rfl
|lit y=>intro lv c cs _ h x hx;obtain⟨rfl,h⟩:=h;simp at hx;subst hx;exact h
|bl t l=>rintro lv c cs _ ⟨_,_,rfl,_⟩ x hx;simp at hx;subst hx;rfl
|sl t z n g=>rintro lv c cs _ ⟨_,_,_,rfl,_⟩ x hx;simp at hx;subst hx;rfl
|pr=>rintro lv c cs _ ⟨_,_,_,_,_,rfl,_⟩ x hx;simp at hx;subst hx;rfl
|pz=>rintro lv c cs _ ⟨_,_,_,rfl,_⟩ x hx;simp at hx;subst hx;rfl
|os=>rintro lv c cs _ ⟨_,_,_,_,_,⟨_,_,rfl,_⟩,_⟩ x hx;simp at hx;subst hx;rfl
|uk=>intro lv c cs _ h;exact h.2
|mp b n t=>rintro lv c cs _ ⟨rfl,_⟩ x hx;simp at hx;subst hx;cases n<;>rfl
|lb=>rintro lv c cs _ ⟨_,_,_,rfl,_⟩ x hx;simp at hx;subst hx;rfl
|vw=>rintro lv c cs _ ⟨_,_,_,_,_,_,_,rfl,_⟩ x hx;simp at hx;subst hx;rfl
|fo z b i v N3 Q6=>
  intro lv c cs hm h x hx
  obtain⟨h1,⟨es,h2,h3⟩,h4⟩:=h
  simp only[V.mem,A9]at hm
  obtain⟨k,hk,rfl⟩:=JG hx
  by_cases hw:i*z<=k/\k<i*z+z
  ·refine Q6 hm.1.2 h4 _ (E3 (i:=k-i*z) ?_)
   rw[eJ oM,Q5,show i*z+(k-i*z)=k by omega,B6 hk]
  refine N3 hm.1.1 h3 _ (E3 (i:=k) ?_)
  unfold ins
  rw[H9]
  by_cases j4:k<i*z
  ·rw[N5 (by simp;omega),eJ j4,B6 hk]
  rw[L7 (by simp;omega),L7 (by simp;omega),Q5]
  simp only[F7]
  rw[show i*z+es.length+(k-min (i*z) cs.length-es.length)=k by omega,B6 hk]
|fn=>rintro lv c cs _ ⟨_,rfl,_⟩ x hx;simp at hx;subst hx;rfl
|tu|ro|un=>intro lv c cs hm;cases hm
theorem xD(l:List UInt8):∀x∈l.map E9,x.oneCell'=true:=fun x hx=>by obtain⟨_,_,rfl⟩:=J6.1 hx;rfl
theorem AQ{X:Cx}{n z:Nat}{g:Nat->V}{cs:List Value}(h1:cs.length=n*z)(h2:∀k,k<n->rep X (g k) [] 2 ((cs.drop (k*z)).take z)/\(g k).mem=true):∀x∈cs,x.oneCell'=true:=r8 (v:=.ar z n g) (lv:=[]) (c:=2) rfl ⟨h1,h2⟩
theorem rep.out{X:Cx}{v:V}(h:rep X v [] 2 cs)(hl:∀t,t∈lv->2<=t)(hc:2<=c):rep X v lv c cs:=
 rep.mono ⟨fun _ _ _ h=>h,fun _ _ t ht h2=>absurd (hl t ht) oM,fun t ht h2=>absurd (hl t ht) oM,fun _ _ _ _ _ h=>h,rfl⟩ hc h
theorem SlR.strip{G:Nat->Nat->Ow}{t n z:Nat}{W:Nat->Nat->Prop}(h:SlR G lv c t n z W cs):SlR G [] 2 (bif blt t 2 then t else 0) n z W cs:=by
 obtain⟨a,cap,h1,h2,h3,h4,h5,h6⟩:=h
 refine⟨a,cap,h1,h2,h3,?_,?_,?_⟩
 ·cases hb:blt t 2
  ·simp
  rw[A8]at hb;simpa using hb
 ·cases hb:blt t 2
  ·intro h;simp at h
  simpa using h5
 rcases h6 with⟨h6,h7⟩|⟨b,o,q1,q2,_⟩
 ·exact .inl ⟨h6.imp id fun e=>by subst e;rfl,h7⟩
 exact .inr ⟨b,o,q1,q2,fun ht=>by simp at ht⟩
theorem sZ{X:Cx}:∀{v:V} {lv c cs},v.prs d6=true->rep X v lv c cs->rep X v.strip [] 2 cs:=by
 intro v
 induction v with
|st n g ih=>intro lv c cs hp h;exact d7 h fun k cs hk hr=>ih k (x5 hp k hk) hr
|pr=>intro lv c cs hp h;cases hp
|os=>intro lv c cs hp h;cases hp
|vw=>intro lv c cs hp h;cases hp
|mp=>intro lv c cs hp h;cases hp
|lb l=>intro lv c cs _ h;obtain⟨_,a,cap,h1,h2,h3,h4,h5,h6⟩:=h;exact⟨a,cap,h1,h2,h3,by omega,h5,h6.imp id fun⟨b,o,q1,q2,_⟩=>⟨b,o,q1,q2.2.2,fun ht=>by simp at ht⟩⟩
|fo z b i v N3 Q6=>
  intro lv c cs hp h
  have hp:(b.prs d6&&v.prs d6)=true:=hp
  rw[A9]at hp
  obtain⟨h1,⟨es,h2,h3⟩,h4⟩:=h
  exact⟨h1,⟨es,h2,N3 hp.1 h3⟩,Q6 hp.2 h4⟩
|bl t l=>intro lv c cs _ h;exact SlR.strip h
|sl t z n g=>intro lv c cs _ h;exact⟨h.1,SlR.strip h.2⟩
|fn f n g ih=>
  rintro lv c cs hp ⟨vs,h1,h2,h3⟩
  exact⟨vs,h1,h2,fun k hk=>by obtain⟨x,q1,q2⟩:=h3 k hk;exact⟨x,q1,ih k (x5 hp k hk) q2⟩⟩
|_=>intro lv c cs _ h;exact h
theorem RN:∀v:V,v.strip.sz=v.sz:=by
 intro v
 induction v with
|st n g ih=>simp only[V.strip,V.sz];congr 1;funext k;exact ih k
|fo z b i v N3 Q6=>exact N3
|_=>rfl
theorem EX:∀v:V,v.strip.mem=v.mem:=by
 intro v
 induction v with
|st n g ih=>simp only[V.strip,V.mem];congr 1;funext k;exact ih k
|fo z b i v N3 Q6=>simp only[V.strip,V.mem];rw[N3,Q6,RN]
|_=>rfl
theorem pG{n:Nat}{R:Nat->List Value->Prop}{f:Nat->Nat}{cs:List Value}(h:dR n R cs)(hl:∀k cs,k<n->R k cs->cs.length=f k)(hm:m<n):
  V.sz.sum m f+f m<=cs.length/\R m ((cs.drop (V.sz.sum m f)).take (f m)):=by
 induction n generalizing cs with
|zero=>omega
|succ n ih=>
  obtain⟨a,b,rfl,h1,h2⟩:=h
  have la:=EV h1 fun k cs hk=>hl k cs oM
  have lb:=hl n b oM h2
  by_cases he:m=n
  ·subst he
   refine⟨by simp;omega,?_⟩
   rw[<-la,List.drop_left, <-lb,List.take_length]
   exact h2
  obtain⟨q1,q2⟩:=ih h1 (fun k cs hk=>hl k cs oM) oM
  refine⟨by simp;omega,?_⟩
  rw[qO oM,lG (by simp;omega)]
  exact q2
theorem Ht{n:Nat}{R:Nat->List Value->Prop}{f:Nat->Nat}{cs:List Value}(h:dR n R cs)(hl:∀k cs,k<n->R k cs->cs.length=f k)(hm:m<n){R':Nat->List Value->Prop}(hR:∀k cs,k≠m->R k cs->R' k cs)
  (hx:R' m xs)(fT:xs.length=f m):dR n R' (ins cs (V.sz.sum m f) xs):=by
 induction n generalizing cs with
|zero=>omega
|succ n ih=>
  obtain⟨a,b,rfl,h1,h2⟩:=h
  have la:=EV h1 fun k cs hk=>hl k cs oM
  have lb:=hl n b oM h2
  by_cases he:m=n
  ·subst he
   refine⟨a,xs,?_,d7 h1 fun k cs hk=>hR k cs oM,hx⟩
   unfold ins
   rw[<-la,List.take_left,uZ,eK oM,eK oM]
   simp
  have q:=pG h1 (fun k cs hk=>hl k cs oM) (show m<n by omega)
  refine⟨ins a (V.sz.sum m f) xs,b,?_,ih h1 (fun k cs hk=>hl k cs oM) oM,hR _ _ (Ne.symm he) h2⟩
  unfold ins
  rw[lG oM,qO oM]
  simp
theorem EY{p:Nat}{l:Nat}(h:o+l<=cs.length)(hp:p+xs.length<=l):ins cs o (ins ((cs.drop o).take l) p xs)=ins cs (o+p) xs:=by
 have hl:(ins ((cs.drop o).take l) p xs).length=l:=by rw[o9 (by simp;omega)];simp;omega
 have e1:ins cs o (ins ((cs.drop o).take l) p xs)=cs.take o++(((cs.drop o).take l).take p++xs++((cs.drop o).take l).drop (p+xs.length))++cs.drop (o+l):=by
  conv=>lhs;unfold ins
  rw[show(List.take p (List.take l (List.drop o cs))++xs++List.drop (p+xs.length) (List.take l (List.drop o cs))).length=l from hl]
 rw[e1]
 unfold ins
 apply V7
 intro i
 simp only[H9,zL,F7,K4,t7,Q5]
 have e2:min o cs.length=o:=by omega
 have e3:min (o+p) cs.length=o+p:=by omega
 have e4:min p (min l (cs.length-o))=p:=by omega
 have e5:min l (cs.length-o)=l:=by omega
 have e6:min p l=p:=by omega
 simp only[e2,e3,e4,e5,e6]
 by_cases h1:i<o
 ·simp[h1,show i<o+p by omega]
 by_cases h2:i<o+p
 ·simp[h1,h2,show i-o<p by omega,show o+(i-o)=i by omega]
  omega
 by_cases h3:i-o-p<xs.length
 ·simp[h1,h2,h3,show ¬ (i-o<p) by omega,show i-(o+p)=i-o-p by omega]
 simp only[h1,h2,h3,if_false,show ¬ (i-o<p) by omega,show i-(o+p)=i-o-p by omega]
 by_cases h4:i-o-p-xs.length<l-(p+xs.length)
 ·simp only[h4,if_true,show p+xs.length+(i-o-p-xs.length)<l by omega]
  congr 1;omega
 simp only[h4,if_false]
 congr 1;omega
def V.get:V->List Stp->V
|x,[]=>x
|.st _ g,.f m _::p=>(g m).get p
|.ar _ _ g,.e m _ _::p=>(g m).get p
|.bs _ l,.e m _ _::_=>.i .u8 (l.getD m 0).toNat
|_,_=>.un
def V.set:V->List Stp->V->V
|_,[],x=>x
|.st n g,.f m _::p,x=>.st n fun k=>bif beq k m then (g m).set p x else g k
|.ar z n g,.e m _ _::p,x=>.ar z n fun k=>bif beq k m then (g m).set p x.strip else g k
|.bs n l,.e m _ _::_,.i .u8 a=>.bs n (l.set m (UInt8.ofNat a.toNat))
|y,_,_=>y
def cP(g:Nat->V)(n m o:Nat):Bool:=blt m n&&beq (V.sz.sum m fun k=>(g k).sz) o&&V.mem.all n fun k=>(g k).mem
def V.okp:V->List Stp->Bool
|_,[]=>true
|.st n g,.f m o::p=>cP g n m o&&(g m).okp p
|.ar z n g,.e m z' n'::p=>beq z z'&&beq n n'&&(g m).okp p&&(g m).mem
|.bs n _,.e _ z' n'::p=>beq 1 z'&&beq n n'&&p.isEmpty
|_,_=>false
def V.oks:V->List Stp->V->Bool
|_,[],_=>true
|.st _ g,.f m _::p,x=>(g m).oks p x
|.ar _ _ g,.e m _ _::p,x=>(g m).oks p x&&x.prs d6
|.bs _ _,.e _ _ _::_,.i .u8 _=>true
|_,_,_=>false
theorem LD(cs:List Value)(a b l m:Nat)(h:b+m<=l):(((cs.drop a).take l).drop b).take m=(cs.drop (a+b)).take m:=by
 apply V7
 intro i
 simp only[t7,Q5]
 by_cases h1:i<m
 ·simp only[h1,if_true,show b+i<l by omega]
  congr 1;omega
 simp[h1]
theorem pH{g:Nat->V}{n:Nat}(h:cP g n m o=true):m<n/\V.sz.sum m (fun k=>(g k).sz)=o/\∀k,k<n->(g k).mem=true:=by
 unfold cP at h
 simp only[A9,A8]at h
 exact⟨h.1.1,A5 h.1.2,x5 h.2⟩
theorem EZ{n:Nat}{f:Nat->Bool}(h:∀k,k<n->f k=true):V.mem.all n f=true:=by
 induction n with
|zero=>rfl
|succ n ih=>simp only[V.mem.all,A9];exact⟨ih fun k hk=>h k oM,h n oM⟩
theorem dS{X:Cx}(hl:∀t,t∈lv->2<=t)(hc:2<=c):∀{p:List Stp} {v:V} {cs:List Value},v.okp p=true->(∀x∈p,x.ok)->v.mem=true->rep X v lv c cs->
  B9 p+(v.get p).sz<=cs.length/\(v.get p).mem=true/\rep X (v.get p) lv c ((cs.drop (B9 p)).take (v.get p).sz):=by
 intro p
 induction p with
|nil=>
  intro v cs _ _ hm h
  have:=X3 hm h
  have e:v.get []=v:=by cases v<;>rfl
  rw[e]
  refine⟨by simp[B9,this],hm,?_⟩
  rw[<-this];simpa [B9] using h
|cons x p ih=>
  intro v cs hk ho hm h
  cases v<;>cases x<;>simp only[V.okp,A9,zM]at hk
  case st.f n g m o=>
   obtain⟨h1,h2,h3⟩:=pH hk.1
   obtain⟨q1,q2⟩:=pG (f:=fun k=>(g k).sz) h (fun k cs hk hr=>X3 (h3 k hk) hr) h1
   rw[h2]at q1 q2
   obtain⟨r1,r2,r3⟩:=ih hk.2 (fun y hy=>ho y (R5 _ hy)) (h3 m h1) q2
   have D7:(List.take (g m).sz (List.drop o cs)).length=(g m).sz:=by simp;omega
   rw[D7]at r1
   simp only[V.get,B9,Stp.off]
   refine⟨by omega,r2,?_⟩
   rw[LD _ _ _ _ _ r1]at r3
   exact r3
  case ar.e z n g m z' n'=>
   obtain⟨⟨⟨h1,h2⟩,h3⟩,h4⟩:=hk
   have e1:=A5 h1
   have e2:=A5 h2
   subst e1 e2
   have vV:m<n:=ho (.e m z n) (X9 ..)
   obtain⟨q1,q2⟩:=h
   have q3:=(q2 m vV).1
   have Y9:m*z+z<=cs.length:=by rw[q1, <-G7];exact G2 _ vV
   obtain⟨r1,r2,r3⟩:=ih h3 (fun y hy=>ho y (R5 _ hy)) h4 (q3.out hl hc)
   have D7:(List.take z (List.drop (m*z) cs)).length=z:=by simp;omega
   rw[D7]at r1
   simp only[V.get,B9,Stp.off]
   refine⟨by omega,r2,?_⟩
   rw[LD _ _ _ _ _ r1]at r3
   exact r3
  case bs.e n l m z' n'=>
   obtain⟨⟨h1,h2⟩,h3⟩:=hk
   have e1:=A5 h1
   have e2:=A5 h2
   have e3:p=[]:=by simpa using h3
   subst e1 e2 e3
   have vV:m<n:=ho (.e m 1 n) (X9 ..)
   obtain⟨q1,rfl⟩:=h
   simp only[V.get,B9,Stp.off,V.sz,V.mem]
   refine⟨by simp;omega,trivial,?_,?_⟩
   ·have iL:m<l.length:=by omega
    simp only[l5,t8]
    rw[JD (by simpa using iL)]
    simp[List.getD,iL]
   exact JW _
theorem RP{a:Int}(h:u8.wrap a=a):((UInt8.ofNat a.toNat).toNat:Int)=a:=by
 rw[zZ]at h
 have h1:0<=a:=by omega
 rw[UInt8.toNat_ofNat'];omega
theorem Hu(h:xs.length=cs.length):ins cs 0 xs=xs:=by
 unfold ins
 rw[eK oM];simp
theorem Hv:∀{v:V},v.strip.prs d6=v.prs d6:=by
 intro v
 induction v with
|st n g ih=>simp only[V.strip,V.prs];congr 1;funext k;exact ih k
|fn f n g ih=>simp only[V.strip,V.prs];congr 1;funext k;exact ih k
|fo z b i v N3 Q6=>simp only[V.strip,V.prs];rw[N3,Q6]
|_=>rfl
theorem Hw:∀{p:List Stp} {v x:V},v.oks p x.strip=v.oks p x:=by
 intro p
 induction p with
|nil=>intro v x;cases v<;>rfl
|cons y p ih=>
  intro v x
  cases v<;>cases y
  case st.f=>exact ih
  case ar.e=>simp only[V.oks];rw[ih,Hv]
  case bs.e=>cases x<;>rfl
  all_goals rfl
theorem FA{X:Cx}:∀{p:List Stp} {lv:List Nat} {c:Nat} {v x:V} {cs xs:List Value},(∀t,t∈lv->2<=t)->2<=c->v.okp p=true->v.oks p x=true->(∀x∈p,x.ok)->v.mem=true->rep X v lv c cs->x.mem=true->x.sz=(v.get p).sz->rep X x lv c xs->
  rep X (v.set p x) lv c (ins cs (B9 p) xs)/\(v.set p x).mem=true/\(v.set p x).sz=v.sz:=by
 intro p
 induction p with
|nil=>
  intro lv c v x cs xs _ _ _ _ _ hm h hx hs hr
  have e:v.get []=v:=by cases v<;>rfl
  have e2:v.set [] x=x:=by cases v<;>rfl
  rw[e]at hs
  rw[e2]
  have l1:=X3 hm h
  have l2:=X3 hx hr
  rw[show B9 []=0 from rfl,Hu oM]
  exact⟨hr,hx,hs⟩
|cons y p ih=>
  intro lv c v x cs xs hl hc hk lQ ho hm h hx hs hr
  have fT:=X3 hx hr
  have fit:=(dS hl hc hk ho hm h).1
  cases v<;>cases y<;>simp only[V.okp,A9,zM]at hk
  case st.f n g m o=>
   obtain⟨h1,h2,h3⟩:=pH hk.1
   have D7:=fun k cs (hk:k<n) (hr:rep X (g k) lv c cs)=>X3 (h3 k hk) hr
   obtain⟨q1,q2⟩:=pG (f:=fun k=>(g k).sz) h D7 h1
   rw[h2]at q1 q2
   have ho':∀y∈p,y.ok:=fun y hy=>ho y (R5 _ hy)
   obtain⟨r1,r2,r3⟩:=ih hl hc hk.2 lQ ho' (h3 m h1) q2 hx hs hr
   have f1:=(dS hl hc hk.2 ho' (h3 m h1) q2).1
   simp only[V.get]at hs
   have hlen2:(List.take (g m).sz (List.drop o cs)).length=(g m).sz:=by simp;omega
   rw[hlen2]at f1
   have hR:∀k cs,k≠m->rep X (g k) lv c cs->rep X (bif beq k m then (g m).set p x else g k) lv c cs:=fun k cs hkm hh=>by
    have:beq k m=false:=by cases hb:beq k m with|false=>rfl|true=>exact absurd (A5 hb) hkm
    rw[this];exact hh
   have key:=Ht (f:=fun k=>(g k).sz) h D7 h1 (R':=fun k cs=>rep X (bif beq k m then (g m).set p x else g k) lv c cs) hR
    (xs:=ins (List.take (g m).sz (List.drop o cs)) (B9 p) xs) (by show rep X (bif beq m m then (g m).set p x else g m) lv c _;rw[show beq m m=true from P6 m];exact r1)
    (by rw[o9 oM];omega)
   rw[h2,EY oM oM]at key
   refine⟨key,EZ fun k hkn=>?_,?_⟩
   ·show(bif beq k m then (g m).set p x else g k).mem=true
    cases hb:beq k m
    ·exact h3 k hkn
    exact r2
   simp only[V.set,V.sz]
   congr 1;funext k
   cases hb:beq k m
   ·rfl
   rw[A5 hb];exact r3
  case ar.e z n g m z' n'=>
   obtain⟨⟨⟨h1,h2⟩,h3⟩,h4⟩:=hk
   have e1:=A5 h1
   have e2:=A5 h2
   subst e1 e2
   have vV:m<n:=ho (.e m z n) (X9 ..)
   have ho':∀y∈p,y.ok:=fun y hy=>ho y (R5 _ hy)
   obtain⟨q1,q2⟩:=h
   have q3:=(q2 m vV).1
   have Y9:m*z+z<=cs.length:=by rw[q1, <-G7];exact G2 _ vV
   simp only[V.get]at hs
   simp only[V.oks,A9]at lQ
   have hgl:(g m).sz=z:=by have:=X3 h4 q3;simp at this;omega
   have hlen2:(List.take z (List.drop (m*z) cs)).length=z:=by simp;omega
   have f1:=(dS hl hc h3 ho' h4 (q3.out hl hc)).1
   rw[hlen2]at f1
   obtain⟨r1,r2,r3⟩:=ih (x:=x.strip) (lv:=[]) (c:=2) (fun t ht=>by simp at ht) (B2 2) h3 (by rw[Hw];exact lQ.1) ho' h4 q3 (by rw[EX];exact hx) (by rw[RN];exact hs) (sZ lQ.2 hr)
   have e3:B9 (Stp.e m z n::p)=m*z+B9 p:=rfl
   have hil:(ins cs (m*z+B9 p) xs).length=cs.length:=o9 oM
   rw[e3]
   refine⟨⟨by rw[hil];exact q1,fun k hk=>?_⟩,rfl,rfl⟩
   have hkz:k*z+z<=cs.length:=by rw[q1, <-G7];exact G2 _ hk
   rw[<-EY (l:=z) oM oM]
   have il:(ins (List.take z (List.drop (m*z) cs)) (B9 p) xs).length=z:=by rw[o9 oM];exact hlen2
   cases hb:beq k m
   ·have D5:k≠m:=fun e=>by subst e;rw[P6]at hb;cases hb
    have:List.take z (List.drop (k*z) (ins cs (m*z) (ins (List.take z (List.drop (m*z) cs)) (B9 p) xs)))=List.take z (List.drop (k*z) cs):=by
     generalize ins (List.take z (List.drop (m*z) cs)) (B9 p) xs=ys at il
     apply V7
     intro i
     unfold ins
     simp only[t7,Q5,H9,zL,F7]
     by_cases hi:i<z
     ·rcases JC D5 with hlt|hgt
      ·have:k*z+z<=m*z:=by rw[<-G7];exact G2 _ hlt
       simp only[hi,if_true,show k*z+i<min (m*z) cs.length by omega,show k*z+i<m*z by omega]
      have:m*z+z<=k*z:=by rw[<-G7];exact G2 _ hgt
      simp only[hi,if_true,show ¬ (k*z+i<min (m*z) cs.length) by omega,if_false,show ¬ (k*z+i-min (m*z) cs.length<ys.length) by omega]
      congr 1;omega
     simp[hi]
    rw[this]
    simp only[hb,cond_false]
    exact q2 k hk
   have he:=A5 hb
   subst he
   have:List.take z (List.drop (k*z) (ins cs (k*z) (ins (List.take z (List.drop (k*z) cs)) (B9 p) xs)))=ins (List.take z (List.drop (k*z) cs)) (B9 p) xs:=by
    generalize ins (List.take z (List.drop (k*z) cs)) (B9 p) xs=ys at il
    unfold ins
    have hm:(List.take (k*z) cs).length=k*z:=by simp;omega
    rw[H9,List.drop_left' hm,List.take_left' il]
   rw[this]
   simp only[hb,cond_true]
   exact⟨r1,r2⟩
  case bs.e n l m z' n'=>
   obtain⟨⟨h1,h2⟩,h3⟩:=hk
   have e1:=A5 h1
   have e2:=A5 h2
   have e3:p=[]:=by simpa using h3
   subst e1 e2 e3
   have vV:m<n:=ho (.e m 1 n) (X9 ..)
   obtain⟨q1,rfl⟩:=h
   have hko':∃a,x=.i .u8 a:=by
    cases x
    case i k a=>cases k<;>first|exact⟨a,rfl⟩|cases lQ
    all_goals cases lQ
   obtain⟨a,rfl⟩:=hko'
   obtain⟨rfl,ha⟩:=hr
   refine⟨⟨by simpa using q1,?_⟩,rfl,rfl⟩
   have:E9 (UInt8.ofNat a.toNat)=.int .u8 a:=congrArg (Value.int .u8) (RP ha)
   simp only[B9,Stp.off,l5,t8]
   rw[List.map_set,this]
   unfold ins
   have iL:m<(l.map E9).length:=by rw[J7];omega
   exact EA _ m _ iL
section
theorem tA{a b c:World}{may may':MemPlace->Prop}(h1:a.keptBut b may)(h2:b.keptBut c may')(h:∀x i,x<a.heap.size->may' (.cell x i)->may (.cell x i))(hm:∀x,x<a.heap.size->may' (.map x)->may (.map x)):a.keptBut c may:=by
 have e:∀{a b:World} {m m':MemPlace->Prop},a.keptBut b m->(∀x,x<a.heap.size->(∀i,m (.cell x i)->m' (.cell x i))/\(m (.map x)->m' (.map x)))->a.keptBut b m':=by
  intro a b m m' h hh
  refine⟨h.1,h.2.1,fun i hi=>?_⟩
  have:=h.2.2 i hi
  obtain⟨q1,q2⟩:=hh i hi
  split at this
  ·obtain⟨r1,r2,r3,r4⟩:=this
   exact⟨r1,r2,r3,fun j hj=>r4 j fun hc=>hj (q1 j hc)⟩
  ·exact this.imp q2 id
  exact this
 let may2:MemPlace->Prop:=fun p=>may p\/a.heap.size<=p.block
 have dI:a.keptBut b may2:=World.keptBut_mono (fun _=>.inl) h1
 have h2':b.keptBut c may2:=by
  refine World.keptBut_mono (fun p hp=>?_) h2
  cases p with
 |cell x i=>
   by_cases hx:x<a.heap.size
   ·exact .inl (h x i hx hp)
   exact .inr (by simp[MemPlace.block];omega)
 |map x=>
   by_cases hx:x<a.heap.size
   ·exact .inl (hm x hx hp)
   exact .inr (by simp[MemPlace.block];omega)
 refine e (World.keptBut_trans dI h2') fun x hx=>⟨fun i hi=>?_,fun hi=>?_⟩
 ·rcases hi with hi|hi
  ·exact hi
  simp[MemPlace.block]at hi;omega
 rcases hi with hi|hi
 ·exact hi
 simp[MemPlace.block]at hi;omega
variable {X0 X:Cx} {h:Nat->Nat->V}
theorem RtR.mono{X X':Cx}{lv:List Nat}{c:Nat}{w:World}{b:Nat}{v:V}(hl:X.le X' lv lv' c)(hc:c<=c')(hk:∀k cs,cs.length=N->R4 X w r j b o cs->k=0->R4 X' w' r j b o cs)(h:RtR X lv c w r j b o N v):RtR X' lv' c' w' r j b o N v:=by
 cases v with
|ro v=>obtain⟨cs,h1,h2,h3,h4⟩:=h;exact⟨cs,h1.mono hl.nil (B2 _),h2,h3,h4.mono hl.fz⟩
|un=>trivial
|_=>obtain⟨cs,h1,h2,h3,h4⟩:=h;exact⟨cs,h1.mono hl hc,h2,h3,hk 0 cs h3 h4 rfl⟩
theorem Cx.le.rfl'(X:Cx)(lv:List Nat)(c:Nat):X.le X lv lv c:=⟨fun _ _ _ h=>h,fun _ _ _ _ _ h=>h,fun _ h _=>h,fun _ _ _ _ _ h=>h,rfl⟩
theorem Wd.up(H:Wd X0 X h lv c w0 w)(hc:c<=c'):Wd X0 X h lv c' w0 w:=
 { H with
  rt:=fun r j b o N hr=>(H.rt r j b o N hr).mono (Cx.le.rfl' X lv c) hc fun _ _ _ h _=>h
  c2:=J2 H.c2 hc
  lvc:=fun t ht=>⟨(H.lvc t ht).1,X7 (H.lvc t ht).2 hc⟩
  ρc:=fun r j p hr=>X7 (H.ρc r j p hr) hc
  κc:=J2 H.κc hc}
theorem Wd.size(H:Wd X0 X h lv c w0 w):w0.heap.size<=w.heap.size:=H.kb.size
theorem Wd.drew(H:Wd X0 X h lv c w0 w):Wd X0 X h lv c w0 w.drew:=
 { H with kb:=⟨H.kb.1,H.kb.2.1,H.kb.2.2⟩,tape:=H.tape,ex:=H.ex,fz:=fun b i x hx=>FzOk.move (w:=w) (fun _ _ _ h=>h) rfl (fun _ _ h=>h) (H.fz b i x hx),tp:=H.tp,rt:=H.rt}
theorem fE(w:World)(o:Go.Obj){b:Nat}(hb:b<w.heap.size):(w.alloc o).cell? (ad b i)=w.cell? (ad b i):=by
 unfold World.cell?
 rw[gG w o b oM]
theorem xE(w:World)(o:Go.Obj){b:Nat}(hb:b<w.heap.size):(w.alloc o).frozen? (ad b i)=w.frozen? (ad b i):=by
 unfold World.frozen?
 rw[gG w o b oM]
theorem NoMark.alloc{G G':Nat->Nat->Ow}{n:Nat}{w:World}(h:NoMark G n w){C:Array Value}{T:TypeId}{fr:Nat×Nat}(hf:fr=(0,0)\/C.size<=fr.1)(hG:∀b i,b≠w.heap.size->G' b i=G b i):NoMark G' n (w.alloc (.cells C T fr)):=fun b hb ⟨i,hi⟩ C' T' bR he=>by
 by_cases hw:b=w.heap.size
 ·subst hw
  rw[j7 w _]at he
  cases he;exact hf
 rw[gG w _ b hw]at he
 exact h b hb ⟨i,by rw[<-hG b i hw];exact hi⟩ C' T' bR he
theorem UnM.set:∀(xs:List Value) (b o b':Nat) {w:World},UnM w b'->UnM (w.setCells b o xs) b':=by
 intro xs
 induction xs with
|nil=>intro b o b' w h;exact h
|cons x xs ih=>
  intro b o b' w h
  refine ih b _ b' (w:=w.setCell _ x) fun C T fr he=>?_
  unfold World.setCell at he
  simp only[JH]at he
  split at he
  ·cases ho:w.heap[b']? with
  |none=>rw[ho]at he;cases he
  |some ob=>
    rw[ho]at he
    cases ob<;>simp only[X8,F2,Go.Obj.cells.injEq,reduceCtorEq]at he
    obtain⟨rfl,rfl,rfl⟩:=he
    have:=h _ _ _ ho
    split<;>simpa using this
  exact h C T fr he
theorem NoMark.set{G:Nat->Nat->Ow}{n:Nat}(xs:List Value)(b o:Nat){w:World}(h:NoMark G n w):NoMark G n (w.setCells b o xs):=fun b' hb hi=>(h b' hb hi).set xs b o b'
theorem LE:∀(xs:List Value) (b o:Nat) {w:World} {b':Nat} {es:Array MapEntry} {F8:Nat},w.heap[b']? =some (.map es F8)->(w.setCells b o xs).heap[b']? =some (.map es F8):=by
 intro xs
 induction xs with
|nil=>intro b o w b' es F8 h;exact h
|cons x xs ih=>
  intro b o w b' es F8 h
  refine ih b _ (w:=w.setCell _ x) ?_
  unfold World.setCell
  simp only[JH]
  split
  ·rw[h];rfl
  exact h
def Cx.new(X:Cx)(b:Nat)(f:Nat->Ow):Cx:=⟨fun b' i=>if b'=b then f i else X.G b' i,X.ρ,X.Φ,X.κ,X.ν,X.wr⟩
theorem Wd.new_le(H:Wd X0 X h lv c w0 w)(f:Nat->Ow):X.le (X.new w.heap.size f) lv lv c:=by
 have dB:∀b i,X.G b i≠ .no->b≠w.heap.size:=fun b i hb e=>by have:=H.ex b i hb;omega
 refine⟨fun b i x hx=>?_,fun b i t _ _ hx=>?_,fun _ h _=>h,fun _ _ _ _ _ h=>h,rfl⟩
 ·simp only[Cx.new];rw[if_neg (dB b i (by rw[hx];simp))];exact hx
 simp only[Cx.new];rw[if_neg (dB b i (by rw[hx];simp))];exact hx
theorem Wd.new(H:Wd X0 X h lv c w0 w)(C:Array Value)(T:TypeId)(fr:Nat×Nat)(f:Nat->Ow)(hf:∀i x,f i=.fz x->C[i]? =some x/\x.oneCell'=true)(ht:∀i t,f i=.tp t->i<C.size/\¬ (fr.1<=i/\i<fr.2))(vX:fr=(0,0)\/C.size<=fr.1):
  Wd X0 (X.new w.heap.size f) h lv c w0 (w.alloc (.cells C T fr)):=by
 have hb:(w.alloc (.cells C T fr)).heap[w.heap.size]? =some (.cells C T fr):=j7 w _
 have G3:(w.alloc (.cells C T fr)).heap.size=w.heap.size+1:=by simp
 have B1:=H.new_le f
 have old:∀b i,b≠w.heap.size->(X.new w.heap.size f).G b i=X.G b i:=fun b i hb=>by simp only[Cx.new];rw[if_neg hb]
 refine { kb:=World.keptBut_trans H.kb (World.keptBut_alloc _ _ _),tape:=H.tape,fz0:=fun b i x hx=>B1.fz _ _ _ (H.fz0 b i x hx),no0:=fun b i hb hn=>?_,mp0:=fun b t hb hx=>H.mp0 b t hb (by rw[<-old b 0 (by have:=H.size;omega)];exact hx),ρ0:=H.ρ0,ex:=fun b i hn=>?_,fz:=fun b i x hx=>?_,tp:=fun b i t hx=>?_,rt:=fun r j b o N hr=>?_,c2:=H.c2,lvc:=H.lvc,ρc:=H.ρc,inv:=H.inv' B1,imo:=H.imo,νe:=H.νe,gz:=H.gz,we:=H.we,ν0:=H.ν0,νs:=by rw[G3];have:=H.νs;omega,nf:=H.nf.alloc vX (fun b' i D5=>by simp only[Cx.new,if_neg D5]),κc:=H.κc}
 ·rw[old b i (by have:=H.size;omega)];exact H.no0 b i hb hn
 ·by_cases he:b=w.heap.size
  ·omega
  rw[old b i he]at hn;have:=H.ex b i hn;omega
 ·by_cases he:b=w.heap.size
  ·subst he
   have:f i=.fz x:=by simpa [Cx.new] using hx
   obtain⟨q1,q2⟩:=hf i x this
   refine FzOk.cell ?_ q2
   unfold World.cell?
   rw[hb];exact q1
  rw[old b i he]at hx
  have hlt:=H.ex b i (by rw[hx];simp)
  exact(H.fz b i x hx).move B1.fz (fE w _ hlt) fun _ _ hm=>(by rw[gG w _ b oM];exact hm)
 ·by_cases he:b=w.heap.size
  ·subst he
   have:f i=.tp t:=by simpa [Cx.new] using hx
   obtain⟨q1,q2⟩:=ht i t this
   constructor
   ·unfold World.cell?
    rw[hb];simp[q1]
   unfold World.frozen?
   rw[hb];simp only[Bool.and_eq_false_iff,decide_eq_false_iff_not]
   by_cases h1:fr.1<=i
   ·exact .inr fun h2=>q2 ⟨h1,h2⟩
   exact .inl h1
  rw[old b i he]at hx
  have hlt:=H.ex b i (by rw[hx];simp)
  rw[fE w _ hlt,xE w _ hlt];exact H.tp b i t hx
 refine(H.rt r j b o N hr).mono B1 (B2 _) fun _ cs _ hL _ k x hk=>?_
 obtain⟨q1,q2,q3⟩:=hL k x hk
 have hlt:=H.ex b (o+k) (by rw[q1];simp)
 rw[old b _ oM,fE w _ hlt]
 exact⟨q1,q2,q3.to fun j=>xE w _ hlt⟩
def D9(h:Nat->Nat->V)(r j:Nat)(v:V):Nat->Nat->V:=fun r' j'=>bif beq r' r&&beq j' j then v else h r' j'
theorem j8(h:Nat->Nat->V)(r j:Nat)(v:V):D9 h r j v r j=v:=by simp[D9]
theorem gO(h:Nat->Nat->V){r' j':Nat}(v:V)(hn:¬ (r'=r/\j'=j)):D9 h r j v r' j'=h r' j':=by
 unfold D9
 have:(beq r' r&&beq j' j)=false:=by
  rw[Bool.and_eq_false_iff]
  by_cases h1:r'=r
  ·right
   cases hb:beq j' j
   ·rfl
   exact absurd ⟨h1,A5 hb⟩ hn
  left
  cases hb:beq r' r
  ·rfl
  exact absurd (A5 hb) h1
 rw[this];rfl
def Cx.own(X:Cx)(b nm N:Nat):Cx:=⟨fun b' i=>if b'=b then (if i<N then .rt nm 0 i else .no) else X.G b' i,fun r j=>if r=nm/\j=0 then some (b,0,N) else X.ρ r j,X.Φ,X.κ,X.ν,X.wr⟩
theorem Wd.own_le(H:Wd X0 X h lv c w0 w){nm:Nat}(hn:c<=nm):X.le (X.own w.heap.size nm N) lv lv c:=by
 have dB:∀b i,X.G b i≠ .no->b≠w.heap.size:=fun b i hb e=>by have:=H.ex b i hb;omega
 refine⟨fun b i x hx=>?_,fun b i t _ _ hx=>?_,fun _ h _=>h,fun r j p _ hlt h=>?_,rfl⟩
 ·simp only[Cx.own];rw[if_neg (dB b i (by rw[hx];simp))];exact hx
 ·simp only[Cx.own];rw[if_neg (dB b i (by rw[hx];simp))];exact hx
 simp only[Cx.own];rw[if_neg (fun e=>by omega)];exact h
theorem Wd.own(H:Wd X0 X h lv c w0 w){nm:Nat}(hn:c<=nm){v:V}(hm:v.mem=true)(hr:rep X v lv c cs)(T:TypeId):
  Wd X0 (X.own w.heap.size nm cs.length) (D9 h nm 0 v) lv (nm+1) w0 (w.alloc (.cells cs.toArray T)):=by
 have hb:(w.alloc (.cells cs.toArray T)).heap[w.heap.size]? =some (.cells cs.toArray T (0,0)):=j7 w _
 have G3:(w.alloc (.cells cs.toArray T)).heap.size=w.heap.size+1:=by simp
 have B1:=H.own_le (N:=cs.length) hn
 have old:∀b i,b≠w.heap.size->(X.own w.heap.size nm cs.length).G b i=X.G b i:=fun b i hb=>by simp only[Cx.own];rw[if_neg hb]
 have new:∀i,(X.own w.heap.size nm cs.length).G w.heap.size i=if i<cs.length then .rt nm 0 i else .no:=fun i=>by simp only[Cx.own,if_true]
 refine { kb:=World.keptBut_trans H.kb (World.keptBut_alloc _ _ _),tape:=H.tape,fz0:=fun b i x hx=>B1.fz _ _ _ (H.fz0 b i x hx),no0:=fun b i hb hn=>?_,mp0:=fun b t hb hx=>H.mp0 b t hb (by rw[<-old b 0 (by have:=H.size;omega)];exact hx),ρ0:=fun r j p hp=>by simp only[Cx.own];rw[if_neg (fun e=>by have:=H.ρc r j p (H.ρ0 r j p hp);omega)];exact H.ρ0 r j p hp,ex:=fun b i hn=>?_,fz:=fun b i x hx=>?_,tp:=fun b i t hx=>?_,rt:=fun r j b o N hr=>?_,c2:=by have:=H.c2;omega,lvc:=fun t ht=>⟨(H.lvc t ht).1,by have:=(H.lvc t ht).2;omega⟩,ρc:=fun r j p hr=>?_,inv:=H.inv' B1,imo:=H.imo,νe:=H.νe,gz:=H.gz,we:=H.we,ν0:=H.ν0,νs:=by rw[G3];have:=H.νs;omega,nf:=H.nf.alloc (.inl rfl) (fun b' i D5=>by simp only[Cx.own,if_neg D5]),κc:=by have:=H.κc;omega}
 ·rw[old b i (by have:=H.size;omega)];exact H.no0 b i hb hn
 ·by_cases he:b=w.heap.size
  ·omega
  rw[old b i he]at hn;have:=H.ex b i hn;omega
 ·by_cases he:b=w.heap.size
  ·subst he;rw[new]at hx;split at hx<;>cases hx
  rw[old b i he]at hx
  have hlt:=H.ex b i (by rw[hx];simp)
  exact(H.fz b i x hx).move B1.fz (fE w _ hlt) fun _ _ hm=>(by rw[gG w _ b oM];exact hm)
 ·by_cases he:b=w.heap.size
  ·subst he;rw[new]at hx;split at hx<;>cases hx
  rw[old b i he]at hx
  have hlt:=H.ex b i (by rw[hx];simp)
  rw[fE w _ hlt,xE w _ hlt];exact H.tp b i t hx
 ·by_cases he:r=nm/\j=0
  ·obtain⟨rfl,rfl⟩:=he
   simp only[Cx.own,and_self,if_true,F2,G6]at hr
   obtain⟨rfl,rfl,rfl⟩:=hr
   rw[j8]
   have hv:rep (X.own w.heap.size r cs.length) v lv (r+1) cs:=rep.mono B1 oM ‹rep X v lv c cs›
   have key:R4 (X.own w.heap.size r cs.length) (w.alloc (.cells cs.toArray T)) r 0 w.heap.size 0 cs:=by
    intro k x hk
    have hlt:=(N1.1 hk).1
    rw[J5,new,if_pos hlt]
    refine⟨rfl,?_,FrN.all fun j=>?_⟩
    ·unfold World.cell?; rw[hb];simpa using hk
    unfold World.frozen?; rw[hb];simp
   cases v with
  |ro v=>cases hm
  |un=>trivial
  |_=>exact⟨cs,hv,hm,rfl,key⟩
  have K5:X.ρ r j=some (b,o,N):=by simpa only[Cx.own,if_neg he] using hr
  rw[gO h v he]
  refine(H.rt r j b o N K5).mono B1 oM fun _ cs _ hL _ k x hk=>?_
  obtain⟨q1,q2,q3⟩:=hL k x hk
  have hlt:=H.ex b (o+k) (by rw[q1];simp)
  rw[old b _ oM,fE w _ hlt]
  exact⟨q1,q2,q3.to fun j=>xE w _ hlt⟩
 by_cases he:r=nm/\j=0
 ·omega
 have K5:X.ρ r j=some p:=by simpa only[Cx.own,if_neg he] using hr
 have:=H.ρc r j p K5;omega
theorem Wd.store(H:Wd X0 X h lv c w0 w){b off:Nat}(hr:X.ρ r j=some (b,o,N)){v:V}(hL:R4 X w r j b o cs)(hN:cs.length=N)(Y9:off+xs.length<=cs.length)
  (hm:v.mem=true)(hv:rep X v lv c (ins cs off xs)):Wd X0 X (D9 h r j v) lv c w0 (w.setCells b (o+off) xs):=by
 have W3:∀k,k<xs.length->(w.cell? (ad b (o+off+k))).isSome=true:=fun k hk=>by
  have:=(hL (off+k) (cs[off+k]'oM) (B6 oM)).2.1
  rw[O7,this];rfl
 have own:∀k,k<xs.length->X.G b (o+off+k)=.rt r j (off+k):=fun k hk=>by
  have:=(hL (off+k) (cs[off+k]'oM) (B6 oM)).1
  rw[O7,this]
 have out:∀b' i,(∀k,k<xs.length->X.G b' i≠ .rt r j (off+k))->(w.setCells b (o+off) xs).cell? (ad b' i)=w.cell? (ad b' i):=fun b' i D5=>by
  refine nM b xs (o+off) w _ fun h1 _=>?_
  simp only at h1;subst h1
  by_cases j4:i<o+off
  ·exact .inl j4
  by_cases lR:o+off+xs.length<=i
  ·exact .inr lR
  exfalso
  have:=own (i-(o+off)) oM
  rw[show o+off+(i-(o+off))=i by omega]at this
  exact D5 (i-(o+off)) oM this
 have K9:(w.setCells b (o+off) xs).heap.size=w.heap.size:=by
  have:∀(xs:List Value) (o:Nat) (w:World),(w.setCells b o xs).heap.size=w.heap.size:=by
   intro xs
   induction xs with
  |nil=>intro o w;rfl
  |cons x xs ih=>intro o w;rw[World.setCells,ih];simp[World.setCell]
  exact this _ _ _
 have htape:∀(xs:List Value) (o:Nat) (w:World),(w.setCells b o xs).tape=w.tape:=by
  intro xs
  induction xs with
 |nil=>intro o w;rfl
 |cons x xs ih=>intro o w;rw[World.setCells,ih];rfl
 refine { kb:=?_,tape:=(htape _ _ _).trans H.tape,fz0:=H.fz0,no0:=H.no0,mp0:=H.mp0,ρ0:=H.ρ0,ex:=fun b i hn=>by rw[K9];exact H.ex b i hn,fz:=fun b' i x hx=>?_,tp:=fun b' i t hx=>?_,rt:=fun r' j' b' o' N' K5=>?_,c2:=H.c2,lvc:=H.lvc,ρc:=H.ρc,inv:=H.inv,imo:=H.imo,νe:=H.νe,gz:=H.gz,we:=H.we,ν0:=H.ν0,νs:=by rw[K9];exact H.νs,nf:=H.nf.set _ _ _,κc:=H.κc}
 ·refine tA (may':=fun p=>∃k,k<xs.length/\p=.cell b (o+off+k)) H.kb (World.keptBut_setCells b xs (o+off) w fun k hk=>⟨k,hk,rfl⟩) ?_ (fun x _ ⟨k,_,hk⟩=>by cases hk)
  rintro x i hx ⟨k,hk,dJ⟩
  injection dJ with e1 e2
  subst e1 e2
  have hg:=own k hk
  cases Q7:X0.G x (o+off+k) with
 |no=>have:=H.no0 x _ hx Q7;rw[hg]at this;obtain h|⟨_,h⟩:=this<;>cases h
 |fz y=>have:=H.fz0 x _ y Q7;rw[hg]at this;cases this
 |rt r j k=>exact .inl ⟨r,j,k,Q7⟩
 |tp t=>exact .inr ⟨t,Q7⟩
 ·exact(H.fz b' i x hx).move (fun _ _ _ h=>h) (out b' i (fun k _=>by rw[hx];simp)) fun _ _ hm=>LE _ _ _ hm
 ·rw[out b' i (fun k _=>by rw[hx];simp),jW];exact H.tp b' i t hx
 by_cases he:r'=r/\j'=j
 ·obtain⟨rfl,rfl⟩:=he
  rw[hr]at K5;cases K5
  rw[j8]
  have key:R4 X (w.setCells b (o+off) xs) r' j' b o (ins cs off xs):=by
   intro k x hk
   have hlt:=(N1.1 hk).1
   rw[o9 Y9]at hlt
   obtain⟨q1,q2,q3⟩:=hL k _ (B6 hlt)
   refine⟨q1,?_,q3.to fun j=>jW ..⟩
   by_cases nS:off<=k/\k<off+xs.length
   ·have hc:=zN b xs (o+off) w W3 (k-off) oM
    rw[show o+off+(k-off)=o+k by omega]at hc
    rw[hc]
    unfold ins at hk
    rw[H9,L7 (by simp;omega),N5 (by simp;omega)]at hk
    simp only[F7]at hk
    rw[show k-min off cs.length=k-off by omega,B6 oM]at hk
    exact hk
   rw[out b (o+k) (fun m hm e=>by rw[q1]at e;injection e;omega),q2]
   unfold ins at hk
   rw[H9]at hk
   by_cases hk2:k<off
   ·rw[N5 (by simp;omega),eJ hk2,B6 hlt]at hk
    exact hk
   rw[L7 (by simp;omega),L7 (by simp;omega),Q5]at hk
   simp only[F7]at hk
   rw[show off+xs.length+(k-min off cs.length-xs.length)=k by omega,B6 hlt]at hk
   exact hk
  cases v with
 |ro v=>cases hm
 |un=>trivial
 |_=>exact⟨_,hv,hm,by rw[o9 Y9];exact hN,key⟩
 rw[gO h v he]
 refine(H.rt r' j' b' o' N' K5).mono (Cx.le.rfl' X lv c) (B2 _) fun _ ds _ vY _ k x hk=>?_
 obtain⟨q1,q2,q3⟩:=vY k x hk
 refine⟨q1,?_,q3.to fun j=>jW ..⟩
 rw[out b' (o'+k) (fun m _ e=>by rw[q1]at e;injection e with e1 e2;exact he ⟨e1,e2⟩)]
 exact q2
def C8(X:Cx)(w:World)(b i:Nat):Option Value:=match X.G b i with|.fz x=>bif x.oneCell' then some x else none|.rt _ j _=>bif beq j 0 then w.cell? (ad b i) else none|_=>none
def pI(X:Cx)(b i:Nat):Option Value:=match X.G b i with|.fz x=>bif x.oneCell' then some x else none|_=>none
def Sy(Y:Nat->Nat->Option Value)(u:World):Prop:=∀b i x,Y b i=some x->u.cell? (ad b i)=some x
def Yle(Y Y':Nat->Nat->Option Value):Prop:=∀b i x,Y b i=some x->Y' b i=some x
theorem Wd.sy(H:Wd X0 X h lv c w0 w):Sy (C8 X w) w:=fun b i x hx=>by
 unfold C8 at hx
 split at hx
 ·rename_i y hy
  cases ho:y.oneCell'<;>rw[ho]at hx<;>simp at hx
  subst hx;exact H.cell hy ho
 ·rename_i j _ _
  cases hj:beq j 0<;>rw[hj]at hx
  ·cases hx
  exact hx
 cases hx
theorem AR(X:Cx)(w:World):Yle (pI X) (C8 X w):=fun b i x hx=>by
 unfold pI at hx
 unfold C8
 cases hg:X.G b i<;>rw[hg]at hx<;>first|exact hx|cases hx
theorem FB{X X':Cx}(h:∀b i x,X.G b i=.fz x->X'.G b i=.fz x):Yle (pI X) (pI X'):=fun b i x hx=>by
 unfold pI at hx ⊢
 cases hg:X.G b i<;>rw[hg]at hx<;>first|(rw[h _ _ _ hg];exact hx)|cases hx
theorem Sy.fz{u:World}(h:Sy (C8 X w) u){b:Nat}(hx:X.G b i=.fz x)(h1:x.oneCell'=true):u.cell? (ad b i)=some x:=h b i x (by unfold C8;rw[hx];simp only[h1,cond_true])
theorem Sy.rt{u:World}(h:Sy (C8 X w) u){b:Nat}(hx:X.G b i=.rt r 0 k)(hc:w.cell? (ad b i)=some x):u.cell? (ad b i)=some x:=h b i x (by unfold C8;rw[hx];exact hc)
theorem Yle.rfl'(Y:Nat->Nat->Option Value):Yle Y Y:=fun _ _ _ h=>h
theorem Yle.trans{A B C:Nat->Nat->Option Value}(h1:Yle A B)(h2:Yle B C):Yle A C:=fun b i x h=>h2 b i x (h1 b i x h)
theorem Sy.mono{A B:Nat->Nat->Option Value}{u:World}(h:Yle A B)(hs:Sy B u):Sy A u:=fun b i x hx=>hs b i x (h b i x hx)
theorem xF{X X':Cx}{w:World}{b:Nat}(hG:X'.G b i=X.G b i)(hw:w'.cell? (ad b i)=w.cell? (ad b i)):C8 X' w' b i=C8 X w b i:=by unfold C8;rw[hG,hw]
theorem xG{b:Nat}(hx:C8 X w b i=some x):X.G b i≠ .no:=fun e=>by unfold C8 at hx;rw[e]at hx;cases hx
theorem Wd.new_y(H:Wd X0 X h lv c w0 w)(f:Nat->Ow)(o:Go.Obj):Yle (C8 X w) (C8 (X.new w.heap.size f) (w.alloc o)):=fun b i x hx=>by
 have hb:=H.ex b i (xG hx)
 rw[xF (by simp only[Cx.new];rw[if_neg oM]) (fE w o hb)];exact hx
theorem Wd.own_y(H:Wd X0 X h lv c w0 w)(nm N:Nat)(o:Go.Obj):Yle (C8 X w) (C8 (X.own w.heap.size nm N) (w.alloc o)):=fun b i x hx=>by
 have hb:=H.ex b i (xG hx)
 rw[xF (by simp only[Cx.own];rw[if_neg oM]) (fE w o hb)];exact hx
end
end Go.Proofs.YtgohjiegkhfpmaaGreatDoor
