/- Lemmas for the statement ModelSweeps, part 4: rules of operations, walks through functions, plain laws. -/
import Derived.Test.YtibmfodphlmnfaaGreatDoorModelSweepsG3
import Derived.Laws.IdiomRangeMap
import Derived.Lib.Bytealg
import Derived.Lib.ItoaLen
import Derived.Lib.Slices
import Derived.Lib.Strings
import Derived.Lib.Walk
import Derived.Maps.RangeRun
import Derived.Shelf.LaysM
import Derived.Shelf.Strconv.Itoa4
set_option maxRecDepth 100000
set_option linter.all false
namespace Go.Proofs.YtibmfodphlmnfaaGreatDoor
open Go
open Go.IntKind (i64 u64 u8 u32)
open List (replicate)
open Nat (beq blt)
open BitVec (ofInt)
variable {cf:Cf} {X X' X0:Cx} {Q:Exit->Act->World->Prop} {fn:Func} {k:IntKind} {pv:List (Nat × Value)} {L:List Ch} {S lv lv':List Nat} {C cs vs xs zs:List Value} {N c c' cap i j len m o r:Nat} {h:Nat->Nat->V} {hi mx:Option Operand} {hv:Option Value} {P:Program} {α ι:Type} {e yt:TypeId} {v':V} {R:V->List (Nat × V)->List Nat->Prop} {x:Value} {w w' w0:World}
section
variable {P:Program} {X0:Cx} {w0:World} {Q:Exit->Act->World->Prop} {cf:Cf} {κ:Nat}
theorem fH(m:Bool){f:FuncId}{fn:Func}{ins:List V}{lvi:List Nat}{hi:List (Nat×V)}(hf:P.funcs[f]? =some fn)
  (h:∀X0 w0,Ok0 X0 16->(m=true->X0.wr=true)->Wk P X0 w0 (Fin P fn X0 w0 R) ⟨[.c (fn.body.getD .skip)],LT ins lvi hi fn.ntmps⟩)(hb:(fn.body.isSome,Nat.ble ins.length fn.ntmps)=(true,true):=by kernel_rfl):SatHM P m f ins lvi hi R:=Ny m hf hb h
theorem fM(m:Bool){f:FuncId}{fn:Func}{ins:List V}{lvi:List Nat}(hf:P.funcs[f]? =some fn)
  (h:∀X0 w0,Ok0 X0 0->(m=true->X0.wr=true)->Wk P X0 w0 (Fin P fn X0 w0 R) ⟨[.c (fn.body.getD .skip)],T0 ins lvi fn.ntmps⟩)(hb:(fn.body.isSome,Nat.ble ins.length fn.ntmps)=(true,true):=by kernel_rfl):SatM P m f ins lvi R:=TU m hf hb h
theorem eH(hX:Ok0 X0 κ)(ren:List (Nat×Nat))(l:List V)(out:V)(ho:List (Nat×V))(A0:List Nat)(hR:R out ho A0)(hH:cQ (fK κ ren) (gK κ ren ho) (iK κ ren ho) (nx P cf).s.h ho)
  (e:((nx P cf).ended,dQ P (nx P cf).s fn.results.toList,cS κ (nx P cf).s ren [(0,out)] ho A0 64)=(true,some l,true):=by kernel_rfl)(t7:((pM l).wk (fK κ ren) (gK κ ren ho) out).nz=out:=by kernel_rfl):Wk P X0 w0 (Fin P fn X0 w0 R) cf:=TT hX ren l out ho A0 e (.of_eq t7) hH hR
theorem kH{f:FuncId}{ins:List V}{lvi:List Nat}{hi:List (Nat×V)}(ren:List (Nat×Nat))(rr:List Nat)(hs:UI P f ins lvi hi R)(h:∀out ho A0,R out ho A0->Wk P X0 w0 Q (GB (nx P cf) ren rr out ho A0))
  (e:((nx P cf).tag,(nx P cf).f,(nx P cf).l.map (V.rn (D2 ren) (gH ren rr)),(xO (nx P cf).a.k||kP f)&&(tQ (nx P cf).nm ren rr&&beq (C2 (nx P cf).a.s (nx P cf).a.k) ((nx P cf).nm+64)),X5 (nx P cf).a.s.lv ren,pT (nx P cf).a.s.h ren rr)=(3,f,ins,true,lvi,hi):=by kernel_rfl):Wk P X0 w0 Q cf:=Nx ren rr hs e h
theorem gO{m:Bool}(hm:m=true->X0.wr=true){f:FuncId}{ins:List V}{lvi:List Nat}{hi:List (Nat×V)}(ren:List (Nat×Nat))(rr:List Nat)(hs:SatHM P m f ins lvi hi R)(h:∀out ho A0,R out ho A0->Wk P X0 w0 Q (GB (nx P cf) ren rr out ho A0))
  (e:((nx P cf).tag,(nx P cf).f,(nx P cf).l.map (V.rn (D2 ren) (gH ren rr)),(xO (nx P cf).a.k||kP f)&&(tQ (nx P cf).nm ren rr&&beq (C2 (nx P cf).a.s (nx P cf).a.k) ((nx P cf).nm+64)),X5 (nx P cf).a.s.lv ren,pT (nx P cf).a.s.h ren rr)=(3,f,ins,true,lvi,hi):=by kernel_rfl):Wk P X0 w0 Q cf:=UL hm ren rr hs e h
theorem kO{f:FuncId}{ins:List V}{lvi:List Nat}(ren:List (Nat×Nat))(hs:pJ P f ins lvi R)(h:∀out ho A0,R out ho A0->Wk P X0 w0 Q (BB (nx P cf) ren out ho A0))
  (e:((nx P cf).tag,(nx P cf).f,(nx P cf).l.map (V.rn (D2 ren) g0),gL (nx P cf).a.s.lv 16 ren&&beq (C2 (nx P cf).a.s (nx P cf).a.k) ((nx P cf).nm+64),ren.map (·.2))=(3,f,ins,true,lvi):=by kernel_rfl):Wk P X0 w0 Q cf:=TS ren hs e h
theorem kM{m:Bool}(hm:m=true->X0.wr=true){f:FuncId}{ins:List V}{lvi:List Nat}(ren:List (Nat×Nat))(hs:SatM P m f ins lvi R)(h:∀out ho A0,R out ho A0->Wk P X0 w0 Q (BB (nx P cf) ren out ho A0))
  (e:((nx P cf).tag,(nx P cf).f,(nx P cf).l.map (V.rn (D2 ren) g0),gL (nx P cf).a.s.lv 16 ren&&beq (C2 (nx P cf).a.s (nx P cf).a.k) ((nx P cf).nm+64),ren.map (·.2))=(3,f,ins,true,lvi):=by kernel_rfl):Wk P X0 w0 Q cf:=TR hm ren hs e h
theorem kB{f:FuncId}{ins:List V}(hs:pJ P f ins [] R)(h:∀out ho A0,R out ho A0->(out.flo=true/\∀r,(lk ho r).Flo)/\Wk P X0 w0 Q (LS (nx P cf) out ho))
  (e:((nx P cf).tag,(nx P cf).f,(nx P cf).l.map (V.lent (nx P cf).a.s.h),beq (C2 (nx P cf).a.s (nx P cf).a.k) ((nx P cf).nm+64))=(3,f,ins,true):=by kernel_rfl):Wk P X0 w0 Q cf:=UH hs e fun out ho A0 hR=>⟨⟨UF (h out ho A0 hR).1.1,(h out ho A0 hR).1.2⟩,(h out ho A0 hR).2⟩
theorem jB(q:Prop) [Decidable q](c:Nat)(sl hl:ι->List (Nat×V))(I:ι->Prop)(lv:List Nat)(h:∀R:Act->World->Prop,(∀i,I i->∀a w,At X0 w0 (St (sl i) (hl i) lv c (nx P cf).a.s.n) c a w->R a w)->(q->Wk P X0 w0 Q ((nx P cf).a.cut R))/\(¬ q->Wk P X0 w0 Q ((nx P cf).b.cut R)))
  (h2:∀i,I i->Wk P X0 w0 Q ⟨(nx P cf).a.k.tail,St (sl i) (hl i) lv c (nx P cf).a.s.n⟩)
  (e:((nx P cf).tag,(nx P cf).p)=(1,decide q):=by kernel_rfl)(hk:((nx P cf).a.k.isEmpty,(nx P cf).b.k.isEmpty,(nx P cf).b.k.tail)=(false,false,(nx P cf).a.k.tail):=by kernel_rfl):Wk P X0 w0 Q cf:=
 UM _ sl hl I lv e hk h2 fun R hR=>⟨fun hp=>(h R hR).1 (of_decide_eq_true hp),fun hp=>(h R hR).2 (of_decide_eq_false hp)⟩
theorem jb(q:Bool)(c:Nat)(sl hl:ι->List (Nat×V))(I:ι->Prop)(lv:List Nat)(h:∀R:Act->World->Prop,(∀i,I i->∀a w,At X0 w0 (St (sl i) (hl i) lv c (nx P cf).a.s.n) c a w->R a w)->(q=true->Wk P X0 w0 Q ((nx P cf).a.cut R))/\(q=false->Wk P X0 w0 Q ((nx P cf).b.cut R)))
  (h2:∀i,I i->Wk P X0 w0 Q ⟨(nx P cf).a.k.tail,St (sl i) (hl i) lv c (nx P cf).a.s.n⟩)
  (e:((nx P cf).tag,(nx P cf).p)=(1,q):=by kernel_rfl)(hk:((nx P cf).a.k.isEmpty,(nx P cf).b.k.isEmpty,(nx P cf).b.k.tail)=(false,false,(nx P cf).a.k.tail):=by kernel_rfl):Wk P X0 w0 Q cf:=UM _ sl hl I lv e hk h2 h
theorem jA(n c:Nat)(sl hl:ι->List (Nat×V))(I:ι->Prop)(lv:List Nat)(h:∀R:Act->World->Prop,(∀i,I i->∀a w,At X0 w0 (St (sl i) (hl i) lv c (nx P cf).a0.s.n) c a w->R a w)->∀i,i<n->Wk P X0 w0 Q (((nx P cf).alts.getD i ⟨[],pP⟩).cut R))
  (h2:∀i,I i->Wk P X0 w0 Q ⟨(nx P cf).a0.k.tail,St (sl i) (hl i) lv c (nx P cf).a0.s.n⟩)
  (e:((nx P cf).tag,(nx P cf).alts.length)=(5,n):=by kernel_rfl)(hk:(nx P cf).alts.map (fun A=>(A.k.isEmpty,A.k.tail))=replicate n (false,(nx P cf).a0.k.tail):=by kernel_rfl):Wk P X0 w0 Q cf:=Og n sl hl I lv e hk h2 h
def mS(f:FuncId)(l:List V):V:=.fn f l.length fun k=>l.getD k .un
def BJ:Nat->V->Prop
|0,v=>∃n,v=.i .i64 n
|1,v=>∃l,l.length<=1000000/\v=.bl 0 l
|_,v=>∃(l:List UInt8) (q:Bool),l.length<=1000000/\v=A1 [.bl 0 l,.b q]
theorem MB{tg:Nat}{v:V}(h:X4 tg v=true)(hr:repv X lv c v x):∃v',BJ tg v'/\repv X lv c v' x:=by
 unfold X4 at h
 split at h
 ·exact⟨_,⟨_,rfl⟩,hr⟩
 ·rw[B0,g9]at h
  have h1:=A5 h.1
  subst h1
  exact⟨_,⟨_,h.2,rfl⟩,hr⟩
 ·rename_i n g
  rw[B0]at h
  have h1:=A5 h.1
  subst h1
  have h2:=h.2
  split at h2
  ·rename_i t l q e0 e1
   rw[B0,g9]at h2
   have h3:=A5 h2.1
   subst h3
   refine⟨A1 [.bl 0 l,.b q],⟨l,q,h2.2,rfl⟩,?_⟩
   obtain⟨C,c1,c2⟩:=hr
   refine⟨C,c1,d6 c2 fun k cs hk hr=>?_⟩
   match k,hk with
  |0,_=>rw[e0]at hr;exact hr
  |1,_=>rw[e1]at hr;exact hr
  cases h2
 cases h
theorem mL{t kt et:TypeId}{x y:Operand}{ok:Bool}{d:Nat}(b:Nat)(tg:MS)(k:List UInt8)(hK:KeyT P kt)
  (h:∀v p,BJ tg.s v->(p=true->k∈tg.K)->Wk P X0 w0 Q ⟨(nx P cf).a.k,(nx P cf).a.s.put (some d) (bif ok then A2 [v,.b p] else v)⟩)
  (e:((nx P cf).tag,beq (C2 (nx P cf).a.s (nx P cf).a.k) ((nx P cf).nm+64),(nx P cf).op.dst,av P (nx P cf).a.s.σ 0 x,av P (nx P cf).a.s.σ 0 y,P.underlying t,(P.info? et).bind (·.zero),Nat.ble tg.s 2)=(9,true,some d,.mp b 0 tg,.bs 32 k,some (.map kt et),some (bC tg.s),true):=by kernel_rfl)
  (eo:(nx P cf).op.op=.lookup t x y ok:=by kernel_rfl):Wk P X0 w0 Q cf:=by
 simp only[G5]at e
 obtain⟨e1,e2,e3,e4,e5,e6,e7,e8⟩:=e
 rw[g9]at e8
 refine GC (fun v'=>∃v p,BJ tg.s v/\(p=true->k∈tg.K)/\v'=bif ok then A2 [v,.b p] else v) (by rw[e1,e2]) (fun X τ w hF H=>?_) fun v' ⟨v,p,hv,hp,e⟩=>by rw[e3,e];exact h v p hv hp
 obtain⟨v,h1,v',p,h2,hpK,h3⟩:=Oh (ty:=(nx P cf).op.type) (pos:=(nx P cf).op.pos) (aft:=(nx P cf).op.after) (g:=(nx P cf).op.guard) (d:=d) (ok:=ok) hK e6 e7 e8 H hF e4 e5
 have:(nx P cf).op=⟨some d,.lookup t x y ok,(nx P cf).op.type,(nx P cf).op.pos,(nx P cf).op.after,(nx P cf).op.guard⟩:=by rw[<-eo, <-e3]
 rw[<-this]at h1
 cases ok
 ·obtain⟨v2,k1,k2⟩:=MB h2 h3
  exact⟨v,w,X,_,h1,Cx.le.rfl' _ _ _,H.up zO,k2,fun _ _ _ h=>h,v2,p,k1,hpK,rfl⟩
 obtain⟨C,rfl,c1,c2⟩:=h3
 obtain⟨y0,g1,g2⟩:=c2 0 (show 0<2 by decide)
 obtain⟨v2,k1,k2⟩:=MB h2 g2
 refine⟨_,w,X,_,h1,Cx.le.rfl' _ _ _,H.up zO,(?_:repv X _ _ (A2 [v2,.b p]) _),fun _ _ _ h=>h,v2,p,k1,hpK,rfl⟩
 refine⟨C,rfl,c1,fun k hk=>?_⟩
 match k,hk with
 |0,_=>exact⟨y0,g1,k2⟩
 |1,_=>exact c2 1 (show 1<2 by decide)
theorem mE{t kt et:TypeId}{x y:Operand}{d:Nat}(b:Nat)(tg:MS)(k:List UInt8)(hK:KeyT P kt)(hw:X0.wr=true)(rC:k∈tg.K)
  (h:∀v m,BJ tg.s v->Wk P X0 w0 Q ⟨(nx P cf).a.k,(nx P cf).a.s.put (some d) (A2 [v,.mp b (m+1) tg])⟩)
  (e:((nx P cf).tag,beq (C2 (nx P cf).a.s (nx P cf).a.k) ((nx P cf).nm+64),(nx P cf).op.dst,av P (nx P cf).a.s.σ 0 x,av P (nx P cf).a.s.σ 0 y,P.underlying t,(P.info? et).bind (·.zero),Nat.ble tg.s 2)=(9,true,some d,.mp b 0 tg,.bs 32 k,some (.map kt et),some (bC tg.s),true):=by kernel_rfl)
  (eo:(nx P cf).op.op=.mapEntry t x y:=by kernel_rfl):Wk P X0 w0 Q cf:=by
 simp only[G5]at e
 obtain⟨e1,e2,e3,e4,e5,e6,e7,e8⟩:=e
 rw[g9]at e8
 refine GC (fun v'=>∃v m,BJ tg.s v/\v'=A2 [v,.mp b (m+1) tg]) (by rw[e1,e2]) (fun X τ w hF H=>?_) fun v' ⟨v,m,hv,e⟩=>by rw[e3,e];exact h v m hv
 obtain⟨v,w',X',h1,h2,h3,h4,v',m,h5,h6⟩:=Ok (ty:=(nx P cf).op.type) (pos:=(nx P cf).op.pos) (aft:=(nx P cf).op.after) (g:=(nx P cf).op.guard) (d:=d) hK e6 e7 e8 H hw hF e4 e5 rC
 have:(nx P cf).op=⟨some d,.mapEntry t x y,(nx P cf).op.type,(nx P cf).op.pos,(nx P cf).op.after,(nx P cf).op.guard⟩:=by rw[<-eo, <-e3]
 rw[<-this]at h1
 obtain⟨C,rfl,c1,c2⟩:=h6
 obtain⟨y0,g1,g2⟩:=c2 0 (show 0<2 by decide)
 obtain⟨v2,k1,k2⟩:=MB h5 g2
 refine⟨_,w',X',_,h1,h2,h3,(?_:repv X' _ _ (A2 [v2,.mp b (m+1) tg]) _),by rw[h4];exact fun _ _ _ h=>h,v2,m,k1,rfl⟩
 refine⟨C,rfl,c1,fun k hk=>?_⟩
 match k,hk with
|0,_=>exact⟨y0,g1,k2⟩
|1,_=>exact c2 1 (show 1<2 by decide)
end
def V.rng:V->Prop
|.i k n=>k.wrap n=n
|.s l=>l.length<=maxLen
|.bs n l=>l.length=n
|.bl _ l=>l.length<=maxLen
|.st n g|.tu n g=>∀k,k<n->(g k).rng
|.ar _ n g|.sl _ _ n g=>∀k,k<n->(g k).rng
|.pz v|.ro v=>v.rng
|_=>True
theorem Oo{n:Nat}{R:Nat->List Value->Prop}(h:dL n R cs):∀k,k<n->∃es,R k es:=by
 induction n generalizing cs with
|zero=>intro k hk;omega
|succ n ih=>
  intro k hk
  obtain⟨a,b,_,h1,h2⟩:=h
  by_cases e:k=n
  ·subst e;exact⟨b,h2⟩
  exact ih h1 k zO
theorem UT:∀{v:V} {lv:List Nat} {c:Nat} {cs:List Value},rep X v lv c cs->v.rng:=by
 intro v
 induction v with
|i k n=>intro _ _ _ h;exact h.2
|s l=>intro _ _ _ h;exact h.2
|bs n l=>intro _ _ _ h;exact h.1
|bl t l=>intro _ _ _ h;obtain⟨a,cap,_,h1,h2,_⟩:=h;exact L6 h1 h2
|st n g ih=>intro _ _ _ h k hk;obtain⟨es,he⟩:=Oo h k hk;exact ih k he
|tu n g=>intro _ _ _ h;exact h.elim
|ar z n g ih=>intro _ _ _ h k hk;exact ih k (h.2 k hk).1
|sl t z n g ih=>
  intro _ _ _ h k hk
  obtain⟨_,a,cap,_,h1,_,_,_,h2⟩:=h
  rcases h2 with⟨_,h2⟩|⟨b,o,_,h2,_⟩
  ·omega
  obtain⟨es,he,_⟩:=h2 k hk
  exact ih k he
|pz v ih=>intro _ _ _ h;obtain⟨_,_,_,_,h,_⟩:=h;exact ih h
|ro v=>intro _ _ _ h;exact h.elim
|_=>intro _ _ _ _;trivial
theorem UU:∀{v:V} {lv:List Nat} {c:Nat} {x:Value},repv X lv c v x->v.rng:=by
 intro v
 induction v with
|tu n g ih=>intro _ _ _ h k hk;obtain⟨_,_,_,h⟩:=h;obtain⟨y,_,hy⟩:=h k hk;exact ih k hy
|un=>intro _ _ _ _;trivial
|st|ar|bs=>intro _ _ _ h;obtain⟨C,_,h⟩:=h;exact UT h
|_=>intro _ _ _ h;exact UT h
section
variable {P:Program} {X0:Cx} {w0:World} {Q:Exit->Act->World->Prop} {cf:Cf} {κ:Nat}
theorem Oq{p:Prop}(h0:∀X τ w,FrR X cf.s.lv (C2 cf.s cf.k) cf.s.n cf.s.σ τ->Wd X0 X cf.s.h cf.s.lv (C2 cf.s cf.k) w0 w->p)(h:p->Wk P X0 w0 Q cf):Wk P X0 w0 Q cf:=by
 refine⟨fun hQ=>?_⟩
 rintro Y a w ⟨X,τ,rfl,hF,H,rfl⟩
 exact(h (h0 X τ w hF H)).run hQ _ _ _ ⟨X,τ,rfl,hF,H,rfl⟩
theorem rS(d:Nat)(h:(cf.s.σ d).rng->Wk P X0 w0 Q cf):Wk P X0 w0 Q cf:=Oq (fun _ _ _ hF _=>UU (hF d)) h
theorem mM(d:Nat)(b:Bool)(h:Wk P X0 w0 Q ⟨cf.k,{ cf.s with σ:=cP cf.s.σ d (bif b then A2 [] else .un) }⟩)(hn:Nat.ble cf.s.n d=true:=by kernel_rfl):Wk P X0 w0 Q cf:=by
 have hc:∀v,C2 { cf.s with σ:=cP cf.s.σ d v} cf.k=C2 cf.s cf.k:=fun v=>by unfold C2;split<;>rfl
 refine⟨fun hQ=>?_⟩
 have I0:=h.run hQ
 show Run P X0 w0 Q ⟨cf.k,cf.s⟩
 refine tO (by rfl) (fun X τ w hF H=>⟨X,fun t=>?_,by rw[hc];exact H,fun _ _ _ h=>h,fun _ _=>rfl⟩) I0
 rw[hc]
 show repv X cf.s.lv _ (cP cf.s.σ d _ t) _
 unfold cP
 cases hb:beq t d
 ·exact hF t
 have:=A5 hb
 subst this
 simp only[ev]
 have:blt t cf.s.n=false:=by rw[g9]at hn;cases hb:blt t cf.s.n;rfl;rw[A8]at hb;omega
 rw[this]
 cases b
 ·trivial
 exact⟨#[],rfl,rfl,fun k hk=>by exact absurd hk (U2 k)⟩
def eqF:List V->List V->Prop
|[],[]=>True
|a::l,b::m=>VEq a b/\eqF l m
|_,_=>False
theorem eqF.at:∀{l m:List V},eqF l m->l.length=m.length/\∀i,VEq (l.getD i .un) (m.getD i .un)
|[],[],_=>⟨rfl,fun _=>.rfl _⟩
|_::_,[],h=>h.elim
|[],_::_,h=>h.elim
|_::l,_::m,h=>⟨by simp only[I4,(eqF.at h.2).1],fun i=>match i with|0=>h.1|i+1=>(eqF.at h.2).2 i⟩
theorem C4{l m:List V}(h:eqF l m):VEq (A1 l) (A1 m):=by
 have:=h.at
 unfold A1
 rw[<-this.1]
 exact .st _ _ _ fun i _=>this.2 i
theorem F3{l m:List V}(h:eqF l m):VEq (A2 l) (A2 m):=by
 have:=h.at
 unfold A2
 rw[<-this.1]
 exact .tu _ _ _ fun i _=>this.2 i
theorem vN{t z:Nat}{g g':Nat->V}:VEq (.sl t z 0 g) (.sl t z 0 g'):=.sl _ _ _ _ _ fun i h=>absurd h (U2 i)
theorem dU{z:Nat}{g g':Nat->V}:VEq (.sl 1 z 0 g) (.sl 0 z 0 g'):=.fl _ _ _ _ fun i h=>absurd h (U2 i)
theorem UV{t z k:Nat}{g:Nat->V}:VEq (.sl t z (k+1) fun i=>bif blt i k then g i else g k) (.sl t z (k+1) g):=.sl _ _ _ _ _ fun i hi=>by
 cases hb:blt i k
 ·have:¬ i<k:=by rw[<-A8,hb];simp
  have:i=k:=by omega
  subst this;rfl
 rfl
theorem Ot [Inhabited α]{t z:Nat}{e:α->V}(l:List α)(x:α){v:V}(h:VEn v (e x)):VEq (.sl t z (l.length+1) fun i=>bif blt i l.length then e (l.getD i default) else v) (B4 t z e (l++[x])):=by
 have:B4 t z e (l++[x])=.sl t z (l.length+1) fun i=>e ((l++[x]).getD i default):=by simp[B4]
 rw[this]
 refine .sn _ _ _ _ _ fun i hi=>?_
 rw[<-TV l [x] i]
 cases hb:blt i l.length
 ·have:¬ i<l.length:=by rw[<-A8,hb];simp
  have:i-l.length=0:=by omega
  simp only[cond_false,this];exact h
 exact .rfl _
theorem eV{R:V->List Nat->Prop}(hX:Ok0 X0 0)(ren:List (Nat×Nat))(l:List V)(out:V)(A0:List Nat)(u:V)(hv:VEq u out)(hR:R out A0)
  (e:((nx P cf).ended,dQ P (nx P cf).s fn.results.toList,cS 0 (nx P cf).s ren [(0,out)] [] A0 64)=(true,some l,true):=by kernel_rfl)(t7:((pM l).wk (fK 0 ren) (gK 0 ren []) out).nz=u:=by kernel_rfl):Wk P X0 w0 (Fin P fn X0 w0 fun out ho A0=>ho=[]/\R out A0) cf:=Mr hX ren l out [] A0 e (t7▸hv) trivial ⟨rfl,hR⟩
theorem vU{v:V}{k:Nat}(hk:k<18446744073709551615:=by omega)(h:v=.i .u64 (u64.wrap ((k:Int)+1)):=by kernel_rfl):VEq v (.i .u64 ((k+1:Nat):Int)):=.of_eq (by rw[h,LP ⟨zO,zO⟩];simp)
theorem bd{p:Prop}(h:p:=by first|omega|(simp;done)|(simp;omega)|(simp only[F6,K5,C9];omega)|(simp only[C9,I4,S1,F6,K5]at *;omega)):p:=h
theorem bw{p:Prop}(h:p:=by first|omega|exact T6 _|exact pR _|(simp[IntKind.wrap,IntKind.bits,IntKind.signed];omega)|(simp[IntKind.wrap,IntKind.bits,IntKind.signed]at *;omega)):p:=h
theorem bm{p:Prop}(h:p:=by have mx:maxLen=9223372036854775807:=rfl;omega):p:=h
theorem wI{a:Int}(h:(V.i .i64 a).rng): -9223372036854775808<=a/\a<9223372036854775808:=by
 have h:i64.wrap a=a:=h
 rw[<-h];exact pR a
theorem wU{a:Int}(h:(V.i .u64 a).rng):0<=a/\a<18446744073709551616:=by
 have h:u64.wrap a=a:=h
 rw[<-h];exact T6 a
theorem wB{a:Int}(h:(V.i .u8 a).rng):0<=a/\a<256:=by
 have h:u8.wrap a=a:=h
 rw[<-h];exact UB a
end
def Z1(r r' t:Nat):Nat:=bif beq t r then r' else t
theorem xY{r':Nat}:Z1 r r' r=r':=by unfold Z1;rw[show beq r r=true from P7 r];rfl
theorem mT{r' t:Nat}(h:t≠r):Z1 r r' t=t:=by
 unfold Z1
 rw[show beq t r=false by (cases hb:beq t r;rfl;exact absurd (A5 hb) h)];rfl
def Cx.mv(X:Cx)(r r':Nat):Cx:=⟨fun b i=>match X.G b i with
|.tp t=>.tp (Z1 r r' t)
|.rt a j k=>bif beq j 0 then .rt (Z1 r r' a) j k else .rt a j k
|x=>x,fun a j=>bif beq a r'&&beq j 0 then X.ρ r 0 else X.ρ a j,X.Φ,X.κ,X.ν,X.wr⟩
def T.mv(s:T)(r r':Nat):T:=⟨fun t=>(s.σ t).rn (Z1 r r') (Z1 r r'),fun a j=>bif beq a r'&&beq j 0 then (s.h r 0).rn (Z1 r r') (Z1 r r') else bif beq a r&&beq j 0 then .un else (s.h a j).rn (Z1 r r') (Z1 r r'),s.lv.map (Z1 r r'),s.c+64,s.n⟩
section
variable {P:Program} {X X0:Cx} {w0 w:World} {h:Nat->Nat->V} {lv:List Nat} {c r r':Nat}
theorem BK(hl:∀t,t∈lv->2<=t/\t<c)(hr:c<=r'){t:Nat}(ht:t∈lv.map (Z1 r r')):(t=r'/\r∈lv)\/(t<c/\t≠r/\t∈lv):=by
 obtain⟨a,h1,rfl⟩:=J3.1 ht
 by_cases e:a=r
 ·subst e;rw[xY];exact .inl ⟨rfl,h1⟩
 rw[mT e];exact .inr ⟨(hl a h1).2,e,h1⟩
theorem MC(H:Wd X0 X h lv c w0 w)(hr:c<=r')(h0:r≠0):RenT X (X.mv r r') lv (lv.map (Z1 r r')) c (r'+1) (Z1 r r') (Z1 r r'):=by
 have hc:=H.c2
 have tp:∀t,t<c->Z1 r r' t∈lv.map (Z1 r r')->t∈lv/\∀b i,X.G b i=.tp t->(X.mv r r').G b i=.tp (Z1 r r' t):=fun t ht hm=>by
  refine⟨?_,fun b i hx=>by simp only[Cx.mv,hx]⟩
  rcases BK H.lvc hr hm with⟨h1,h2⟩|⟨h1,h2,h3⟩
  ·by_cases e:t=r
   ·subst e;exact h2
   rw[mT e]at h1;omega
  by_cases e:t=r
  ·subst e;rw[xY]at h1;omega
  rw[mT e]at h3;exact h3
 have lt:∀t,t<c->Z1 r r' t<r'+1:=fun t ht=>by
  by_cases e:t=r
  ·subst e;rw[xY];omega
  rw[mT e];omega
 refine⟨fun a p h2 hp=>?_,fun a ha h2=>⟨lt a ha,tp a ha⟩,fun b i x hx=>by simp only[Cx.mv,hx],lt,fun t ht h1=>?_,⟨zO,fun t ht=>?_⟩,tp,mT fun e=>h0 e.symm⟩
 ·have ha:=H.ρc a 0 p hp
  by_cases e:a=r
  ·subst e;rw[xY];simp only[Cx.mv,P7,Bool.and_self,cond_true];exact hp
  rw[mT e]
  simp only[Cx.mv]
  rw[show beq a r'=false by (cases hb:beq a r';rfl;have:=A5 hb;omega)]
  exact hp
 ·by_cases e:t=r
  ·subst e;rw[xY]at h1;omega
  rw[mT e]at h1;exact h1
 rcases BK H.lvc hr ht with⟨h1,h2⟩|⟨h1,h2,h3⟩
 ·omega
 exact(H.lvc t h3).1
theorem UW{f:Nat->Nat}(R:RenT X X' lv lv' c c' f f){a a' b:Nat}{v:V}(hR:RtR X lv c w a j b o N v)(hg:∀k,X.G b (o+k)=.rt a j k->X'.G b (o+k)=.rt a' j k):RtR X' lv' c' w a' j b o N (v.rn f f):=by
 have main:∀cs,rep X v lv c cs->v.mem=true->cs.length=N->Q7 X w a j b o cs->RtR X' lv' c' w a' j b o N (v.rn f f):=fun cs h1 h2 h3 h4=>
  dN ((mQ v).1.trans h2) (z8 R h1) h3 fun k x hk=>⟨hg k (h4 k x hk).1,(h4 k x hk).2⟩
 cases v with
|ro v=>obtain⟨cs,h1,h2,h3,h4⟩:=hR;exact⟨cs,rep.nest R.fz h1,h2,h3,h4.mono R.fz⟩
|un=>trivial
|_=>obtain⟨cs,h1,h2,h3,h4⟩:=hR;exact main cs h1 h2 h3 h4
theorem Ou{s:T}(H:Wd X0 X s.h s.lv c w0 w)(hr:c<=r')(h0:r≠0):Wd X0 (X.mv r r') (s.mv r r').h (s.mv r r').lv (r'+1) w0 w:=by
 have R:=MC (r:=r) H hr h0
 have hc:=H.c2
 have gk:∀b i,(∀t,X.G b i=.tp t->(X.mv r r').G b i=.tp (Z1 r r' t))/\(∀x,(X.mv r r').G b i=.fz x->X.G b i=.fz x)/\((X.mv r r').G b i=.no->X.G b i=.no)/\(∀t,(X.mv r r').G b i=.tp t->∃t',X.G b i=.tp t'):=fun b i=>by
  simp only[Cx.mv]
  cases hg:X.G b i with
 |rt a j k=>cases hb:beq j 0<;>simp only[hb,cond_true,cond_false]<;>exact⟨fun t e=>(by cases e),fun x e=>(by cases e),fun e=>(by cases e),fun t e=>(by cases e)⟩
 |tp t=>exact⟨fun t' e=>(by cases e;rfl),fun x e=>(by cases e),fun e=>(by cases e),fun t' e=>⟨t,rfl⟩⟩
 |no=>exact⟨fun t e=>(by cases e),fun x e=>(by cases e),fun _=>rfl,fun t e=>(by cases e)⟩
 |fz y=>exact⟨fun t e=>(by cases e),fun x e=>e,fun e=>(by cases e),fun t e=>(by cases e)⟩
 have gno:∀b i,(X.mv r r').G b i≠ .no->X.G b i≠ .no:=fun b i hn e=>hn (by simp only[Cx.mv,e])
 have rho:∀a j p,a≠r'->X.ρ a j=some p->(X.mv r r').ρ a j=some p:=fun a j p ha hp=>by
  simp only[Cx.mv]
  rw[show beq a r'=false by (cases hb:beq a r';rfl;exact absurd (A5 hb) ha)];exact hp
 refine { kb:=H.kb,tape:=H.tape,fz0:=fun b i x hx=>R.fz b i x (H.fz0 b i x hx),no0:=fun b i hb hn=>?_,mp0:=fun b t hb hx=>H.mp0 b t hb ((gk b 0).2.1 _ hx),ρ0:=fun a j p hp=>?_,ex:=fun b i hn=>H.ex b i (gno b i hn),fz:=fun b i x hx=>(H.fz b i x ((gk b i).2.1 x hx)).move R.fz rfl fun _ _ h=>h,tp:=fun b i t hx=>?_,rt:=fun a j b o N hp=>?_,c2:=by omega,lvc:=fun t ht=>?_,ρc:=fun a j p hp=>?_,inv:=?_,imo:=H.imo,κc:=by have:=H.κc;omega,νe:=H.νe,we:=H.we,gz:=H.gz,ν0:=H.ν0,νs:=H.νs,nf:=H.nf.sub fun b i hb hn=>.inl ⟨i,gno b i hn⟩}
 ·rcases H.no0 b i hb hn with h|⟨t,h⟩
  ·exact .inl (by simp only[Cx.mv,h])
  exact .inr ⟨t,R.fz b i _ h⟩
 ·have h1:=H.ρ0 a j p hp
  have:=H.ρc a j p h1
  exact rho a j p zO h1
 ·obtain⟨t',h1⟩:=(gk b i).2.2.2 t hx
  exact H.tp b i t' h1
 ·simp only[Cx.mv]at hp
  simp only[T.mv]
  cases hb:(beq a r'&&beq j 0)<;>rw[hb]at hp
  ·simp only[cond_false]at hp ⊢
   cases S2:(beq a r&&beq j 0)
   ·refine UW R (H.rt a j b o N hp) fun k hk=>?_
    simp only[Cx.mv,hk]
    cases hj:beq j 0
    ·rfl
    rw[hj,Bool.and_true]at S2
    have:a≠r:=fun e=>by subst e;rw[P7]at S2;cases S2
    rw[mT this];rfl
   trivial
  simp only[cond_true]at hp ⊢
  rw[B0]at hb
  have e1:=A5 hb.1
  have e2:=A5 hb.2
  subst e1 e2
  refine UW R (H.rt r 0 b o N hp) fun k hk=>?_
  simp only[Cx.mv,hk,xY];rfl
 ·rcases BK H.lvc hr ht with⟨h1,h2⟩|⟨h1,h2,h3⟩
  ·subst h1;omega
  have:=H.lvc t h3;omega
 ·simp only[Cx.mv]at hp
  cases hb:(beq a r'&&beq j 0)<;>rw[hb]at hp
  ·have:=H.ρc a j p hp;omega
  rw[B0]at hb;have:=A5 hb.1;omega
 refine H.imo _ _ _ _ _ _ ⟨R.fz,fun b i t ht hk hx=>?_,fun t ht hk=>?_,fun a j p h2 hk hp=>?_⟩ H.inv
 ·have hκ:=H.κc
  rcases BK H.lvc hr ht with⟨h1,h2⟩|⟨h1,h2,h3⟩
  ·omega
  rw[(gk b i).1 t hx,mT h2]
 ·have hκ:=H.κc
  rcases BK H.lvc hr ht with⟨h1,h2⟩|⟨h1,h2,h3⟩
  ·omega
  exact h3
 have hκ:=H.κc
 exact rho a j p zO hp
variable {Q:Exit->Act->World->Prop} {cf:Cf}
theorem mV(r:Nat)(h:Wk P X0 w0 Q ⟨cf.k,cf.s.mv r (C2 cf.s cf.k)⟩)(h0:r≠0:=by decide):Wk P X0 w0 Q cf:=by
 refine⟨fun hQ=>?_⟩
 have I0:=h.run hQ
 show Run P X0 w0 Q ⟨cf.k,cf.s⟩
 have hc:C2 (cf.s.mv r (C2 cf.s cf.k)) cf.k=C2 cf.s cf.k+64:=by
  unfold C2;split<;>simp only[T.mv]<;>omega
 refine tO (by rfl) (fun X τ w hF H=>⟨X.mv r (C2 cf.s cf.k),fun t=>?_,?_,(MC H (B3 _) h0).fz,fun b i=>?_⟩) I0
 ·rw[hc];exact(gJ (MC H (B3 _) h0) (hF t)).mono (Cx.le.rfl' _ _ _) zO
 ·rw[hc];exact(Ou H (B3 _) h0).up zO
 unfold C7
 simp only[Cx.mv]
 cases X.G b i with
 |rt a j k=>cases hj:beq j 0<;>simp only[hj,cond_true,cond_false]
 |_=>rfl
end
section
variable {P:Program} {X0:Cx} {w0:World} {Q:Exit->Act->World->Prop} {κ:Nat} {cf:Cf}
theorem gR(r:Nat)(u v:V)(hv:RLe u v)(h:Wk P X0 w0 Q ⟨cf.k,{ cf.s with h:=E0 cf.s.h r 0 v }⟩)(e:(cf.s.h r 0).nz=u:=by kernel_rfl)(hm:(cf.s.h r 0).mem=true:=by kernel_rfl):Wk P X0 w0 Q cf:=
 Nb (k:=cf.k) (s:=cf.s) r v hm ⟨hv.mem,fun X lv c cs hc hl hr=>hv.rep X lv c cs hc hl (e▸pC hr)⟩ h
theorem gZ(r:Nat)(h:Wk P X0 w0 Q ⟨cf.k,{ cf.s with σ:=fun t=>esc r (cf.s.h r 0) (cf.s.σ t),h:=fun r' j=>bif beq r' r&&beq j 0 then .ro (cf.s.h r 0) else esc r (cf.s.h r 0) (cf.s.h r' j) }⟩)(hr:TW (cf.s.h r 0)=true:=by kernel_rfl):Wk P X0 w0 Q cf:=
 Na (k:=cf.k) (s:=cf.s) r hr h
theorem Ov(hX:Ok0 X0 κ)(sl hl:ι->List (Nat×V))(I:ι->Prop)(μ:ι->Nat)(ren:List (Nat×Nat))(lv:ι->List Nat)(c:Nat)(e:(nx P cf).tag=4)(i0:ι)(hf:Fit κ (nx P cf).a.s ren (sl i0) (hl i0) (lv i0) c)(hI:I i0)
  (h:∀i,I i->∀R:Act->World->Prop,(∀j,I j->μ j<μ i->∀a w,At X0 w0 (St (sl j) (hl j) (lv j) c (nx P cf).a.s.n) c a w->R a w)->Wk P X0 w0 Q ⟨.c (nx P cf).code:: .lp R::(nx P cf).a.k,St (sl i) (hl i) (lv i) c (nx P cf).a.s.n⟩):Wk P X0 w0 Q cf:=by
 classical
 cases hn:nx P cf<;>rw[hn]at e hf h<;>simp only[Ev.tag,Nat.reduceEqDiff]at e
 rename_i b A
 refine⟨fun hQ=>M7 hQ 1000 cf.k cf.s ?_⟩
 rw[show go P 1000 cf.k cf.s=.loop b A from hn]
 intro a w ha
 let J:Act->World->Prop:=fun a w=>∃i,I i/\At X0 w0 (St (sl i) (hl i) (lv i) c A.s.n) c a w
 let p:Act->World->Nat->Prop:=fun a w m=>∃i,I i/\At X0 w0 (St (sl i) (hl i) (lv i) c A.s.n) c a w/\μ i=m
 have ex:∀a w,J a w->∃m,p a w m/\∀k,p a w k->m<=k:=fun a w ⟨i,h1,h2⟩=>IY (p a w) (μ i) ⟨i,h1,h2,rfl⟩
 let M:Act->World->Nat:=fun a w=>if h:J a w then Classical.choose (ex a w h) else 0
 have hM:∀a w,J a w->p a w (M a w)/\∀k,p a w k->M a w<=k:=fun a w h=>by
  have e:M a w=Classical.choose (ex a w h):=dif_pos h
  rw[e]
  exact Classical.choose_spec (ex a w h)
 refine wp_loop J M ⟨i0,hI,LN hX hf ha⟩ ?_;intro a w hJ
 obtain⟨⟨i,h1,h2,hμ⟩,_⟩:=hM a w hJ
 have:b.wp P (D4 P Q (.lp (fun a w=>∃j,I j/\μ j<μ i/\At X0 w0 (St (sl j) (hl j) (lv j) c A.s.n) c a w)::A.k)) a w:=((h i h1 _ (fun j q1 q2 a w q3=>⟨j,q1,q2,q3⟩)).run hQ).to h2
 rw[mP]at this
 refine wp_mono this fun e a' w' hq=>?_
 cases e<;>simp only[Exit.then]at hq ⊢
 case normal=>
  obtain⟨j,j1,j2,j3⟩:=hq
  have hJ':J a' w':=⟨j,j1,j3⟩
  exact⟨hJ',Nat.lt_of_le_of_lt ((hM _ _ hJ').2 _ ⟨j,j1,j3,rfl⟩) (hμ▸j2)⟩
 all_goals exact hq
theorem Ox(hX:Ok0 X0 κ)(sl hl sl' nQ:ι->List (Nat×V))(I:Bool×ι->Prop)(μ:ι->Nat)(ren:List (Nat×Nat))(lv lv':List Nat)(c:Nat)(i0:ι)(hI:I (false,i0))(hS:pO (fK κ ren) (gK κ ren (hl i0)) (nx P cf).a.s.σ (sl i0))(hH:cQ (fK κ ren) (gK κ ren (hl i0)) (iK κ ren (hl i0)) (nx P cf).a.s.h (hl i0))
  (h1:∀i,I (false,i)->∀R:Act->World->Prop,(∀j,I (false,j)->μ j<μ i->∀a w,At X0 w0 (St (sl j) (hl j) lv c (nx P cf).a.s.n) c a w->R a w)->(∀j,I (true,j)->μ j<μ i->∀a w,At X0 w0 (St (sl' j) (nQ j) lv' c (nx P cf).a.s.n) c a w->R a w)->Wk P X0 w0 Q ⟨.c (nx P cf).code:: .lp R::(nx P cf).a.k,St (sl i) (hl i) lv c (nx P cf).a.s.n⟩)
  (h2:∀i,I (true,i)->∀R:Act->World->Prop,(∀j,I (true,j)->μ j<μ i->∀a w,At X0 w0 (St (sl' j) (nQ j) lv' c (nx P cf).a.s.n) c a w->R a w)->Wk P X0 w0 Q ⟨.c (nx P cf).code:: .lp R::(nx P cf).a.k,St (sl' i) (nQ i) lv' c (nx P cf).a.s.n⟩)
  (e:(nx P cf).tag=4:=by kernel_rfl)(hk:cS κ (nx P cf).a.s ren (sl i0) (hl i0) lv c=true:=by kernel_rfl):Wk P X0 w0 Q cf:=
 Ov hX (fun p:Bool×ι=>bif p.1 then sl' p.2 else sl p.2) (fun p=>bif p.1 then nQ p.2 else hl p.2) I (fun p=>μ p.2) ren (fun p=>bif p.1 then lv' else lv) c e (false,i0) ⟨hk,hS,hH⟩ hI fun p hp R hR=>match p,hp,hR with
 |(false,i),hp,hR=>h1 i hp R (fun j q1 q2=>hR (false,j) q1 q2) fun j q1 q2=>hR (true,j) q1 q2
 |(true,i),hp,hR=>h2 i hp R fun j q1 q2=>hR (true,j) q1 q2
end
theorem MD{l l':List V}(h:l.map V.strip=l'):VEn (A1 l).strip (A1 l'):=by
 have hl:l'.length=l.length:=by rw[<-h,J4]
 have e:∀i,(l.getD i .un).strip=l'.getD i .un:=fun i=>by
  rw[<-h,j9,j9,Y5]
  cases l[i]? <;>rfl
 unfold A1
 rw[hl]
 exact .st _ _ _ fun i _=>by
  show VEn (l.getD i .un).strip (l'.getD i .un)
  rw[e];exact .rfl _
theorem UX{z n:Nat}{g:Nat->V}{l l':List V}(hv:A1 l'=g i)(hl:l.map V.strip=l'):VEq (.ar z n fun j=>bif beq j i then (A1 l).strip else g j) (.ar z n g):=.an _ _ _ _ fun j _=>by
 cases e:beq j i
 ·exact .rfl _
 have:=A5 e
 subst this;rw[<-hv];exact MD hl
theorem GH(h:j≠i):beq j i=false:=by cases e:beq j i;rfl;exact absurd (A5 e) h
theorem fC{z n:Nat}{g:Nat->V}{l l':List V}(hv:A1 l'=g i)(hl:l.map V.strip=l')(hp:((A1 l).prs a7&&(A1 l).mem)=true):RLe (.fo z (.ar z n g) i (A1 l)) (.ar z n g):=
 ⟨rfl,fun X lv c cs hc h2 hr=>(UX hv hl).rep ((UA (g':=fun j=>bif beq j i then (A1 l).strip else g j) (fun j h=>by rw[GH h];rfl) (by rw[P7];rfl) hp).2 X lv c cs hc h2 hr)⟩
theorem Oy{z n k:Nat}{g:Nat->V}{l l':List V}{vk:V}(nY:i≠k)(hv:A1 l'=g i)(hl:l.map V.strip=l')(hp:((A1 l).prs a7&&(A1 l).mem)=true)(hm:(V.fo z (.ar z n g) k vk).mem=true):RLe (.fo z (.fo z (.ar z n g) k vk) i (A1 l)) (.fo z (.ar z n g) k vk):=
 ⟨hm,fun X lv c cs hc h2 hr=>by
  obtain⟨q1,⟨es,q2,q3⟩,q4⟩:=(Nd (g':=fun j=>bif beq j i then (A1 l).strip else g j) nY (fun j h=>by rw[GH h];rfl) (by rw[P7];rfl) hp hm).2 X lv c cs hc h2 hr
  exact⟨q1,⟨es,q2,(UX hv hl).rep q3⟩,q4⟩⟩
def VW(v v':V):Prop:=∀(X:Cx) (cs:List Value),rep X v [] 2 cs->rep X v' [] 2 cs
def VA(v v':V):Prop:=∀(X:Cx) (x:Value),repv X [] 16 v x->repv X [] 16 v' x
theorem VW.rfl{v:V}:VW v v:=fun _ _ h=>h
theorem VA.rfl{v:V}:VA v v:=fun _ _ h=>h
theorem VW.of_eq{v:V}(h:v=v'):VW v v':=h▸VW.rfl
theorem VA.of_eq{v:V}(h:v=v'):VA v v':=h▸VA.rfl
theorem VW.pz{v:V}(h:VW v v'):VW (.pz v) (.pz v'):=fun X cs ⟨b,o,es,q1,q2,q3,q4⟩=>⟨b,o,es,q1,h X es q2,q3,q4⟩
theorem VA.pz{v:V}(h:VW v v'):VA (.pz v) (.pz v'):=fun X x ⟨b,o,es,q1,q2,q3,q4⟩=>⟨b,o,es,q1,h X es q2,q3,q4⟩
theorem VW.uk{v:V}(h:v.one1=true):VW v (.uk 1):=fun _ _ hr=>FO h hr
def VWl:List V->List V->Prop
|[],[]=>True
|a::l,b::m=>VW a b/\VWl l m
|_,_=>False
theorem VWl.at:∀{l m:List V},VWl l m->l.length=m.length/\∀i,i<l.length->VW (l.getD i .un) (m.getD i .un)
|[],[],_=>⟨by simp,fun i h=>by simp at h⟩
|a::l,b::m,h=>by
  obtain⟨h1,h2⟩:=h.2.at
  refine⟨by simp[h1],fun i hi=>?_⟩
  cases i with
 |zero=>exact h.1
 |succ i=>exact h2 i (by simpa using hi)
theorem VW.st{l m:List V}(h:VWl l m):VW (A1 l) (A1 m):=fun X cs hr=>by
 obtain⟨h1,h2⟩:=h.at
 show rep X (.st m.length _) [] 2 cs
 rw[<-h1]
 exact d6 hr fun k cs hk hr=>h2 k hk X cs hr
def VAl:List V->List V->Prop
|[],[]=>True
|a::l,b::m=>VA a b/\VAl l m
|_,_=>False
theorem VAl.at:∀{l m:List V},VAl l m->l.length=m.length/\∀(i:Nat) v',m[i]? =some v'->∃v,l[i]? =some v/\VA v v'
|[],[],_=>⟨by simp,fun i v' h=>by simp at h⟩
|a::l,b::m,h=>by
  obtain⟨h1,h2⟩:=h.2.at
  refine⟨by simp[h1],fun i v' hi=>?_⟩
  cases i with
 |zero=>simp only[OW,F1]at hi;subst hi;exact⟨a,by simp,h.1⟩
 |succ i=>simp only[CP]at hi ⊢;exact h2 i v' hi
theorem SatM.weak{m:Bool}{f:FuncId}{ins ins':List V}(h:SatM P m f ins [] R)(hw:VAl ins' ins):SatM P m f ins' [] R:=fun X w vs D8 aQ hX H hm=>by
 obtain⟨h1,h2⟩:=hw.at
 refine h X w vs (by rw[D8,h1]) (fun i v' x hv hx=>?_) hX H hm;obtain⟨v,aM,ha⟩:=h2 i v' hv
 exact ha X x (aQ i v x aM hx)
theorem UY{u t:V}:(bif beq i i then u else t)=u:=by rw[P7];rfl
theorem UZ{z:Nat}{c:V}:(dR z c).one1=true:=by
 unfold dR
 split
 ·rename_i z' n g
  cases beq z z'<;>rfl
 ·cases beq z 1<;>rfl
 ·rename_i n g
  cases (beq z 1&&V.mem.all n fun k=>cO g n k k&&beq (g k).sz 1)<;>rfl
 rfl
theorem Oz{z n:Nat}{g:Nat->V}{v:V}(hi:i<n)(hm:v.mem=true):dR z (tP z i (.ar z n g) v)=.sl 0 z n fun k=>bif beq k i then v else g k:=by
 have h1:blt i n=true:=by rw[A8];exact hi
 simp only[tP,P7,h1,hm,Bool.and_self,cond_true,dR]
def Pa:V->Bool
|.vw _ _ _ _=>true
|_=>false
theorem gD(lv':List Nat)(h:Wk P X0 w0 Q ⟨cf.k,{ cf.s with lv:=lv' }⟩)(hs:(lv'.all fun t=>cf.s.lv.any fun q=>beq t q)=true:=by kernel_rfl):Wk P X0 w0 Q cf:=by
 have W4:∀t,t∈lv'->t∈cf.s.lv:=fun t ht=>by
  obtain⟨q,hq,he⟩:=nF.1 (Q8.1 hs t ht)
  rw[A5 he];exact hq
 refine⟨fun hQ=>?_⟩
 have I0:=h.run hQ
 show Run P X0 w0 Q ⟨cf.k,cf.s⟩
 exact tO (s':={ cf.s with lv:=lv' }) rfl (fun X τ w hF H=>by
  obtain⟨h1,h2⟩:=H.relv (lv':=lv') (B3 _) (fun t ht _=>W4 t ht) fun t ht=>H.lvc t (W4 t ht)
  exact⟨X,fun t=>(hF t).mono h1 (B3 _),h2,fun _ _ _ h=>h,fun _ _=>rfl⟩) I0
theorem gN(d z:Nat)(g g':Nat->V)(h:Wk P X0 w0 Q ⟨cf.k,⟨cP cf.s.σ d (.os (C2 cf.s cf.k) z),E0 cf.s.h (C2 cf.s cf.k) 0 (.ar z 0 g'),C2 cf.s cf.k::cf.s.lv,cf.s.c+64,cf.s.n⟩⟩)(e:(cf.s.σ d,cf.s.h 0 0,blt 0 z)=(.sl 1 z 0 g,.un,true):=by kernel_rfl):Wk P X0 w0 Q cf:=by
 refine⟨fun hQ=>?_⟩
 have I0:=h.run hQ
 show Run P X0 w0 Q ⟨cf.k,cf.s⟩
 simp only[G5,A8]at e
 obtain⟨e1,e2,e3⟩:=e
 generalize P0:C2 cf.s cf.k=nm at*
 have hc:C2 ⟨cP cf.s.σ d (.os nm z),E0 cf.s.h nm 0 (.ar z 0 g'),nm::cf.s.lv,cf.s.c+64,cf.s.n⟩ cf.k=nm+64:=by rw[<-P0];unfold C2;split<;>simp only[]<;>omega
 refine tO (by rfl) (fun X τ w hF H=>?_) I0
 rw[P0]at hF H
 rw[hc]
 have f2:repv X cf.s.lv nm (.sl 1 z 0 g) (ev cf.s.n τ (.tmp d)):=by have:=hF d;rw[e1]at this;exact this
 obtain⟨_,ao,cap,p1,p2,p3,p4,p5,p6⟩:=f2
 have p5:=p5 rfl
 subst p5
 have h2:=H.c2
 let bo:Nat×Nat:=match ao with|some ⟨b,o,_⟩=>(b,o)|none=>(0,0)
 obtain⟨B1,HW⟩:=H.regh (X':=X.nil nm bo.1 0) (h':=E0 cf.s.h nm 0 (.ar z 0 g')) (lv':=nm::cf.s.lv) (c':=nm+64) (r:=0) (nm:=nm) (B3 _) zO (fun b i=>.inl rfl) (fun r' j p h=>by
   simp only[Cx.nil]at h
   split at h
   ·right;assumption
   ·exact .inl h) (fun r' j p h=>by
   simp only[Cx.nil]
   rw[if_neg (fun e=>by have:=H.ρc _ _ _ h;omega)];exact h) (fun r' j D5=>.inl (gE _ _ fun e=>D5 e.1)) (by rw[gE _ _ fun e=>by omega];exact e2) (fun t ht=>by
   rcases K6.1 ht with rfl|ht
   ·exact⟨zO,zO,zO,fun h=>absurd h (Nat.lt_irrefl _)⟩
   ·have:=H.lvc t ht
    exact⟨zO,this.1,zO,fun _=>ht⟩) (fun b o N B1 hp=>by
   simp only[Cx.nil,and_self,if_true,F1,G5]at hp
   obtain⟨rfl,rfl,rfl⟩:=hp
   rw[j5]
   exact dN (v:=.ar z 0 g') (cs:=[]) rfl ⟨by simp,fun k hk=>by omega⟩ rfl (fun k x hk=>by simp at hk))
 refine⟨_,fun t=>?_,HW,fun _ _ _ h=>h,fun b i=>by unfold C7;rfl⟩
 show repv _ _ _ (cP cf.s.σ d (.os nm z) t) _
 unfold cP
 cases hb:beq t d
 ·exact(hF t).mono B1 zO
 have:=A5 hb
 subst this
 refine⟨zO,e3,bo.1,0,by simp[Cx.nil],?_,fun _ _=>⟨ao,p1⟩⟩
 refine⟨ao,0,p1,B3 _,p3,zO,fun e=>by omega,?_⟩
 rcases p6 with⟨h1,h2⟩|⟨b,o,h1,_⟩
 ·exact .inl ⟨.inl (h1.resolve_right (by decide)),rfl⟩
 subst h1
 exact .inr ⟨b,o,rfl,fun h=>by omega,fun _ i hi G8=>by omega⟩
theorem Pb(d:Nat)(v':V)(h':Nat->Nat->V)(hk:Wk P X0 w0 Q ⟨(nx P cf).a.k,({ (nx P cf).a.s with h:=h' }).put (some d) v'⟩)(e:((nx P cf).tag,beq (C2 (nx P cf).a.s (nx P cf).a.k) ((nx P cf).nm+64),(nx P cf).op.dst)=(9,true,some d))
  (x9:∀X τ w,FrR X (nx P cf).a.s.lv (nx P cf).nm (nx P cf).a.s.n (nx P cf).a.s.σ τ->Wd X0 X (nx P cf).a.s.h (nx P cf).a.s.lv (nx P cf).nm w0 w->
   ∃v w' X',(execOp (ev (nx P cf).a.s.n τ) (nx P cf).op).run P w=.ok (.value v) w'/\X.le X' (nx P cf).a.s.lv (nx P cf).a.s.lv (nx P cf).nm/\Wd X0 X' h' (nx P cf).a.s.lv ((nx P cf).nm+64) w0 w'/\repv X' (nx P cf).a.s.lv ((nx P cf).nm+64) v' v/\Yle (C7 X w) (C7 X' w')):Wk P X0 w0 Q cf:=by
 refine⟨fun hQ=>M7 hQ 1000 cf.k cf.s ?_⟩
 cases hn:nx P cf<;>rw[hn]at e x9 hk<;>simp only[Ev.tag,G5,reduceCtorEq,Nat.reduceEqDiff,false_and]at e
 rename_i o nm A
 rw[show go P 1000 cf.k cf.s=.ext o nm A from hn]
 intro X τ w hF H hd
 obtain⟨v,w',X',h1,h2,h3,h4,h5⟩:=x9 X τ w hF H
 refine .inl ⟨v,w',by rw[W7];exact h1,?_⟩;have hdd:o.dst=some d:=e.2.2
 have:=jH (s:=A.s) (hF.mono h2 (Nat.le_add_right nm 64)) h3 hd h4 A.s.c
 have P0:C2 A.s A.k=nm+64:=A5 e.2.1
 refine xK (mN h3 h2.fz fun _=>h5) ((hk.run hQ) _ _ _ ?_);have P2:C2 (({ A.s with h:=h' }).put (some d) v') A.k=C2 A.s A.k:=by
  unfold C2;split<;>rfl
 show AtY _ _ _ (C2 (({ A.s with h:=h' }).put (some d) v') A.k) _ _ _
 rw[P2,P0, <-hdd]
 exact this
theorem Pc{c v0 v1 v2:Value}(h0:v0.cells.toList=[v0])(h1:v1.cells.toList=[v1])(h2:v2.cells.toList=[v2]):Instr.fill (fun i=>some (i*1,1)) ((Array.range (3*1)).map (#[c][· % #[c].size]!)) [(0,v0),(1,v1),(2,v2)]=some #[v0,v1,v2]:=by
 have hA:(Array.range (3*1)).map (fun x=> #[c][x % #[c].size]!)= #[c,c,c]:=by
  apply U1
  simp[List.range_succ,Nat.mod_one]
 have s0:v0.cells.size=1:=by rw[<-t1,h0];rfl
 have s1:v1.cells.size=1:=by rw[<-t1,h1];rfl
 have s2:v2.cells.size=1:=by rw[<-t1,h2];rfl
 rw[hA,tA (off:=0) (size:=1) rfl s0 (by rw[s0];simp),h0,tA (off:=1) (size:=1) rfl s1 (by rw[s1];simp[ins]),h1,tA (off:=2) (size:=1) rfl s2 (by rw[s2];simp[ins]),h2]
 rfl
theorem ME{t:TypeId}{d:Nat}{x0 x1 x2:Operand}(l0 l1:List UInt8)(q0 q1:Nat)(vw:V)(h:Wk P X0 w0 Q ⟨(nx P cf).a.k,({ (nx P cf).a.s with h:=E0 (nx P cf).a.s.h (nx P cf).nm 0 (A1 [.bl q0 l0,.bl q1 l1,vw]) }).put (some d) (.os (nx P cf).nm 1)⟩)
  (e:((nx P cf).tag,beq (C2 (nx P cf).a.s (nx P cf).a.k) ((nx P cf).nm+64),(nx P cf).op.dst)=(9,true,some d):=by kernel_rfl)
  (eo:(nx P cf).op.op=.buildSlice t 3 #[(0,x0),(1,x1),(2,x2)]:=by kernel_rfl)(ev0:(av P (nx P cf).a.s.σ (D6 P t) x0,av P (nx P cf).a.s.σ (D6 P t) x1,av P (nx P cf).a.s.σ (D6 P t) x2,P9 P t 1,(zeroCells P (D6 P t)).map (·.length),Pa vw)=(.bl q0 l0,.bl q1 l1,vw,true,some 1,true):=by kernel_rfl):Wk P X0 w0 Q cf:=by
 simp only[G5]at ev0
 obtain⟨a0,a1,a2,hs,hz,hvw⟩:=ev0
 refine Pb d _ _ h e fun X τ w hF H=>?_
 obtain⟨C,hzC⟩:∃C,zeroCells P (D6 P t)=some C:=by
  cases hc:zeroCells P (D6 P t) with
 |none=>rw[hc]at hz;cases hz
 |some C=>exact⟨C,rfl⟩
 rw[hzC]at hz
 have hCl:C.length=1:=by injection hz
 have b0:=B5 (P:=P) H.c2 hF (D6 P t) x0
 have b1:=B5 (P:=P) H.c2 hF (D6 P t) x1
 have b2:=B5 (P:=P) H.c2 hF (D6 P t) x2
 rw[a0]at b0
 rw[a1]at b1
 rw[a2]at b2
 obtain⟨s0,n0,c0,e0⟩:∃s n c,ev (nx P cf).a.s.n τ x0=.slice s n c:=by obtain⟨s,c,h1,_⟩:=b0;exact⟨s,_,c,by simpa using h1⟩
 obtain⟨s1,n1,c1,e1⟩:∃s n c,ev (nx P cf).a.s.n τ x1=.slice s n c:=by obtain⟨s,c,h1,_⟩:=b1;exact⟨s,_,c,by simpa using h1⟩
 obtain⟨s2,n2,c2,e2⟩:∃s n c,ev (nx P cf).a.s.n τ x2=.slice s n c:=by
  cases vw<;>first|(cases hvw;done)|skip
  obtain⟨_,_,b,o,N,cap,_,h1,_⟩:=b2
  exact⟨_,_,cap,by simpa using h1⟩
 have b2':rep X vw (nx P cf).a.s.lv (nx P cf).nm [ev (nx P cf).a.s.n τ x2]:=by
  cases vw<;>first|(cases hvw;done)|exact b2
 have fQ:vw.mem=true:=by cases vw<;>first|(cases hvw;done)|rfl
 have hC:C=[C[0]'oM]:=by
  match C,hCl with
 |[c],_=>rfl
 have vQ:Instr.fill (fun i=>some (i*1,1)) ((Array.range (3*1)).map (C.toArray[· % C.toArray.size]!)) (W6 (nx P cf).a.s.n τ (#[(0,x0),(1,x1),(2,x2)]:Array (Nat×Operand)).toList)=some #[ev (nx P cf).a.s.n τ x0,ev (nx P cf).a.s.n τ x1,ev (nx P cf).a.s.n τ x2]:=by
  rw[hC]
  exact Pc (by rw[e0];rfl) (by rw[e1];rfl) (by rw[e2];rfl)
 have hr:=JN (P:=P) (w:=w) (Y3 hs).2.1 hzC (len:=3) (uW 0) (by decide) (#[(0,x0),(1,x1),(2,x2)].map fun(i,x)=>(i,ev (nx P cf).a.s.n τ x)) (by rw[show(#[(0,x0),(1,x1),(2,x2)].map fun(i,x)=>(i,ev (nx P cf).a.s.n τ x)).toList=W6 (nx P cf).a.s.n τ (#[(0,x0),(1,x1),(2,x2)]:Array (Nat×Operand)).toList by rw[sA,yY]];exact vQ)
 have aQ:rep X (A1 [.bl q0 l0,.bl q1 l1,vw]) (nx P cf).a.s.lv (nx P cf).nm [ev (nx P cf).a.s.n τ x0,ev (nx P cf).a.s.n τ x1,ev (nx P cf).a.s.n τ x2]:=⟨[_,_],[_],rfl,⟨[_],[_],rfl,⟨[],[_],rfl,rfl,b0⟩,b1⟩,b2'⟩
 have u7:(A1 [.bl q0 l0,.bl q1 l1,vw]).mem=true:=by show(((true&&true)&&true)&&vw.mem)=true;rw[fQ];rfl
 have H2:=H.own (B3 (nx P cf).nm) u7 aQ (D6 P t)
 refine⟨_,_,_,?_,H.own_le (B3 _),H2.up zO,⟨H.c2,uW 0,w.heap.size,3,LB ..,⟨some ⟨w.heap.size,0,none⟩,3,rfl,B3 _,by decide,zO,fun _=>rfl,.inr ⟨_,0,rfl,fun _=>⟨rfl,rfl⟩,fun _ i hi G8=>by omega⟩⟩,fun h=>by cases h⟩,H.own_y _ _ _⟩
 have:(nx P cf).op=⟨some d,.buildSlice t 3 #[(0,x0),(1,x1),(2,x2)],(nx P cf).op.type,(nx P cf).op.pos,(nx P cf).op.after,(nx P cf).op.guard⟩:=by rw[<-eo, <-show(nx P cf).op.dst=some d from by simp only[G5]at e;exact e.2.2]
 rw[this]
 simp only[execOp,D0,hr,F5]
 rfl
theorem Pd{z n:Nat}{g g':Nat->V}{v:V}(hs:VEn v.strip (g' i))(hg:∀j,j≠i->g' j=g j):VEq (.ar z n fun j=>bif beq j i then v.strip else g j) (.ar z n g'):=.an _ _ _ _ fun j _=>by
 cases e:beq j i
 ·rw[hg j fun h=>by rw[h,P7]at e;cases e];exact .rfl _
 have:=A5 e
 subst this;exact hs
theorem T7{z n:Nat}{g g':Nat->V}{v:V}(hs:VEn v.strip (g' i))(hg:∀j,j≠i->g' j=g j)(hp:(v.prs a7&&v.mem)=true):RLe (.fo z (.ar z n g) i v) (.ar z n g'):=
 ⟨rfl,fun X lv c cs hc h2 hr=>(Pd hs hg).rep ((UA (g':=fun j=>bif beq j i then v.strip else g j) (fun j h=>by rw[GH h];rfl) (by rw[P7];rfl) hp).2 X lv c cs hc h2 hr)⟩
theorem pU{m:Bool}{f:FuncId}{ins ins':List V}{lvi:List Nat}(h:SatM P m f ins lvi R)(hv:eqF ins' ins):SatM P m f ins' lvi R:=fun X w vs a b c d q=>h X w vs (a.trans hv.at.1) (fun i u x hi hx=>by
 obtain⟨hl,he⟩:=N0.1 hi
 have nQ:i<ins'.length:=hv.at.1▸hl
 have:=hv.at.2 i
 rw[j9,j9,hi,B6 nQ]at this
 exact this.repv (b i _ x (B6 nQ) hx)) c d q
def tT:Nat->List Value->List (Nat×Value)
|_,[]=>[]
|a,v::l=>(a,v)::tT (a+1) l
def GI(k:IntKind):Nat->List Int->List (Nat×V)
|_,[]=>[]
|a,x::l=>(a,.i k x)::GI k (a+1) l
theorem VB:∀(vs:List Value) (a:Nat) (C:List Value),(∀v∈vs,v.cells.toList=[v])->a+vs.length=C.length->Instr.fill (fun i=>some (i*1,1)) C.toArray (tT a vs)=some (C.take a++vs).toArray
|[],a,C,_,h=>by
  have h:a=C.length:=by simpa using h
  subst h
  simp[tT,Instr.fill]
|v::l,a,C,h1,h=>by
  have hv:=h1 v (X8 ..)
  have hs:v.cells.size=1:=by rw[<-t1,hv];rfl
  have hl:a+1<=C.length:=by simp only[I4]at h;omega
  have hins:ins C (a*1) [v]=C.take a++v::C.drop (a+1):=by simp[ins]
  simp only[tT]
  rw[tA (off:=a*1) (size:=1) rfl hs (by rw[hs];simpa using hl),hv]
  rw[show(C.toArray).toList=C from rfl,hins,VB l (a+1) _ (fun x hx=>h1 x (Q9 _ hx)) (by simp at h ⊢;omega)]
  congr 2
  have:(C.take a).length=a:=by simp;omega
  rw[List.take_append,this,W0 zO,show a+1-a=1 by omega]
  simp
section
variable {P:Program} {X0 X:Cx} {h:Nat->Nat->V} {lv:List Nat} {nm n:Nat} {σ:Fr} {τ:Nat->Value} {w0 w:World}
theorem VC{k:IntKind}{e:TypeId}(H:Wd X0 X h lv nm w0 w)(hF:FrR X lv nm n σ τ):∀(ps:List (Nat×Operand)) (xs:List Int) (a:Nat),ps.map (fun q=>(q.1,av P σ e q.2))=GI k a xs->W6 n τ ps=tT a (xs.map (Value.int k))/\∀x∈xs,k.wrap x=x
|[],[],a,_=>⟨rfl,fun _ h=>by cases h⟩
|[],x::xs,a,h=>by cases h
|q::ps,[],a,h=>by cases h
|(i,o)::ps,x::xs,a,h=>by
  simp only[U0,GI,qE,G5]at h
  obtain⟨⟨rfl,h1⟩,h2⟩:=h
  obtain⟨g1,g2⟩:=VC H hF ps xs (i+1) h2
  have hv:=B5 (P:=P) H.c2 hF e o
  rw[h1]at hv
  obtain⟨e1,e2⟩:=M0 hv
  refine⟨?_,fun y hy=>?_⟩
  ·simp only[W6,U0,tT];rw[e1];congr 1
  rcases K6.1 hy with rfl|hy
  ·exact e2
  exact g2 y hy
end
def MF:Op->Array (Nat×Operand)
|.build _ ps=>ps
|_=> #[]
def MG(t:TypeId):Op->Bool
|.build t' _=>beq t' t
|_=>false
theorem Pe{t:TypeId}{o:Op}(h:MG t o=true):o=.build t (MF o):=by
 cases o<;>simp only[MG,zB]at h
 rw[A5 h];rfl
theorem MH{t:TypeId}{d:Nat}(k:IntKind)(xs:List Int)(h:Wk P X0 w0 Q ⟨(nx P cf).a.k,(nx P cf).a.s.put (some d) (.ar 1 xs.length fun i=>.i k (xs.getD i 0))⟩)
  (e:((nx P cf).tag,beq (C2 (nx P cf).a.s (nx P cf).a.k) ((nx P cf).nm+64),(nx P cf).op.dst)=(9,true,some d):=by kernel_rfl)
  (eb:MG t (nx P cf).op.op=true:=by kernel_rfl)(ev0:((MF (nx P cf).op.op).toList.map (fun q=>(q.1,av P (nx P cf).a.s.σ (D6 P t) q.2)),V0 P t,(zeroCells P t).map (·.length))=(GI k 0 xs,some (xs.length,1),some xs.length):=by kernel_rfl):Wk P X0 w0 Q cf:=by
 have eo:=Pe eb
 simp only[G5]at e ev0
 obtain⟨e1,e2,e3⟩:=e
 obtain⟨a0,ha,hz⟩:=ev0
 refine GC (fun v'=>v'=.ar 1 xs.length fun i=>.i k (xs.getD i 0)) (by rw[e1,e2]) (fun X τ w hF H=>?_) fun v' e=>by rw[e3,e];exact h
 obtain⟨C,hzC⟩:∃C,zeroCells P t=some C:=by
  cases hc:zeroCells P t with
 |none=>rw[hc]at hz;cases hz
 |some C=>exact⟨C,rfl⟩
 rw[hzC]at hz
 have hCl:C.length=xs.length:=by injection hz
 obtain⟨g1,g2⟩:=VC H hF _ _ _ a0
 have vQ:=VB (xs.map (Value.int k)) 0 C (fun v hv=>by obtain⟨x,_,rfl⟩:=J3.1 hv;rfl) (by simp;omega)
 have vQ:Instr.fill (fun i=>some (i*1,1)) C.toArray (tT 0 (xs.map (Value.int k)))=some (xs.map (Value.int k)).toArray:=by simpa using vQ
 refine⟨.agg (xs.map (Value.int k)).toArray,w,X,.ar 1 xs.length fun i=>.i k (xs.getD i 0),?_,Cx.le.rfl' _ _ _,H.up zO,⟨_,rfl,by simp,fun j hj=>⟨?_,rfl⟩⟩,fun _ _ _ h=>h,rfl⟩
 ·have:(nx P cf).op=⟨some d,.build t (MF (nx P cf).op.op),(nx P cf).op.type,(nx P cf).op.pos,(nx P cf).op.after,(nx P cf).op.guard⟩:=by rw[<-eo, <-e3]
  rw[this]
  exact JR g1 (by rw[(Bld.arr ha hzC).eq];exact vQ)
 have hx:xs.getD j 0∈xs:=by rw[j9,B6 hj];exact dY hj
 refine⟨?_,g2 _ hx⟩
 apply V7
 intro m
 rw[r9]
 cases m with
 |zero=>
  simp only[uW,if_true,Q2,j8,s9]
  rw[Y5,B6 hj,j9,B6 hj]
  rfl
 |succ m=>simp
def xZ(r:Nat)(c:V):V->V
|.pr r' j p=>bif beq r' r&&beq j 0&&p.isEmpty then .pz c else .pr r' j p
|v=>v
section
variable {P:Program} {X0:Cx} {w0:World} {Q:Exit->Act->World->Prop}
theorem Pf{b:Nat}{c0:V}{bU:List Value}(hρ:X.ρ r 0=some (b,o,N))(h0:0<bU.length)(hc:rep X c0 [] 2 bU)(W5:FzAt X.G b o bU){v:V}(h:repv X lv c v x):repv X lv c (xZ r c0 v) x:=by
 cases v
 case pr r' j p=>
  simp only[xZ]
  cases hb:beq r' r&&beq j 0&&p.isEmpty
  ·exact h
  simp only[B0]at hb
  have e1:=A5 hb.1.1
  have e2:=A5 hb.1.2
  have e3:p=[]:=List.isEmpty_iff.1 hb.2
  subst e1 e2 e3
  obtain⟨_,b',o',N',q1,q2,_⟩:=h
  rw[hρ]at q1
  simp only[F1,G5]at q1
  obtain⟨rfl,rfl,rfl⟩:=q1
  exact⟨b,o,bU,q2,hc,h0,W5⟩
 all_goals exact h
theorem Pg{k:List K}{s:T}(r:Nat)(hp:((s.h r 0).prs a7&&(s.h r 0).mem&&blt 0 (s.h r 0).sz)=true)(h:Wk P X0 w0 Q ⟨k,{ s with σ:=fun t=>xZ r (s.h r 0).strip.nz (s.σ t),h:=E0 s.h r 0 (.ro (s.h r 0).strip) }⟩):Wk P X0 w0 Q ⟨k,s⟩:=by
 refine⟨fun hQ=>?_⟩
 have I0:=h.run hQ
 refine tO (by rfl) (fun X τ w hF H=>?_) I0;have hc:∀σ h,C2 { s with σ:=σ,h:=h} k=C2 s k:=fun v h=>by unfold C2;split<;>rfl
 rw[hc]
 simp only[B0]at hp
 obtain⟨⟨hpp,hm⟩,hs⟩:=hp
 cases hρ:X.ρ r 0 with
|none=>
  refine⟨X,fun t=>?_,{ H with rt:=fun r' j b' o' N' K2=>?_ },fun _ _ _ h=>h,fun _ _=>rfl⟩
  ·have:=hF t
   show repv X s.lv _ (xZ r _ (s.σ t)) _
   cases hv:s.σ t<;>rw[hv]at this
   case pr r' j p=>
    simp only[xZ]
    cases hb:beq r' r&&beq j 0&&p.isEmpty
    ·exact this
    simp only[B0]at hb
    have e1:=A5 hb.1.1
    have e2:=A5 hb.1.2
    subst e1 e2
    obtain⟨_,b',o',N',q1,q2,_⟩:=this
    rw[hρ]at q1;cases q1
   all_goals exact this
  have hR:=H.rt r' j b' o' N' K2
  have D5:¬ (r'=r/\j=0):=fun⟨e1,e2⟩=>by subst e1 e2;rw[hρ]at K2;cases K2
  show RtR _ _ _ _ r' j b' o' N' (E0 s.h r 0 _ r' j)
  rw[gE _ _ D5];exact hR
|some p=>
  obtain⟨b,o,N⟩:=p
  have hR:=H.rt r 0 b o N hρ
  have nS:∃cs,rep X (s.h r 0) s.lv (C2 s k) cs/\(s.h r 0).mem=true/\cs.length=N/\Q7 X w r 0 b o cs:=by
   cases hv:s.h r 0<;>rw[hv]at hR hm
   case ro v=>cases hm
   case un=>cases hm
   all_goals exact hR
  obtain⟨cs,q1,q2,q3,q4⟩:=nS
  obtain⟨f1,f2,f3⟩:=H.frz hρ q1 q2 hpp q3 q4
  have q5:rep X (s.h r 0).strip [] 2 cs:=sP hpp q1
  have q6:=q5.mono f1.nil (B3 2)
  have h0:0<cs.length:=by rw[X3 q2 q1];exact Nat.blt_eq.mp hs
  exact⟨X.frz w r 0 b o N,fun t=>Pf (X:=X.frz w r 0 b o N) hρ h0 (pC q6) f3 ((hF t).mono f1 (B3 _)),f2,f1.fz,H.frz_y q1 q2 q3 q4 rfl⟩
theorem gF(r:Nat)(h:Wk P X0 w0 Q ⟨cf.k,{ cf.s with σ:=fun t=>xZ r (cf.s.h r 0).strip.nz (cf.s.σ t),h:=E0 cf.s.h r 0 (.ro (cf.s.h r 0).strip) }⟩)(hp:((cf.s.h r 0).prs a7&&(cf.s.h r 0).mem&&blt 0 (cf.s.h r 0).sz)=true:=by kernel_rfl):Wk P X0 w0 Q cf:=
 Pg (k:=cf.k) (s:=cf.s) r hp h
end
def yA:V->V->List (Nat×Nat)
|.bl t _,.bl t' _|.sl t _ _ _,.sl t' _ _ _=>bif blt 1 t&&blt 1 t' then [(t,t')] else []
|.os r _,.os r' _|.pr r _ _,.pr r' _ _=>[(r,r')]
|.st n g,.st _ g'|.tu n g,.tu _ g'|.fn _ n g,.fn _ _ g'=>(List.range n).flatMap fun k=>yA (g k) (g' k)
|.fo _ b _ v,.fo _ b' _ v'=>yA b b'++yA v v'
|_,_=>[]
def GJ(κ:Nat)(h:Nat->Nat->V)(hl:List (Nat×V))(ren:List (Nat×Nat)):List (Nat×Nat):=ren++((hl.flatMap fun q=>yA (h (iK κ ren hl q.1) 0) q.2).filter fun q=>Nat.ble κ q.1)
def gP(κ:Nat)(s:T)(sl hl:List (Nat×V)):List (Nat×Nat):=GJ κ s.h hl (GJ κ s.h hl ((sl.flatMap fun q=>yA (s.σ q.1) q.2).filter fun q=>Nat.ble κ q.1))
section
variable {P:Program} {X0:Cx} {w0:World} {Q:Exit->Act->World->Prop} {cf:Cf} {κ:Nat}
theorem cA{sl hl:List (Nat×V)}{n:Nat}{R:Act->World->Prop}(hX:Ok0 X0 κ)(hR:∀a w,At X0 w0 (St sl hl lv c n) c a w->R a w)(hS:pO (fK κ (gP κ (nx P cf).s sl hl)) (gK κ (gP κ (nx P cf).s sl hl) hl) (nx P cf).s.σ sl:=by repeat' first|exact zT|refine⟨v0,?_⟩)
  (hH:cQ (fK κ (gP κ (nx P cf).s sl hl)) (gK κ (gP κ (nx P cf).s sl hl) hl) (iK κ (gP κ (nx P cf).s sl hl) hl) (nx P cf).s.h hl:=by repeat' first|exact zT|refine⟨v0,?_⟩)
  (e:nx P cf=.round R (nx P cf).s:=by kernel_rfl)(en:(nx P cf).s.n=n:=by kernel_rfl)(hk:cS κ (nx P cf).s (gP κ (nx P cf).s sl hl) sl hl lv c=true:=by kernel_rfl):Wk P X0 w0 Q cf:=cR hX _ hR hS hH e en hk
def pV(P:Program)(s:T)(rs:List ResultVar):V:=pM ((dQ P s rs).getD [])
def yB(κ:Nat)(s:T)(r out:V)(ho:List (Nat×V)):List (Nat×Nat):=GJ κ s.h ho (GJ κ s.h ho ((yA r out).filter fun q=>Nat.ble κ q.1))
theorem xW(hX:Ok0 X0 κ)(out:V){ho:List (Nat×V)}{A0:List Nat}(hR:R out ho A0)
  (hH:cQ (fK κ (yB κ (nx P cf).s (pV P (nx P cf).s fn.results.toList) out ho)) (gK κ (yB κ (nx P cf).s (pV P (nx P cf).s fn.results.toList) out ho) ho) (iK κ (yB κ (nx P cf).s (pV P (nx P cf).s fn.results.toList) out ho) ho) (nx P cf).s.h ho:=by repeat' first|exact zT|refine⟨v0,?_⟩)
  (hv:VEq ((pV P (nx P cf).s fn.results.toList).wk (fK κ (yB κ (nx P cf).s (pV P (nx P cf).s fn.results.toList) out ho)) (gK κ (yB κ (nx P cf).s (pV P (nx P cf).s fn.results.toList) out ho) ho) out).nz out:=by exact v0)
  (e:((nx P cf).ended,(dQ P (nx P cf).s fn.results.toList).isSome,cS κ (nx P cf).s (yB κ (nx P cf).s (pV P (nx P cf).s fn.results.toList) out ho) [(0,out)] ho A0 64)=(true,true,true):=by kernel_rfl):Wk P X0 w0 (Fin P fn X0 w0 R) cf:=by
 simp only[G5]at e
 obtain⟨e1,e2,e3⟩:=e
 obtain⟨l,hl⟩:=hU.1 e2
 unfold pV at hH hv e3
 rw[hl]at hH hv e3
 exact TT hX _ l out ho A0 (by rw[e1,hl,e3]) hv hH hR
theorem cM(hX:Ok0 X0 κ)(sl hl:ι->List (Nat×V))(I:ι->Prop)(μ:ι->Nat)(lv:List Nat)(c:Nat)(i0:ι)(hI:I i0)
  (h:∀i,I i->∀R:Act->World->Prop,(∀j,I j->μ j<μ i->∀a w,At X0 w0 (St (sl j) (hl j) lv c (nx P cf).a.s.n) c a w->R a w)->Wk P X0 w0 Q ⟨.c (nx P cf).code:: .lp R::(nx P cf).a.k,St (sl i) (hl i) lv c (nx P cf).a.s.n⟩)
  (hS:pO (fK κ (gP κ (nx P cf).a.s (sl i0) (hl i0))) (gK κ (gP κ (nx P cf).a.s (sl i0) (hl i0)) (hl i0)) (nx P cf).a.s.σ (sl i0):=by repeat' first|exact zT|refine⟨v0,?_⟩)(hH:cQ (fK κ (gP κ (nx P cf).a.s (sl i0) (hl i0))) (gK κ (gP κ (nx P cf).a.s (sl i0) (hl i0)) (hl i0)) (iK κ (gP κ (nx P cf).a.s (sl i0) (hl i0)) (hl i0)) (nx P cf).a.s.h (hl i0):=by repeat' first|exact zT|refine⟨v0,?_⟩)
  (e:(nx P cf).tag=4:=by kernel_rfl)(hk:cS κ (nx P cf).a.s (gP κ (nx P cf).a.s (sl i0) (hl i0)) (sl i0) (hl i0) lv c=true:=by kernel_rfl):Wk P X0 w0 Q cf:=cL hX sl hl I μ _ lv c i0 hI hS hH h e hk
end
theorem eE{p:Prop}(h:p:=by as_aux_lemma=>kernel_rfl):p:=h
theorem f2{p:Nat->Prop}(h0:p 0)(h1:p 1):∀i,i<2->p i:=fun i hi=>match i,hi with|0,_=>h0|1,_=>h1
theorem al(n:Nat)(h:∀i,i<n->Wk P X0 w0 Q ((nx P cf).alts.getD i ⟨[],pP⟩))(e:((nx P cf).tag,(nx P cf).alts.length)=(5,n):=by as_aux_lemma=>kernel_rfl):Wk P X0 w0 Q cf:=L4 n e h
abbrev By:=List UInt8
structure Obj where
 of:By
 data:By
structure Mani where
 root:By
 time:Int
 label:By
structure Snp where
 number:Int
 mani:Mani
 doom:Int
structure Doo where
 of:By
 doom:Int
structure TenR where
 name:By
 key:By
 quota:Int
 next:Int
 nb:Nat
 gb:Nat->Obj
 ns:Nat
 gs:Nat->Snp
 nd:Nat
 gd:Nat->Doo
structure Ent where
 seq:Int
 tick:Int
 serial:Int
 tenant:By
 «do»:Int
 status:Int
 of:By
structure StaR where
 root:By
 delay:Int
 serial:Int
 nr:Nat
 gr:Nat->Int
 nl:Nat
 gl:Nat->Ent
 head:By
structure OpT where
 «do»:Int
 tenant:By
 of:By
 number:Int
 «until»:Int
 rights:Int
 body:By
 token:By
 now:Int
 draw:By
instance:Inhabited Obj:=⟨⟨[],[]⟩⟩
instance:Inhabited Mani:=⟨⟨[],0,[]⟩⟩
instance:Inhabited Snp:=⟨⟨0,default,0⟩⟩
instance:Inhabited Doo:=⟨⟨[],0⟩⟩
instance:Inhabited Ent:=⟨⟨0,0,0,[],0,0,[]⟩⟩
def C3(b:Obj):V:=A1 [.bs 32 b.of,.bl 0 b.data]
def f7(m:Mani):V:=A1 [.bs 32 m.root,.i .i64 m.time,.s m.label]
def C8(x:Snp):V:=A1 [.i .i64 x.number,f7 x.mani,.i .i64 x.doom]
def D7(b:Doo):V:=A1 [.bs 32 b.of,.i .i64 b.doom]
def B2(t:TenR):V:=A1 [.s t.name,.bs 32 t.key,.i .i64 t.quota,.i .i64 t.next,.sl 0 33 t.nb fun i=>C3 (t.gb i),.sl 0 36 t.ns fun i=>C8 (t.gs i),.sl 0 33 t.nd fun i=>D7 (t.gd i)]
def H7(e:Ent):V:=A1 [.i .i64 e.seq,.i .i64 e.tick,.i .u64 e.serial,.s e.tenant,.i .i64 e.do,.i .i64 e.status,.bs 32 e.of]
def eU(n:Int):V:=.i .u64 n
def eI(n:By):V:=.bs 32 n
def J1(o:OpT):V:=A1 [.i .i64 o.do,.s o.tenant,.bs 32 o.of,.i .i64 o.number,.i .i64 o.until,.i .u8 o.rights,.bl 0 o.body,.bl 0 o.token,.i .i64 o.now,.bs 32 o.draw]
def I9(T:V)(s:StaR):V:=A1 [.bs 32 s.root,.i .i64 s.delay,.i .u64 s.serial,T,.sl 0 1 s.nr fun i=>eU (s.gr i),.sl 0 38 s.nl fun i=>H7 (s.gl i),.bs 32 s.head]
def mU(s:StaR)(o:OpT)(t:TenR)(n:Int):V:=A1 [.pz (I9 (.uk 1) s),J1 o,.pz (B2 t),.i .u64 n]
theorem vW{v:V}{a b:Int}(h: -9223372036854775808<=a/\a<9223372036854775808/\a=b)(e:v=.i .i64 (i64.wrap a):=by kernel_rfl):VEq v (.i .i64 b):=.of_eq (by rw[e,N4 ⟨h.1,h.2.1⟩,h.2.2])
theorem BL(l:By)(hl:l.length<1000000):Sat Tryz.prog 62 [.s l] [] (fun out A0=>A0=[]/\(∃p,out=.b p/\(p=true->l.length<=16))):=by
 refine cF Tryz.func62 fun X0 w0 hX=>?_
 refine cB ((l.length:Int)<1) (fun h1=>?_) fun h1=>?_
 ·exact xW hX (.b false) ⟨rfl,rfl,⟨_,rfl,by first|(intro h;cases h;done)|(intro _;omega)⟩⟩
 refine cB (16<(l.length:Int)) (fun h2=>?_) fun h2=>?_
 ·exact xW hX (.b false) ⟨rfl,rfl,⟨_,rfl,by first|(intro h;cases h;done)|(intro _;omega)⟩⟩
 refine cC ((0:Int)<=0/\0<(l.length:Int)) ?_
 refine cB (((l.getD 0 0).toNat:Int)<97) (fun h3=>?_) fun h3=>?_
 ·exact xW hX (.b false) ⟨rfl,rfl,⟨_,rfl,by first|(intro h;cases h;done)|(intro _;omega)⟩⟩
 refine cC ((0:Int)<=0/\0<(l.length:Int)) ?_
 refine cB (122<((l.getD 0 0).toNat:Int)) (fun h4=>?_) fun h4=>?_
 ·exact xW hX (.b false) ⟨rfl,rfl,⟨_,rfl,by first|(intro h;cases h;done)|(intro _;omega)⟩⟩
 refine cM hX (fun(k:Nat)=>[(0,.s l),(24,.i .i64 (l.length:Int)),(25,.i .i64 (k:Int))]) (fun(k:Nat)=>[]) (fun(k:Nat)=>k<=l.length) (fun(k:Nat)=>l.length-k) [] 1424 0 (by simp) ?_
 rintro k hI R hR
 refine cB ((k:Int)<(l.length:Int)) (fun h5=>?_) fun h5=>?_
 ·refine cC ((0:Int)<=(k:Int)/\(k:Int)<(l.length:Int)) ?_
  refine cB (97<=((l.getD k 0).toNat:Int)) (fun h6=>?_) fun h6=>?_
  ·refine cB (((l.getD k 0).toNat:Int)<=122) (fun h7=>?_) fun h7=>?_
   ·refine O6 (((l.getD k 0).toNat:Int)<=122) h7 ?_
    exact cA hX (hR (k+1) zO zO) (hS:=⟨v0,v0,vS,zT⟩)
   refine cB (48<=((l.getD k 0).toNat:Int)) (fun h8=>?_) fun h8=>?_
   ·refine cB (((l.getD k 0).toNat:Int)<=57) (fun h9=>?_) fun h9=>?_
    ·refine O6 (((l.getD k 0).toNat:Int)<=57) h9 ?_
     exact cA hX (hR (k+1) zO zO) (hS:=⟨v0,v0,vS,zT⟩)
    refine cB (((l.getD k 0).toNat:Int)=45) (fun J7=>?_) fun J7=>?_
    ·exact cA hX (hR (k+1) zO zO) (hS:=⟨v0,v0,vS,zT⟩)
    exact xW hX (.b false) ⟨rfl,rfl,⟨_,rfl,by first|(intro h;cases h;done)|(intro _;omega)⟩⟩
   refine cB (((l.getD k 0).toNat:Int)=45) (fun P5=>?_) fun P5=>?_
   ·exact cA hX (hR (k+1) zO zO) (hS:=⟨v0,v0,vS,zT⟩)
   exact xW hX (.b false) ⟨rfl,rfl,⟨_,rfl,by first|(intro h;cases h;done)|(intro _;omega)⟩⟩
  refine cB (48<=((l.getD k 0).toNat:Int)) (fun h12=>?_) fun h12=>?_
  ·refine cB (((l.getD k 0).toNat:Int)<=57) (fun v8=>?_) fun v8=>?_
   ·refine O6 (((l.getD k 0).toNat:Int)<=57) v8 ?_
    exact cA hX (hR (k+1) zO zO) (hS:=⟨v0,v0,vS,zT⟩)
   refine cB (((l.getD k 0).toNat:Int)=45) (fun bW=>?_) fun bW=>?_
   ·exact cA hX (hR (k+1) zO zO) (hS:=⟨v0,v0,vS,zT⟩)
   exact xW hX (.b false) ⟨rfl,rfl,⟨_,rfl,by first|(intro h;cases h;done)|(intro _;omega)⟩⟩
  refine cB (((l.getD k 0).toNat:Int)=45) (fun aR=>?_) fun aR=>?_
  ·exact cA hX (hR (k+1) zO zO) (hS:=⟨v0,v0,vS,zT⟩)
  exact xW hX (.b false) ⟨rfl,rfl,⟨_,rfl,by first|(intro h;cases h;done)|(intro _;omega)⟩⟩
 exact xW hX (.b true) ⟨rfl,rfl,⟨_,rfl,by first|(intro h;cases h;done)|(intro _;omega)⟩⟩
theorem BM(r:Int):Sat Tryz.prog 61 [.i .u8 r] [] (fun out A0=>A0=[]/\(∃p,out=.b p)):=by
 refine cF Tryz.func61 fun X0 w0 hX=>?_
 exact xW hX (.b (decide ((u8.wrap ((ofInt 8 r &&& ~~~ ofInt 8 15).toNat:Int))=0))) ⟨rfl,rfl,⟨_,rfl⟩⟩
theorem tU(l:By)(n:Int)(hl:l.length<100000000000)(hn:0<=n/\n<100000000000):Sat Tryz.prog 148 [.bl 0 l,.i .i64 n] [] (fun out A0=>out=.bl 2 l/\A0=[2]):=by
 refine cF Tryz.func148 fun X0 w0 hX=>?_
 refine cC ((0:Int)<=(i64.wrap ((l.length:Int)+n))/\(i64.wrap ((l.length:Int)+n))<=1000000000000) ?_ bw;refine cC ((([]:By).length+l.length)*1<=140737488355328) ?_ bd;exact xW hX (.bl 2 ([]++l)) ⟨rfl,rfl,rfl⟩
theorem mW(b:By)(v:Int)(n:Nat)(hb:b.length<1000000)(hn:n<1000):Sat Tryz.prog 99 [.bl 0 b,.i .u64 v,.i .i64 (n:Int)] [] (fun out A0=>∃l e,out=A2 [.bl 2 l,.i .i64 e]/\A0=[2]/\l.length<=b.length+8/\(e=0\/e=1\/e=2)):=by
 refine cF Tryz.func99 fun X0 w0 hX=>?_
 refine rS 1 fun hv=>?_
 replace hv:=wU hv
 refine cB ((n:Int)<1) (fun h1=>?_) fun h1=>?_
 ·exact xW hX (A2 [.bl 2 [],.i .i64 1]) ⟨rfl,_,_,rfl,rfl,by first|omega|(simp;done)|(simp;omega),by simp⟩
 refine cB (8<(n:Int)) (fun h2=>?_) fun h2=>?_
 ·exact xW hX (A2 [.bl 2 [],.i .i64 1]) ⟨rfl,_,_,rfl,rfl,by first|omega|(simp;done)|(simp;omega),by simp⟩
 refine cB ((n:Int)<8) (fun h3=>?_) fun h3=>?_
 ·refine cC ((0:Int)<=(u64.wrap (8*(u64.wrap (n:Int))))) ?_ (hp:=(T6 _).1)
  refine cB ((v.fdiv (2 ^ (min ((u64.wrap (8*(u64.wrap (n:Int))))).toNat 64)))≠0) (fun h4=>?_) fun h4=>?_
  ·exact xW hX (A2 [.bl 2 [],.i .i64 2]) ⟨rfl,_,_,rfl,rfl,by first|omega|(simp;done)|(simp;omega),by simp⟩
  refine cK [] (tU b (n:Int) zO zO) ?_
  rintro out A0 ⟨rfl,rfl⟩
  refine cM hX (fun(p:By×Nat)=>[(1,.i .u64 v),(8,.bl 2 p.1),(9,.i .i64 ((p.2:Int)-1))]) (fun(p:By×Nat)=>[]) (fun(p:By×Nat)=>p.1.length+p.2<=b.length+n/\n<=8) (fun(p:By×Nat)=>p.2) [2] 1744 (b,n) ⟨by simp,zO⟩ ?_ (hS:=⟨v0,v0,(vW (a:=((n:Int)-1)) zO),zT⟩);rintro⟨l,k⟩ hI R hR
  dsimp only at hI
  refine cB (0<=(k:Int)-1) (fun h5=>?_) fun h5=>?_
  ·refine cC ((0:Int)<=(u64.wrap (8*(u64.wrap ((k:Int)-1))))) ?_ (hp:=(T6 _).1)
   refine cC ((l.length+[UInt8.ofNat ((u8.wrap (v.fdiv (2 ^ (min ((u64.wrap (8*(u64.wrap ((k:Int)-1))))).toNat 64))))).toNat].length)*1<=140737488355328) ?_ bw;exact cA hX (hR ((l++[UInt8.ofNat ((u8.wrap (v.fdiv (2 ^ (min ((u64.wrap (8*(u64.wrap ((k:Int)-1))))).toNat 64))))).toNat]),k-1) ⟨by simp only[C9,x4];omega,hI.2⟩ (by dsimp only;omega)) (hS:=⟨v0,v0,(vW (a:=((k:Int)-1-1)) zO),zT⟩)
  exact xW hX (A2 [.bl 2 l,.i .i64 0]) ⟨rfl,_,_,rfl,rfl,by first|omega|(simp;done)|(simp;omega),by simp⟩
 refine cK [] (tU b (n:Int) zO zO) ?_
 rintro out A0 ⟨rfl,rfl⟩
 refine cM hX (fun(p:By×Nat)=>[(1,.i .u64 v),(8,.bl 2 p.1),(9,.i .i64 ((p.2:Int)-1))]) (fun(p:By×Nat)=>[]) (fun(p:By×Nat)=>p.1.length+p.2<=b.length+n/\n<=8) (fun(p:By×Nat)=>p.2) [2] 1744 (b,n) ⟨by simp,zO⟩ ?_ (hS:=⟨v0,v0,(vW (a:=((n:Int)-1)) zO),zT⟩);rintro⟨l,k⟩ hI R hR
 dsimp only at hI
 refine cB (0<=(k:Int)-1) (fun h6=>?_) fun h6=>?_
 ·refine cC ((0:Int)<=(u64.wrap (8*(u64.wrap ((k:Int)-1))))) ?_ (hp:=(T6 _).1)
  refine cC ((l.length+[UInt8.ofNat ((u8.wrap (v.fdiv (2 ^ (min ((u64.wrap (8*(u64.wrap ((k:Int)-1))))).toNat 64))))).toNat].length)*1<=140737488355328) ?_ bw;exact cA hX (hR ((l++[UInt8.ofNat ((u8.wrap (v.fdiv (2 ^ (min ((u64.wrap (8*(u64.wrap ((k:Int)-1))))).toNat 64))))).toNat]),k-1) ⟨by simp only[C9,x4];omega,hI.2⟩ (by dsimp only;omega)) (hS:=⟨v0,v0,(vW (a:=((k:Int)-1-1)) zO),zT⟩)
 exact xW hX (A2 [.bl 2 l,.i .i64 0]) ⟨rfl,_,_,rfl,rfl,by first|omega|(simp;done)|(simp;omega),by simp⟩
theorem VD{v:Int}(h:127<v)(hv:v*128 ^ j<18446744073709551616):j<=8/\0<=v / 128/\v / 128*128 ^ (j+1)<18446744073709551616:=by
 have hp:(0:Int)<128 ^ j:=Int.pow_pos zO
 refine⟨?_,zO,?_⟩
 ·by_cases hj:j<=8
  ·exact hj
  exfalso
  have h9:(128:Int) ^ 9<=128 ^ j:=by
   have:=Nat.pow_le_pow_right (n:=128) zO (show 9<=j by omega)
   exact_mod_cast this
  have h1:128*(128:Int) ^ j<=v*128 ^ j:=Int.mul_le_mul_of_nonneg_right zO zO
  have:(128:Int) ^ 9=9223372036854775808:=by decide
  omega
 have h1:v / 128*128<=v:=by omega
 have h2:v / 128*128*128 ^ j<=v*128 ^ j:=Int.mul_le_mul_of_nonneg_right h1 zO
 rw[Int.pow_succ]
 have:v / 128*(128 ^ j*128)=v / 128*128*128 ^ j:=by rw[Int.mul_comm (128 ^ j) 128,Int.mul_assoc]
 omega
theorem Ph{v:Int}(h:0<=v):v.fdiv (2 ^ (min (7:Int).toNat 64))=v / 128:=by
 rw[show(2:Int) ^ (min (7:Int).toNat 64)=128 by decide,II _ zO]
theorem Pi{x:V}{v b:Int}(h:0<=v)(hb:b=v / 128)(e:x=.i .u64 (v.fdiv (2 ^ (min (7:Int).toNat 64))):=by kernel_rfl):VEq x (.i .u64 b):=.of_eq (by rw[e,Ph h,hb])
theorem VE(b:By)(v:Int)(hb:b.length<10000000000):Sat Tryz.prog 127 [.bl 0 b,.i .u64 v] [] (fun out A0=>∃l,out=.bl 2 l/\A0=[2]/\l.length<=b.length+11):=by
 refine cF Tryz.func127 fun X0 w0 hX=>?_
 refine rS 1 fun hv=>?_
 replace hv:=wU hv
 refine cK [] (tU b 10 zO zO) ?_;rintro out A0 ⟨rfl,rfl⟩
 refine cM hX (fun(p:By×Int×Nat)=>[(1,.i .u64 p.2.1),(5,.bl 2 p.1)]) (fun(p:By×Int×Nat)=>[]) (fun(p:By×Int×Nat)=>p.1.length<=b.length+p.2.2/\0<=p.2.1/\p.2.1*128 ^ p.2.2<18446744073709551616/\p.2.2<=9) (fun(p:By×Int×Nat)=>p.2.1.toNat) [2] 272 (b,v,0) ⟨by simp,hv.1,by simpa using hv.2,by simp⟩ ?_;rintro⟨l,v,j⟩ hI R hR
 dsimp only at hI
 refine cB (127<v) (fun h1=>?_) fun h1=>?_
 ·have hc:=VD h1 hI.2.2.1
  have hj:=hc.1
  refine cC ((l.length+[UInt8.ofNat ((u8.wrap ((ofInt 8 (u8.wrap v)|||ofInt 8 128).toNat:Int))).toNat].length)*1<=140737488355328) ?_ bw;exact cA hX (hR ((l++[UInt8.ofNat ((u8.wrap ((ofInt 8 (u8.wrap v)|||ofInt 8 128).toNat:Int))).toNat]),v / 128,j+1) ⟨by simp only[C9,x4];omega,hc.2.1,hc.2.2,by dsimp only;omega⟩ (by dsimp only;omega)) (hS:=⟨(Pi (v:=v) zO rfl),v0,zT⟩)
 refine cC ((l.length+[UInt8.ofNat ((u8.wrap v)).toNat].length)*1<=140737488355328) ?_ bw
 exact xW hX (.bl 2 (l++[UInt8.ofNat ((u8.wrap v)).toNat])) ⟨rfl,_,rfl,rfl,by simp only[C9,x4];omega⟩
theorem VF(b:By)(a n:Int)(hb:b.length<1000000)(ha:0<=a/\a<1000000)(hn:0<=n/\n<1000):Sat Tryz.prog 151 [.bl 0 b,.i .i64 a,.i .i64 n] [] (fun out A0=>A0=[]/\(∃x e,out=A2 [.i .u64 x,.i .i64 e]/\0<=x/\x<18446744073709551616/\(e=0\/e=1\/e=3)/\(e=0->a+n<=(b.length:Int)))):=by
 refine cF Tryz.func151 fun X0 w0 hX=>?_
 refine cB (n<1) (fun h1=>?_) fun h1=>?_
 ·exact xW hX (A2 [.i .u64 0,.i .i64 1]) ⟨rfl,rfl,⟨_,_,rfl,zO,zO,by simp,fun he=>by first|(exact absurd he (by decide))|(simp[IntKind.wrap,IntKind.bits,IntKind.signed]at *;omega)|omega⟩⟩
 refine cB (8<n) (fun h2=>?_) fun h2=>?_
 ·exact xW hX (A2 [.i .u64 0,.i .i64 1]) ⟨rfl,rfl,⟨_,_,rfl,zO,zO,by simp,fun he=>by first|(exact absurd he (by decide))|(simp[IntKind.wrap,IntKind.bits,IntKind.signed]at *;omega)|omega⟩⟩
 refine cB (a<0) (fun h3=>?_) fun h3=>?_
 ·exact xW hX (A2 [.i .u64 0,.i .i64 1]) ⟨rfl,rfl,⟨_,_,rfl,zO,zO,by simp,fun he=>by first|(exact absurd he (by decide))|(simp[IntKind.wrap,IntKind.bits,IntKind.signed]at *;omega)|omega⟩⟩
 refine cB ((i64.wrap ((b.length:Int)-n))<a) (fun h4=>?_) fun h4=>?_
 ·exact xW hX (A2 [.i .u64 0,.i .i64 3]) ⟨rfl,rfl,⟨_,_,rfl,zO,zO,by simp,fun he=>by first|(exact absurd he (by decide))|(simp[IntKind.wrap,IntKind.bits,IntKind.signed]at *;omega)|omega⟩⟩
 refine cC ((0:Int)<=a/\a<=(i64.wrap (a+n))/\(i64.wrap (a+n))<=(b.length:Int)) ?_ bw
 refine cM hX (fun(p:Nat×Int)=>[(8,.i .u64 p.2),(34,.bl 0 ((b.drop ((a).toNat)).take (((i64.wrap (a+n))).toNat-(a).toNat))),(35,.i .i64 (((b.drop ((a).toNat)).take (((i64.wrap (a+n))).toNat-(a).toNat)).length:Int)),(36,.i .i64 (p.1:Int))]) (fun(p:Nat×Int)=>[]) (fun(p:Nat×Int)=>p.1<=((b.drop ((a).toNat)).take (((i64.wrap (a+n))).toNat-(a).toNat)).length/\0<=p.2/\p.2<18446744073709551616) (fun(p:Nat×Int)=>((b.drop ((a).toNat)).take (((i64.wrap (a+n))).toNat-(a).toNat)).length-p.1) [] 1872 (0,0) ⟨by simp,by simp,by simp⟩ ?_;rintro⟨k,x⟩ hI R hR
 dsimp only at hI
 refine cB ((k:Int)<(((b.drop ((a).toNat)).take (((i64.wrap (a+n))).toNat-(a).toNat)).length:Int)) (fun h5=>?_) fun h5=>?_
 ·refine cC ((0:Int)<=(k:Int)/\(k:Int)<(((b.drop ((a).toNat)).take (((i64.wrap (a+n))).toNat-(a).toNat)).length:Int)) ?_ bw
  exact cA hX (hR (k+1,(u64.wrap ((ofInt 64 (u64.wrap (x*2 ^ (min (8:Int).toNat 64)))|||ofInt 64 (u64.wrap ((((b.drop ((a).toNat)).take (((i64.wrap (a+n))).toNat-(a).toNat)).getD k 0).toNat:Int))).toNat:Int))) ⟨by dsimp only;omega,T6 _⟩ (by dsimp only;omega)) (hS:=⟨v0,v0,v0,(vS (by simp only[F6,K5]at hI;omega)),zT⟩)
 exact xW hX (A2 [.i .u64 x,.i .i64 0]) ⟨rfl,rfl,⟨_,_,rfl,zO,zO,by simp,fun he=>by first|(exact absurd he (by decide))|(simp[IntKind.wrap,IntKind.bits,IntKind.signed]at *;omega)|omega⟩⟩
theorem tV(b s:By)(hb:b.length<9000000000)(hs:s.length<2000000):Sat Tryz.prog 101 [.bl 0 b,.bl 0 s] [] (fun out A0=>∃l e,out=A2 [.bl 2 l,.i .i64 e]/\A0=[2]/\l.length<=b.length+s.length+11/\(e=0\/e=2)):=by
 refine cF Tryz.func101 fun X0 w0 hX=>?_
 refine cB (65536<(s.length:Int)) (fun h1=>?_) fun h1=>?_
 ·exact xW hX (A2 [.bl 2 [],.i .i64 2]) ⟨rfl,_,_,rfl,rfl,by first|omega|(simp;done)|(simp;omega),by simp⟩
 refine cK [] (VE b (u64.wrap (s.length:Int)) bd) ?_
 rintro out A0 ⟨l0,rfl,rfl,aP⟩
 refine cC ((l0.length+s.length)*1<=140737488355328) ?_;exact xW hX (A2 [.bl 2 (l0++s),.i .i64 0]) ⟨rfl,_,_,rfl,rfl,by first|omega|(simp;done)|(simp;omega),by simp⟩
theorem MI(b:By)(hb:b.length<1000000):Sat Tryz.prog 182 [.bl 0 b] [] (fun out A0=>A0=[]/\(∃v a e,out=A2 [.i .u64 v,.i .i64 a,.i .i64 e]/\(0<=v/\v<18446744073709551616)/\(0<=a/\a<=b.length)/\(e=0\/e=3\/e=4))):=by
 refine cF Tryz.func182 fun X0 w0 hX=>?_
 refine cM hX (fun(p:Nat×Int)=>[(5,.i .u64 p.2),(8,.bl 0 b),(9,.i .i64 (b.length:Int)),(10,.i .i64 (p.1:Int))]) (fun(p:Nat×Int)=>[]) (fun(p:Nat×Int)=>p.1<=b.length/\0<=p.2/\p.2<18446744073709551616) (fun(p:Nat×Int)=>b.length-p.1) [] 464 (0,0) ⟨by simp,by simp,by simp⟩ ?_;rintro⟨k,x⟩ hI R hR
 dsimp only at hI
 refine cB ((k:Int)<(b.length:Int)) (fun h1=>?_) fun h1=>?_
 ·refine cC ((0:Int)<=(k:Int)/\(k:Int)<(b.length:Int)) ?_
  refine cB ((k:Int)=9) (fun h2=>?_) fun h2=>?_
  ·refine cB (1<((b.getD k 0).toNat:Int)) (fun h3=>?_) fun h3=>?_
   ·refine O6 (1<((b.getD k 0).toNat:Int)) h3 ?_
    exact xW hX (A2 [.i .u64 0,.i .i64 0,.i .i64 4]) ⟨rfl,rfl,⟨_,_,_,rfl,bw,bw,by simp⟩⟩
   refine cB (((b.getD k 0).toNat:Int)=0) (fun h4=>?_) fun h4=>?_
   ·refine cB (0<(k:Int)) (fun h5=>?_) fun h5=>?_
    ·exact xW hX (A2 [.i .u64 0,.i .i64 0,.i .i64 4]) ⟨rfl,rfl,⟨_,_,_,rfl,bw,bw,by simp⟩⟩
    refine cC ((0:Int)<=(u64.wrap (7*(u64.wrap (k:Int))))) ?_ (hp:=(T6 _).1)
    refine cB (((b.getD k 0).toNat:Int)<128) (fun h6=>?_) fun h6=>?_
    ·exact xW hX (A2 [.i .u64 (u64.wrap ((ofInt 64 x|||ofInt 64 (u64.wrap ((u64.wrap (u8.wrap ((ofInt 8 ((b.getD k 0).toNat:Int)&&&ofInt 8 127).toNat:Int)))*2 ^ (min ((u64.wrap (7*(u64.wrap (k:Int))))).toNat 64)))).toNat:Int)),.i .i64 (i64.wrap ((k:Int)+1)),.i .i64 0]) ⟨rfl,rfl,⟨_,_,_,rfl,bw,bw,by simp⟩⟩
    exact cA hX (hR (k+1,(u64.wrap ((ofInt 64 x|||ofInt 64 (u64.wrap ((u64.wrap (u8.wrap ((ofInt 8 ((b.getD k 0).toNat:Int)&&&ofInt 8 127).toNat:Int)))*2 ^ (min ((u64.wrap (7*(u64.wrap (k:Int))))).toNat 64)))).toNat:Int))) ⟨by dsimp only;omega,T6 _⟩ (by dsimp only;omega)) (hS:=⟨v0,v0,v0,(vS zO),zT⟩)
   refine cC ((0:Int)<=(u64.wrap (7*(u64.wrap (k:Int))))) ?_ (hp:=(T6 _).1)
   refine cB (((b.getD k 0).toNat:Int)<128) (fun h7=>?_) fun h7=>?_
   ·exact xW hX (A2 [.i .u64 (u64.wrap ((ofInt 64 x|||ofInt 64 (u64.wrap ((u64.wrap (u8.wrap ((ofInt 8 ((b.getD k 0).toNat:Int)&&&ofInt 8 127).toNat:Int)))*2 ^ (min ((u64.wrap (7*(u64.wrap (k:Int))))).toNat 64)))).toNat:Int)),.i .i64 (i64.wrap ((k:Int)+1)),.i .i64 0]) ⟨rfl,rfl,⟨_,_,_,rfl,bw,bw,by simp⟩⟩
   exact cA hX (hR (k+1,(u64.wrap ((ofInt 64 x|||ofInt 64 (u64.wrap ((u64.wrap (u8.wrap ((ofInt 8 ((b.getD k 0).toNat:Int)&&&ofInt 8 127).toNat:Int)))*2 ^ (min ((u64.wrap (7*(u64.wrap (k:Int))))).toNat 64)))).toNat:Int))) ⟨by dsimp only;omega,T6 _⟩ (by dsimp only;omega)) (hS:=⟨v0,v0,v0,(vS zO),zT⟩)
  refine cB (((b.getD k 0).toNat:Int)=0) (fun h8=>?_) fun h8=>?_
  ·refine cB (0<(k:Int)) (fun h9=>?_) fun h9=>?_
   ·exact xW hX (A2 [.i .u64 0,.i .i64 0,.i .i64 4]) ⟨rfl,rfl,⟨_,_,_,rfl,bw,bw,by simp⟩⟩
   refine cC ((0:Int)<=(u64.wrap (7*(u64.wrap (k:Int))))) ?_ (hp:=(T6 _).1)
   refine cB (((b.getD k 0).toNat:Int)<128) (fun J7=>?_) fun J7=>?_
   ·exact xW hX (A2 [.i .u64 (u64.wrap ((ofInt 64 x|||ofInt 64 (u64.wrap ((u64.wrap (u8.wrap ((ofInt 8 ((b.getD k 0).toNat:Int)&&&ofInt 8 127).toNat:Int)))*2 ^ (min ((u64.wrap (7*(u64.wrap (k:Int))))).toNat 64)))).toNat:Int)),.i .i64 (i64.wrap ((k:Int)+1)),.i .i64 0]) ⟨rfl,rfl,⟨_,_,_,rfl,bw,bw,by simp⟩⟩
   exact cA hX (hR (k+1,(u64.wrap ((ofInt 64 x|||ofInt 64 (u64.wrap ((u64.wrap (u8.wrap ((ofInt 8 ((b.getD k 0).toNat:Int)&&&ofInt 8 127).toNat:Int)))*2 ^ (min ((u64.wrap (7*(u64.wrap (k:Int))))).toNat 64)))).toNat:Int))) ⟨by dsimp only;omega,T6 _⟩ (by dsimp only;omega)) (hS:=⟨v0,v0,v0,(vS zO),zT⟩)
  refine cC ((0:Int)<=(u64.wrap (7*(u64.wrap (k:Int))))) ?_ (hp:=(T6 _).1)
  refine cB (((b.getD k 0).toNat:Int)<128) (fun P5=>?_) fun P5=>?_
  ·exact xW hX (A2 [.i .u64 (u64.wrap ((ofInt 64 x|||ofInt 64 (u64.wrap ((u64.wrap (u8.wrap ((ofInt 8 ((b.getD k 0).toNat:Int)&&&ofInt 8 127).toNat:Int)))*2 ^ (min ((u64.wrap (7*(u64.wrap (k:Int))))).toNat 64)))).toNat:Int)),.i .i64 (i64.wrap ((k:Int)+1)),.i .i64 0]) ⟨rfl,rfl,⟨_,_,_,rfl,bw,bw,by simp⟩⟩
  exact cA hX (hR (k+1,(u64.wrap ((ofInt 64 x|||ofInt 64 (u64.wrap ((u64.wrap (u8.wrap ((ofInt 8 ((b.getD k 0).toNat:Int)&&&ofInt 8 127).toNat:Int)))*2 ^ (min ((u64.wrap (7*(u64.wrap (k:Int))))).toNat 64)))).toNat:Int))) ⟨by dsimp only;omega,T6 _⟩ (by dsimp only;omega)) (hS:=⟨v0,v0,v0,(vS zO),zT⟩)
 exact xW hX (A2 [.i .u64 0,.i .i64 0,.i .i64 3]) ⟨rfl,rfl,⟨_,_,_,rfl,bw,bw,by simp⟩⟩
theorem MJ(b:By)(hb:b.length<1000000):Sat Tryz.prog 152 [.bl 0 b] [] (fun out A0=>∃l a e,out=A2 [.bl 2 l,.i .i64 a,.i .i64 e]/\A0=[2]/\(0<=a/\a<=b.length)/\l.length<=b.length):=by
 refine cF Tryz.func152 fun X0 w0 hX=>?_
 refine cK [] (MI b bd) ?_;rintro out A0 ⟨rfl,⟨l5,Q4,bY,rfl,rE⟩⟩
 refine cB (bY≠0) (fun h1=>?_) fun h1=>?_
 ·exact xW hX (A2 [.bl 2 [],.i .i64 0,.i .i64 bY]) ⟨rfl,_,_,_,rfl,rfl,bw,by first|(simp;done)|(simp only[F6,K5];omega)⟩
 refine cB (65536<l5) (fun h2=>?_) fun h2=>?_
 ·exact xW hX (A2 [.bl 2 [],.i .i64 0,.i .i64 2]) ⟨rfl,_,_,_,rfl,rfl,bw,by first|(simp;done)|(simp only[F6,K5];omega)⟩
 refine cB ((u64.wrap (i64.wrap ((b.length:Int)-Q4)))<l5) (fun h3=>?_) fun h3=>?_
 ·exact xW hX (A2 [.bl 2 [],.i .i64 0,.i .i64 3]) ⟨rfl,_,_,_,rfl,rfl,bw,by first|(simp;done)|(simp only[F6,K5];omega)⟩
 refine cC ((0:Int)<=Q4/\Q4<=(i64.wrap (Q4+(i64.wrap l5)))/\(i64.wrap (Q4+(i64.wrap l5)))<=(b.length:Int)) ?_ bw
 refine cK [] (tU ((b.drop ((Q4).toNat)).take (((i64.wrap (Q4+(i64.wrap l5)))).toNat-(Q4).toNat)) 0 bd zO) ?_;rintro out A0 ⟨rfl,rfl⟩
 exact xW hX (A2 [.bl 2 ((b.drop ((Q4).toNat)).take (((i64.wrap (Q4+(i64.wrap l5)))).toNat-(Q4).toNat)),.i .i64 (i64.wrap (Q4+(i64.wrap l5))),.i .i64 0]) ⟨rfl,_,_,_,rfl,rfl,bw,by first|(simp;done)|(simp only[F6,K5];omega)⟩
section
theorem VG(z:Value)(vs:List Value)(len:Nat)(h1:∀v∈vs,v.oneCell'=true)(hl:vs.length=len):Instr.fill (fun i=>some (i*1,1)) ((Array.range (len*1)).map (([z].toArray)[· % ([z].toArray).size]!)) (en 0 vs)=some vs.toArray:=by
 have:=PM (zs:=((Array.range (len*1)).map (([z].toArray)[· % ([z].toArray).size]!)).toList) vs (by rw[nC,Q8];exact h1) (by simp[hl])
 rwa [Array.toArray_toList]at this
def VH:HS:=I2 HS.init [97,98,99]
def Pj:List UInt8:=sO VH
attribute [local irreducible] VH Pj sO I2
end
section
variable {P:Program} {Q:Exit->Act->World->Prop} {n:Nat} {σ:Nat->Value} {w:World} {K:Act->World->Prop}
 {ty:TypeId} {pos:String} {aft:Array Edge} {g:Option (Nat×Bool)} {d:Nat} {t yt:TypeId} {x y:Operand}
theorem Pk{a b:Int}(v:Bool)(h:decide (a<b)=v):(binOp .lss t (.int k a) (.int k b)).run P w=.ok (.bool v) w:=by rw[<-h];exact y8
theorem Pl{a b:Int}(v:Bool)(h:decide (b<a)=v):(binOp .gtr t (.int k a) (.int k b)).run P w=.ok (.bool v) w:=by rw[<-h];exact zM
theorem Pn{a b:Int}(v:Bool)(h:decide (a≠b)=v):(binOp .neq t (.int k a) (.int k b)).run P w=.ok (.bool v) w:=by rw[<-h];exact DD
end
theorem Po{p:α->Prop}{a:α}(ha:p a):∀x∈[a],p x:=by
 intro x hx
 rw[O9]at hx
 rw[hx];exact ha
theorem Pp{p:α->Prop}{a b:α}(ha:p a)(hb:p b):∀x∈[a,b],p x:=by
 intro x hx
 simp only[K6,List.not_mem_nil,or_false]at hx
 rcases hx with h|h<;>rw[h]<;>assumption
theorem Hp.nilOwn(H:Hp w0 w S L)(T:TypeId)(sz:Nat):Hp w0 w S (.own none 0 0 [] T sz::L):=
 ⟨H.os,H.tape,H.output,H.size,H.frame,fun c hc=>by
  rcases K6.1 hc with rfl|h
  ·exact⟨rfl,rfl,rfl⟩
  ·exact H.has c h,fun c hc b hk=>by
  rcases K6.1 hc with rfl|h
  ·cases hk
  exact H.fresh c h b hk,List.pairwise_cons.2 ⟨fun _ _ _ h=>(by cases h),H.nd⟩⟩
section
variable {P:Program} {Q:Exit->Act->World->Prop} {n:Nat} {σ:Nat->Value} {w w0:World} {K:Act->World->Prop}
 {ty:TypeId} {pos:String} {aft:Array Edge} {g:Option (Nat×Bool)} {d:Nat} {t yt:TypeId} {x y z:Operand} {S:List Nat} {L:List Ch}
theorem Sl.ok.addr{s:Sl}(h:s.ok w)(hp:0<s.len):∃b o,s.a=some ⟨b,o,none⟩:=by
 rcases h.rd with h'|⟨b,o,C,T,fr,ha,hb,hc⟩
 ·have:=h.ln
  rw[List.map_eq_nil_iff.1 h']at this
  simp at this;omega
 exact⟨b,o,ha⟩
theorem Sl.get(s:List UInt8)(k:Nat)(h:k<s.length):(s.map V8)[k]? =some (V8 (s.getD k 0)):=by
 simp[j9,h]
theorem RdS.addr{a:Option Addr}(h:RdS w a vs)(hp:0<vs.length):∃b o,a=some ⟨b,o,none⟩:=by
 rcases h with rfl|⟨b,o,C,T,fr,ha,hb,hc⟩
 ·simp at hp
 exact⟨b,o,ha⟩
theorem Pq{a:Option Addr}{b k:Nat}{ps:List Sl}{p:Sl}(hr:RdS w a (ps.map Sl.v))(ha:a=some ⟨b,o,none⟩)(hx:ev n σ x=.pointer (some ⟨b,o+k*1,none⟩))(ht:O5 P t=true)(hk:ps[k]? =some p):
  (execOp (ev n σ) ⟨some d,.load t x,ty,pos,aft,g⟩).run P w=.ok (.value p.v) w:=
 wO (i:=k*1) hr ha hx ht (by simp[hk])
theorem kU{a:Option Addr}{b sz:Nat}{kk:IntKind}{i:Int}(k:Nat)(hx:ev n σ x=.slice a len cap)(hy:ev n σ y=.int kk i)(ha:Z9 P t=some sz)(hb:a=some ⟨b,o,none⟩)(hi:i=(k:Int))(h1:k<len):
  (execOp (ev n σ) ⟨some d,.indexAddr t x y,ty,pos,aft,g⟩).run P w=.ok (.value (.pointer (some ⟨b,o+k*sz,none⟩))) w:=by
 subst hi
 exact DS hx hy ha hb zO zO
theorem GK{s:Sl}{b k:Nat}(hs:s.ok w)(ha:s.a=some ⟨b,o,none⟩)(hx:ev n σ x=.pointer (some ⟨b,o+k*1,none⟩))(ht:O5 P t=true)(hk:k<s.len):
  (execOp (ev n σ) ⟨some d,.load t x,ty,pos,aft,g⟩).run P w=.ok (.value (V8 (s.l.getD k 0))) w:=
 wO (i:=k*1) hs.rd ha hx ht (by rw[j8];exact Sl.get _ _ (by rw[hs.ln];exact hk))
theorem VJ{b k:Nat}{T:TypeId}(H:Hp w0 w S L)(hi:L[i]? =some (.blk b C T))(hx:ev n σ x=.pointer (some ⟨b,0,none⟩))(ht:T3 P t=some k)(hk:C.length=k):
  (execOp (ev n σ) ⟨some d,.load t x,ty,pos,aft,g⟩).run P w=.ok (.value (.agg C.toArray)) w:=by
 have h:=JP (P:=P) (t:=t) (d:=d) (ty:=ty) (pos:=pos) (aft:=aft) (g:=g) H hi hx ht zO
 rw[h,qC,W0 (Nat.le_of_eq hk)]
theorem tW{b k:Nat}{l:List UInt8}{T:TypeId}(H:Hp w0 w S L)(hi:L[i]? =some (.blk b (l.map V8) T))(hx:ev n σ x=.pointer (some ⟨b,0,none⟩))(ht:T3 P t=some k)(hk:l.length=k):
  (execOp (ev n σ) ⟨some d,.load t x,ty,pos,aft,g⟩).run P w=.ok (.value (.agg (l.map V8).toArray)) w:=
 VJ H hi hx ht (by rw[J4,hk])
theorem mX{b k:Nat}{l l':List UInt8}{T:TypeId}(H:Hp w0 w S L)(hi:L[i]? =some (.blk b (l.map V8) T))(hx:ev n σ x=.pointer (some ⟨b,0,none⟩))(hy:ev n σ y=.agg (l'.map V8).toArray)
  (hs:K0 P t=some k)(h1:l.length=k)(h2:l'.length=k)
  (h:∀w',Hp w0 w' S (L.set i (.blk b (l'.map V8) T))->K (mk n σ) w'):Oper.wp P ⟨none,.store t x y,ty,pos,aft,g⟩ (mk n σ) w K Q:=
 iV H hi hx hy (by rw[hs,bL,J4,h2]) (by rw[nC];simp[Value.oneCell']) (by rw[bL,J4,h2,J4,h1]) fun w' H'=>h w' H'
theorem VK{R:Ending->World->Prop}{tt:Tmp}{rt:TypeId}{b k:Nat}{l:List UInt8}{T:TypeId}(hres:fn.results= #[.cell tt rt])(H:Hp w0 w S L)(hi:L[i]? =some (.blk b (l.map V8) T))(hv:ev n σ (.tmp tt)=.pointer (some ⟨b,0,none⟩))(hr:T3 P rt=some k)(hk:l.length=k)
  (hR:R (.returned (.agg (l.map V8).toArray)) w):bodyPost P fn R .ret (mk n σ) w:=
 zV hres H hi hv hr (by rw[J4,hk]) hR
theorem Pr{v:Value}(hx:ev n σ x=v):(execOp (ev n σ) ⟨some d,.assign x,ty,pos,aft,g⟩).run P w=.ok (.value v) w:=by rw[<-hx];exact eM
theorem Ps{F2:Array (Nat×Operand)}{zs:Array Value}{places:Nat->Option (Nat×Nat)}{cells:Array Value}(hB:Bld P t zs places)
  (bO:W6 n σ F2.toList=pv)(hf:Instr.fill places zs pv=some cells):
  (execOp (ev n σ) ⟨some d,.build t F2,ty,pos,aft,g⟩).run P w=.ok (.value (.agg cells)) w:=by
 have hp:(F2.map fun(i,x)=>(i,ev n σ x)).toList=pv:=by rw[<-bO,sA,yY]
 have:=run_build (P:=P) w t (F2.map fun(i,x)=>(i,ev n σ x)) cells (by rw[hp,hB.eq];exact hf)
 simp only[execOp,D0,this]
 simp
theorem yC{lo:Option Operand}{b sz h:Nat}{lv mv:Option Value}(hx:ev n σ x=.pointer (some ⟨b,0,none⟩))(ht:V0 P t=some (len,sz))
  (hl:lo.map (ev n σ)=lv)(hh:hi.map (ev n σ)=hv)(hm:mx.map (ev n σ)=mv)(hb:∀w,(Instr.sliceBounds false len len lv hv mv).run P w=.ok (0,h,m) w):
  (execOp (ev n σ) ⟨some d,.slice t x lo hi mx,ty,pos,aft,g⟩).run P w=.ok (.value (.slice (some ⟨b,0,none⟩) h m)) w:=by
 have:=DR (P:=P) (w:=w) (d:=d) (ty:=ty) (pos:=pos) (aft:=aft) (g:=g) hx ht hl hh hm hb
 rwa [PG,qH,qH]at this
theorem Pt{lo:Option Operand}{a:Option Addr}{sz h:Nat}{lv mv:Option Value}(hx:ev n σ x=.slice a len cap)(ht:Z9 P t=some sz)
  (hl:lo.map (ev n σ)=lv)(hh:hi.map (ev n σ)=hv)(hm:mx.map (ev n σ)=mv)(hb:∀w,(Instr.sliceBounds true len cap lv hv mv).run P w=.ok (0,h,m) w):
  (execOp (ev n σ) ⟨some d,.slice t x lo hi mx,ty,pos,aft,g⟩).run P w=.ok (.value (.slice a h m)) w:=by
 have:=JQ (P:=P) (w:=w) (d:=d) (ty:=ty) (pos:=pos) (aft:=aft) (g:=g) hx ht hl hh hm hb
 rwa [PG,qH,qH]at this
def Sl.cut(s:Sl)(l h m:Nat):Sl:=⟨sa s.a l m 1,h-l,m-l,(s.l.drop l).take (h-l)⟩
theorem yD{s:Bool}(w:World):(Instr.sliceBounds s len cap none none none).run P w=.ok (0,len,cap) w:=DP w
theorem Pu{s:Bool}{i:Int}(h:Nat)(e:i=(h:Int))(h1:h<=cap)(w:World):(Instr.sliceBounds s len cap none (some (.int k i)) none).run P w=.ok (0,h,cap) w:=by
 subst e;exact PH zO zO w
theorem Hp.slOwn(H:Hp w0 w S L){a:Option Nat}{l:List UInt8}{T:TypeId}(hi:L[i]? =some (.own a len cap (l.map V8) T 1)):(⟨hd a,len,cap,l⟩:Sl).ok w:=by
 have h:=H.has _ (E2 hi)
 refine⟨Ch.rd_own h,?_,?_,?_⟩
 ·cases a with
 |none=>obtain⟨h1,h2,h3⟩:=h;simp only[List.map_eq_nil_iff]at h3;rw[h3,h1];rfl
 |some b=>obtain⟨h1,_⟩:=h;simpa using h1
 ·cases a with
 |none=>obtain⟨h1,h2,h3⟩:=h;simp only;omega
 |some b=>exact h.2.1
 cases a with
 |none=>obtain⟨h1,h2,h3⟩:=h;simp only;omega
 |some b=>have:=h.2.1;have:=h.2.2.1;simp only[maxLen]at *;omega
theorem Hp.ownLen(H:Hp w0 w S L){a:Option Nat}{T:TypeId}{sz:Nat}(hi:L[i]? =some (.own a len cap xs T sz)):xs.length=len*sz/\len<=cap/\cap<=maxLen:=by
 have h:=H.has _ (E2 hi)
 cases a with
|none=>obtain⟨rfl,rfl,rfl⟩:=h;simp[maxLen]
|some b=>exact⟨h.1,h.2.1,h.2.2.1⟩
theorem Hp.ownAddr(H:Hp w0 w S L){a:Option Nat}{T:TypeId}{sz:Nat}(hi:L[i]? =some (.own a len cap xs T sz))(h0:0<len):∃b,hd a=some ⟨b,0,none⟩:=by
 have h:=H.has _ (E2 hi)
 cases a with
|none=>obtain⟨h1,_⟩:=h;omega
|some b=>exact⟨b,rfl⟩
theorem Hp.slBlkA(H:Hp w0 w S L){b:Nat}{l:List UInt8}{T:TypeId}(hi:L[i]? =some (.blk b (l.map V8) T))(len:Nat)(h1:l.length=len)(h3:len<=9223372036854775807):(⟨some ⟨b,0,none⟩,len,len,l⟩:Sl).ok w:=
 ⟨Ch.rd_all (H.has _ (E2 hi)),h1,B3 _,h3⟩
theorem Hp.rot{c:Ch}(H:Hp w0 w S (L++[c])):Hp w0 w S (c::L):=H.perm (OT _ _)
theorem Hp.nilEnd(H:Hp w0 w S L)(T:TypeId)(sz:Nat):Hp w0 w S (L++[.own none 0 0 [] T sz]):=
 (H.nilOwn T sz).perm (OT _ _).symm
theorem VL{kx ky:IntKind}{li ci:Int}(l:Nat)(H:Hp w0 w S L)(hT:SlTy P t e 1 1)(hz:zeroCells P e=some [V8 0])(hx:ev n σ x=.int kx li)(hy:ev n σ y=.int ky ci)
  (hl:li=(l:Int))(hc:ci=(l:Int))(hm:l<=281474976710656)
  (h:∀b w',Hp w0 w' S (L++[.own (some b) l l ((replicate l (0:UInt8)).map V8) e 1])->w0.heap.size<=b->K (mk n (up σ d (.slice (hd (some b)) l l))) w'):
  Oper.wp P ⟨some d,.makeSlice t x y,ty,pos,aft,g⟩ (mk n σ) w K Q:=by
 have N1:l<=maxLen:=L6 hm (by decide)
 refine PK (l:=l) (c:=l) H hT hz hx hy hl hc (B3 _) zO N1 fun b w' H' hb=>h b w' ?_ hb
 have:=H'.toOwn (i:=L.length) (len:=l) (cap:=l) (sz:=1) (b:=b) (C:=replicate l (V8 0)) (T:=e) (by simp) (B3 _) N1 (by simp)
 rw[cY _ _ (B3 _),bN]at this
 simpa using this
theorem Pv{kx ky:IntKind}{li ci:Int}(c:Nat)(H:Hp w0 w S L)(hT:SlTy P t e 1 1)(hz:zeroCells P e=some [V8 0])(hx:ev n σ x=.int kx li)(hy:ev n σ y=.int ky ci)
  (hl:li=0)(hc:ci=(c:Int))(hm:c<=281474976710656)
  (h:∀b w',Hp w0 w' S (L++[.own (some b) 0 c (([]:List UInt8).map V8) e 1])->w0.heap.size<=b->K (mk n (up σ d (.slice (hd (some b)) 0 c))) w'):
  Oper.wp P ⟨some d,.makeSlice t x y,ty,pos,aft,g⟩ (mk n σ) w K Q:=by
 have N1:c<=maxLen:=L6 hm (by decide)
 refine PK (l:=0) (c:=c) H hT hz hx hy hl hc (L8 _) zO N1 fun b w' H' hb=>h b w' ?_ hb
 have:=H'.toOwn (i:=L.length) (len:=0) (cap:=c) (sz:=1) (b:=b) (C:=replicate c (V8 0)) (T:=e) (by simp) (L8 _) N1 (by simp)
 rw[cY _ _ (B3 _),bN]at this
 simpa using this
theorem VM{F2:Array (Nat×Operand)}(l:List UInt8)(H:Hp w0 w S L)(hT:SlTy P t e 1 1)(hz:zeroCells P e=some [V8 0])
  (hp:W6 n σ F2.toList=en 0 (l.map V8))(D8:l.length=len)(hm:len<=16777216)
  (h:∀b w',Hp w0 w' S (L++[.own (some b) len len (l.map V8) e 1])->w0.heap.size<=b->K (mk n (up σ d (.slice (hd (some b)) len len))) w'):
  Oper.wp P ⟨some d,.buildSlice t len F2,ty,pos,aft,g⟩ (mk n σ) w K Q:=by
 refine sJ H hT hz (by decide) hp zO (VG _ (l.map V8) len (by simp[Value.oneCell']) (by simpa using D8)) fun b w' H' hb=>h b w' ?_ hb
 have:=H'.toOwn (i:=L.length) (len:=len) (cap:=len) (sz:=1) (b:=b) (C:=l.map V8) (T:=e) (by simp) (B3 _) (L6 hm (by decide)) (by simpa using D8)
 rw[cY _ _ (B3 _),bN,W0 (by simp;omega)]at this
 simpa using this
theorem MK{bytes:Nat}{F2:Array (Nat×Operand)}{zv:Value}(vs:List Value)(H:Hp w0 w S L)(hT:SlTy P t e 1 bytes)(hz:zeroCells P e=some [zv])
  (hp:W6 n σ F2.toList=en 0 vs)(h1:vs.all (·.oneCell')=true)(D8:vs.length=len)(hm:len<=16777216)
  (h:∀b w',Hp w0 w' S (L++[.own (some b) len len vs e 1])->w0.heap.size<=b->K (mk n (up σ d (.slice (hd (some b)) len len))) w'):
  Oper.wp P ⟨some d,.buildSlice t len F2,ty,pos,aft,g⟩ (mk n σ) w K Q:=by
 refine sJ H hT hz (by decide) hp zO (VG _ vs len (by simpa using h1) D8) fun b w' H' hb=>h b w' ?_ hb
 have:=H'.toOwn (i:=L.length) (len:=len) (cap:=len) (sz:=1) (b:=b) (C:=vs) (T:=e) (by simp) (B3 _) (L6 hm (by decide)) (by simpa using D8)
 rw[cY _ _ (B3 _),bN,W0 zO]at this
 simpa using this
theorem BN{a:Option Nat}{len':Nat}{l l':List UInt8}{e':TypeId}{tx:TypeId}{s:Sl}(el:l++s.l=l')(en:len+s.len=len')(H:Hp w0 w S L)(hi:L[i]? =some (.own a len cap (l.map V8) e 1))(hT:SlTy P t e 1 1)(hu:P.underlying tx=some (.slice e'))
  (hx:ev n σ x=.slice (hd a) len cap)(hy:ev n σ y=s.v)(hs:s.ok w)(hm:len'<=140737488355328)
  (h:∀a' M4 w',Hp w0 w' S (L.set i (.own a' len' M4 (l'.map V8) e 1))->K (mk n (up σ d (.slice (hd a') len' M4))) w'):
  Oper.wp P ⟨some d,.call ⟨.builtin .append, #[x,y], #[t,tx]⟩,ty,pos,aft,g⟩ (mk n σ) w K Q:=by
 subst el en
 refine PJ (m:=s.len) (news:=s.l.map V8) H hi hT hx hy (RdS.src hu hs.rd (by simp[hs.ln]) (by decide) (by simp[Value.oneCell'])) (by decide) zO zO fun a' M4 w' H'=>h a' M4 w' ?_
 rw[lH];exact H'
theorem VN{b k:Nat}{a:Option Nat}{l:List UInt8}{T:TypeId}{u:UInt8}(H:Hp w0 w S L)(hi:L[i]? =some (.own a len cap (l.map V8) T 1))(hx:ev n σ x=.pointer (some ⟨b,0+k*1,none⟩))(ha:hd a=some ⟨b,0,none⟩)
  (hy:ev n σ y=V8 u)(hs:K0 P t=some 1)(hk:k<len)
  (h:∀w',Hp w0 w' S (L.set i (.own a len cap ((l.set k u).map V8) T 1))->K (mk n σ) w'):Oper.wp P ⟨none,.store t x y,ty,pos,aft,g⟩ (mk n σ) w K Q:=by
 have hl:=(H.ownLen hi).1
 refine Cm H hi hx ha hy hs rfl zO fun w' H'=>h w' ?_
 rw[<-List.map_set,j8,J2]at H'
 exact H'
theorem VO{a:Option Nat}{l:List UInt8}{T e':TypeId}{s:Sl}{tx:TypeId}(H:Hp w0 w S L)(hi:L[i]? =some (.own a len cap (l.map V8) T 1))(hu:P.underlying t=some (.slice e))(hu':P.underlying tx=some (.slice e'))(hs:K0 P e=some 1)
  (hx:ev n σ x=.slice (hd a) len cap)(hy:ev n σ y=s.v)(hsok:s.ok w)(hpos:0<len)
  (h:∀w',Hp w0 w' S (L.set i (.own a len cap ((s.l.take (min s.len len)++l.drop (min s.len len)).map V8) T 1))->K (mk n (up σ d (VI ((min s.len len:Nat):Int)))) w'):
  Oper.wp P ⟨some d,.call ⟨.builtin .copy, #[x,y], #[t,tx]⟩,ty,pos,aft,g⟩ (mk n σ) w K Q:=by
 cases a with
|none=>have:=H.has _ (E2 hi);obtain⟨h1,_⟩:=this;omega
|some b=>
  obtain⟨q1,q2,q3,rest,hw,q5⟩:=H.has _ (E2 hi)
  have hlt:i<L.length:=(N0.1 hi).1
  have Hb:Hp w0 w S (L.set i (.blk b (l.map V8++rest) T)):=H.conv hi rfl fun _=>hw
  have hll:l.length=len:=by simpa using q1
  refine PN (o:=0) (vs:=s.l.map V8) Hb (i:=i) (by rw[List.getElem?_set_self hlt]) hu hu' hs (by decide) hx hy hsok.rd (by simp[hsok.ln]) (by simp[Value.oneCell']) (by simp;omega) fun w' H'=>h w' ?_
  have e1:(l.map V8++rest).take 0++(s.l.map V8).take (min s.len len*1)++(l.map V8++rest).drop (0+min s.len len*1)=(s.l.take (min s.len len)++l.drop (min s.len len)).map V8++rest:=by
   rw[List.take_zero,Y4,j8,J2,qD (by simp;omega)]
   simp
  rw[e1,List.set_set]at H'
  have lX:=hsok.ln
  have:=H'.conv (i:=i) (c:=.blk b ((s.l.take (min s.len len)++l.drop (min s.len len)).map V8++rest) T) (c':=.own (some b) len cap ((s.l.take (min s.len len)++l.drop (min s.len len)).map V8) T 1) (by rw[List.getElem?_set_self hlt]) rfl (fun M3=>⟨by simp;omega,q2,q3,rest,M3,by simp only[C9,J4,F6,K5]at *;omega⟩)
  rwa [List.set_set]at this
theorem Sl.ok_nil(w:World):(⟨none,0,0,[]⟩:Sl).ok w:=⟨.inl rfl,rfl,B3 _,by decide⟩
theorem GL{a:Int}(k:Nat)(h:a=(k:Int)):u64.wrap a=((UInt64.ofNat k).toNat:Int):=by
 subst h
 have:=Cg (a:=(k:Int)) zO
 rwa [jP]at this
theorem ML{t:TypeId}{a b:Nat}:(binOp .mul t (L9 (UInt64.ofNat a)) (L9 (UInt64.ofNat b))).run P w=.ok (L9 (UInt64.ofNat (a*b))) w:=by
 rw[UInt64.ofNat_mul];exact Ca
theorem Pw(m:Nat)(h:m<64):(((UInt64.ofNat m).toNat:Nat):Int).toNat=m:=by
 rw[aI];omega
theorem MM{x:UInt64}(m:Nat)(h:m<64):(Op.shift .shr .u64 (x.toNat:Int) .u64 ((UInt64.ofNat m).toNat:Int)).run P w=.ok (L9 (x>>>UInt64.ofNat m)) w:=by
 have:=PE (P:=P) (w:=w) (x:=x) (yk:=.u64) (c:=((UInt64.ofNat m).toNat:Int)) zO (by rw[aI];omega)
 rwa [Pw m h]at this
def Sl.full(x:Sl):Sl:=⟨x.a,x.cap,x.cap,x.l++replicate 3 229⟩
structure Sl.kept (x:Sl) (w:World):Prop where
 ok:x.ok w
 room:x.cap=x.len+3
 all:x.full.ok w
end
def tX(tmps:Array Value):ResultVar->Sem Value
|.tmp t=>pure (tmps.getD t undef)
|.cell a t=>do loadVar t (<-asAddr (tmps.getD a undef))
def tY(P:Program)(n:Nat)(σ:Nat->Value)(w:World):List ResultVar->List Value->Prop
|[],[]=>True
|.tmp t::rs,v::vs=>ev n σ (.tmp t)=v/\tY P n σ w rs vs
|.cell a t::rs,v::vs=>(∃b C T k,ev n σ (.tmp a)=.pointer (some ⟨b,0,none⟩)/\w.heap[b]? =some (.cells (List.toArray C) T (0,0))/\((T3 P t=some k/\C.length=k/\v=.agg C.toArray)\/(O5 P t=true/\C[0]? =some v)))/\tY P n σ w rs vs
|_,_=>False
theorem MN{P:Program}{n:Nat}{σ:Nat->Value}{w:World}:∀(rs:List ResultVar) (vs:List Value) (K8:Array Value),tY P n σ w rs vs->
  (rs.foldlM (fun K8 r=>do let v <-tX (mk n σ).tmps r;pure (K8.push v)) K8:Sem (Array Value)).run P w=.ok (K8++vs.toArray) w
|[],[],K8,_=>by simp
|.tmp t::rs,v::vs,K8,h=>by
  have h1:(mk n σ).tmps.getD t undef=v:=by rw[sD];exact h.1
  have e:(tX (mk n σ).tmps (.tmp t)).run P w=.ok v w:=by simp[tX,h1]
  rw[List.foldlM_cons,D0,D0,e]
  simp only[F5,hP]
  rw[MN rs vs _ h.2]
  congr 1
  simp
|.cell a t::rs,v::vs,K8,h=>by
  obtain⟨⟨b,C,T,k,h1,h2,h3⟩,h4⟩:=h
  have e1:(mk n σ).tmps.getD a undef=.pointer (some ⟨b,0,none⟩):=by rw[sD];exact h1
  have e2:(loadVar t ⟨b,0,none⟩).run P w=.ok v w:=by
   rcases h3 with⟨hr,hk,rfl⟩|⟨hc,hv⟩
   ·have:=zR (P:=P) (t:=t) (k:=k) (o:=0) h2 hr zO
    simp only[Instr.loadAt,Instr.sureAddr,D0,hP,F5]at this
    rw[this,qC,W0 zO]
   have:=sI (P:=P) (t:=t) (a:=⟨b,0,none⟩) (v:=v) (w:=w) hc (by simp[World.cell?, h2,hv])
   simpa only[Instr.loadAt,Instr.sureAddr,D0,hP,F5] using this
  have e:(tX (mk n σ).tmps (.cell a t)).run P w=.ok v w:=by simp[tX,e1,asAddr,e2]
  rw[List.foldlM_cons,D0,D0,e]
  simp only[F5,hP]
  rw[MN rs vs _ h4]
  congr 1
  simp
theorem VP{n:Nat}{σ:Nat->Value}{R:Ending->World->Prop}(rs:List ResultVar)(vs:List Value)(hres:fn.results=rs.toArray)(h1:(vs.length==1)=false)(hv:tY P n σ w rs vs)
  (hR:R (.returned (.tuple vs.toArray)) w):bodyPost P fn R .ret (mk n σ) w:=by
 refine⟨oJ n σ,.tuple vs.toArray,?_,hR⟩
 have h2:=MN (P:=P) (w:=w) rs vs #[] hv
 have h3:(fn.results.mapM (tX (mk n σ).tmps)).run P w=.ok vs.toArray w:=by
  rw[hres,Array.mapM_eq_foldlM,List.foldlM_toArray]
  simpa using h2
 have h4:results fn (mk n σ).tmps=(do let vs <-fn.results.mapM (tX (mk n σ).tmps);pure (if h:vs.size=1 then vs[0] else .tuple vs)):=by
  unfold results
  congr 1
 rw[h4,D0,h3]
 have:¬ vs.length=1:=by simpa using h1
 simp[this]
theorem GM{n:Nat}{σ:Nat->Value}{t:Nat}{v:Value}{rs:List ResultVar}(hv:ev n σ (.tmp t)=v)(h:tY P n σ w rs vs):tY P n σ w (.tmp t::rs) (v::vs):=⟨hv,h⟩
theorem VQ{n:Nat}{σ:Nat->Value} :tY P n σ w [] []:=trivial
section
variable {P:Program} {Q:Exit->Act->World->Prop} {n:Nat} {σ:Nat->Value} {w:World} {c:Code} {ι κ ξ ο π:Type}
theorem MO(G3:ι->κ->List (Nat×Value))(A:ι->κ->World->Prop)(μ:ι->κ->Nat)(i:ι)(k:κ)(hp:fits σ (G3 i k))(hA:A i k w)
  (h:∀i k τ w,A i k w->c.wp P (Exit.then (oI n (fun x:ι×κ=>G3 x.1 x.2) (fun x=>A x.1 x.2) (fun x=>μ x.1 x.2) (μ i k)) Q) (mk n (l7 τ (G3 i k))) w):(Code.loop c).wp P Q (mk n σ) w:=
 y7 (fun x:ι×κ=>G3 x.1 x.2) (fun x=>A x.1 x.2) (fun x=>μ x.1 x.2) (i,k) hp hA fun x τ w hA=>h x.1 x.2 τ w hA
theorem Px(G3:ι->κ->ξ->List (Nat×Value))(A:ι->κ->ξ->World->Prop)(μ:ι->κ->ξ->Nat)(i:ι)(k:κ)(x:ξ)(hp:fits σ (G3 i k x))(hA:A i k x w)
  (h:∀i k x τ w,A i k x w->c.wp P (Exit.then (oI n (fun y:ι×κ×ξ=>G3 y.1 y.2.1 y.2.2) (fun y=>A y.1 y.2.1 y.2.2) (fun y=>μ y.1 y.2.1 y.2.2) (μ i k x)) Q) (mk n (l7 τ (G3 i k x))) w):(Code.loop c).wp P Q (mk n σ) w:=
 y7 (fun y:ι×κ×ξ=>G3 y.1 y.2.1 y.2.2) (fun y=>A y.1 y.2.1 y.2.2) (fun y=>μ y.1 y.2.1 y.2.2) (i,k,x) hp hA fun y τ w hA=>h y.1 y.2.1 y.2.2 τ w hA
theorem VR(G3:ι->κ->ξ->ο->List (Nat×Value))(A:ι->κ->ξ->ο->World->Prop)(μ:ι->κ->ξ->ο->Nat)(i:ι)(k:κ)(x:ξ)(o:ο)(hp:fits σ (G3 i k x o))(hA:A i k x o w)
  (h:∀i k x o τ w,A i k x o w->c.wp P (Exit.then (oI n (fun y:ι×κ×ξ×ο=>G3 y.1 y.2.1 y.2.2.1 y.2.2.2) (fun y=>A y.1 y.2.1 y.2.2.1 y.2.2.2) (fun y=>μ y.1 y.2.1 y.2.2.1 y.2.2.2) (μ i k x o)) Q) (mk n (l7 τ (G3 i k x o))) w):(Code.loop c).wp P Q (mk n σ) w:=
 y7 (fun y:ι×κ×ξ×ο=>G3 y.1 y.2.1 y.2.2.1 y.2.2.2) (fun y=>A y.1 y.2.1 y.2.2.1 y.2.2.2) (fun y=>μ y.1 y.2.1 y.2.2.1 y.2.2.2) (i,k,x,o) hp hA fun y τ w hA=>h y.1 y.2.1 y.2.2.1 y.2.2.2 τ w hA
theorem VS(G3:ι->κ->ξ->ο->π->List (Nat×Value))(A:ι->κ->ξ->ο->π->World->Prop)(μ:ι->κ->ξ->ο->π->Nat)(i:ι)(k:κ)(x:ξ)(o:ο)(p:π)(hp:fits σ (G3 i k x o p))(hA:A i k x o p w)
  (h:∀i k x o p τ w,A i k x o p w->c.wp P (Exit.then (oI n (fun y:ι×κ×ξ×ο×π=>G3 y.1 y.2.1 y.2.2.1 y.2.2.2.1 y.2.2.2.2) (fun y=>A y.1 y.2.1 y.2.2.1 y.2.2.2.1 y.2.2.2.2) (fun y=>μ y.1 y.2.1 y.2.2.1 y.2.2.2.1 y.2.2.2.2) (μ i k x o p)) Q) (mk n (l7 τ (G3 i k x o p))) w):(Code.loop c).wp P Q (mk n σ) w:=
 y7 (fun y:ι×κ×ξ×ο×π=>G3 y.1 y.2.1 y.2.2.1 y.2.2.2.1 y.2.2.2.2) (fun y=>A y.1 y.2.1 y.2.2.1 y.2.2.2.1 y.2.2.2.2) (fun y=>μ y.1 y.2.1 y.2.2.1 y.2.2.2.1 y.2.2.2.2) (i,k,x,o,p) hp hA fun y τ w hA=>h y.1 y.2.1 y.2.2.1 y.2.2.2.1 y.2.2.2.2 τ w hA
end
def I8(l:List UInt8):List UInt8:=sO (I2 HS.init l)
theorem gQ(l:List UInt8):(I8 l).length=32:=QR _
theorem Py(w0:World)(a:Option Addr)(s:Sl)(hr:RdS w0 a [s.v])(hs:s.ok w0):
  Ret Tryz.prog 88 [.slice a 1 1] w0 fun v w'=>v=.agg ((I8 s.l).map V8).toArray/\Hp w0 w' [] []:=by
 have h:=KJ w0 a 1 1 [s] hr rfl (Po hs) (by decide)
 rw[show eT [s]=s.l by simp[eT]]at h
 exact h
theorem VT(w0:World)(a:Option Addr)(s u:Sl)(hr:RdS w0 a [s.v,u.v])(hs:s.ok w0)(hu:u.ok w0):
  Ret Tryz.prog 88 [.slice a 2 2] w0 fun v w'=>v=.agg ((I8 (s.l++u.l)).map V8).toArray/\Hp w0 w' [] []:=by
 have h:=KJ w0 a 2 2 [s,u] hr rfl (Pp hs hu) (by decide)
 rw[show eT [s,u]=s.l++u.l by simp[eT]]at h
 exact h
theorem Pz(w0:World)(pa:Option Addr)(len cap:Nat)(ps:List Sl)(hr:RdS w0 pa (ps.map Sl.v))(hl:ps.length=len)(M3:∀p∈ps,p.ok w0)(N1:len<9223372036854775807):
  Ret Tryz.prog 88 [.slice pa len cap] w0 fun v w'=>v=.agg ((I8 (eT ps)).map V8).toArray/\Hp w0 w' [] []:=KJ w0 pa len cap ps hr hl M3 N1
def Qa(x:List UInt8):List Value:=S4 (I2 HS.init x)
attribute [irreducible] I8 Qa
def be(v:Nat):Nat->List UInt8
|0=>[]
|i+1=>UInt8.ofNat (v / 256 ^ i)::be v i
theorem MQ(v:Nat):∀n,(be v n).length=n
|0=>rfl
|n+1=>by simp[be,MQ v n]
theorem VU(v:UInt64)(k:Nat)(h:k<8):(v>>>UInt64.ofNat (8*k)).toUInt8=UInt8.ofNat (v.toNat / 256 ^ k):=by
 apply CO.1
 have e:(UInt64.ofNat (8*k)).toNat % 64=8*k:=by rw[aI];omega
 rw[UInt64.toNat_toUInt8,UInt64.toNat_shiftRight,e,OS,UInt8.toNat_ofNat',Nat.pow_mul]
theorem Qb(v:UInt64)(k:Nat)(h:k<8)(hv:v.toNat<256 ^ k):v>>>UInt64.ofNat (8*k)=0:=by
 apply UInt64.toNat_inj.1
 have e:(UInt64.ofNat (8*k)).toNat % 64=8*k:=by rw[aI];omega
 rw[UInt64.toNat_shiftRight,e,OS,Nat.pow_mul]
 exact Nat.div_eq_of_lt hv
theorem VV(w0:World)(s:Sl)(hs:s.ok w0)(n:Nat)(hm:s.len+n<=1099511627776):
  Ret Tryz.prog 148 [s.v,VI (n:Int)] w0 fun v w'=>∃a cap,v=.slice (hd a) s.len cap/\Hp w0 w' [] [.own a s.len cap (s.l.map V8) 5 1]:=by
 refine T5 Tryz.func148 rfl Tryz.ntmps148 (by simp) ?_
 have H:=Hp.refl w0 []
 refine rG ?_;refine aZ ?_;refine eN ?_
 refine rG ?_;refine B8 ?_;refine lV (z6 aW rfl) ?_;refine B8 ?_;refine lV (D1 (a:=(s.len:Int)) (b:=(n:Int)) rfl rfl (fun _=>Z8 zO zO)) ?_;refine A3 (Pv (s.len+n) H eQ oS rfl rfl rfl zO zO (fun b1 w H N6=>?_));replace H:Hp _ w _ ([.own (some b1) 0 (s.len+n) ((([]:List UInt8)).map V8) 5 1]):=H
 refine B8 ?_;refine A3 (BN (s:=s) (l':=s.l) (len':=s.len) rfl (J2 _) H (i:=0) rfl eQ Tryz.underlying53 rfl rfl (hs.up H (fun _=>U9 _)) zO (fun a2 c3 w H=>?_));replace H:Hp _ w _ ([.own a2 s.len c3 ((s.l).map V8) 5 1]):=H
 refine aZ ?_;refine eN ?_
 refine l9 ?_
 refine w4 (v:=.slice (hd a2) s.len c3) Tryz.results148 rfl ?_
 refine⟨_,rfl,?_⟩
 exact⟨_,_,rfl,H⟩
theorem Qc(w0:World)(s:Sl)(hs:s.ok w0)(u:UInt64)(n:Nat)(h1:1<=n)(h8:n<=8)(hf:n=8\/u.toNat<256 ^ n)(hm:s.len<=1048576):
 Ret Tryz.prog 99 [s.v,L9 u,VI (n:Int)] w0 fun v w'=>∃a cap,v=.tuple #[.slice (hd a) (s.len+n) cap,VI 0]/\Hp w0 w' [] [.own a (s.len+n) cap ((s.l++be u.toNat n).map V8) 5 1]:=by
 refine T5 Tryz.func99 rfl Tryz.ntmps99 (by simp) ?_
 have H:=Hp.refl w0 []
 refine rG ?_;refine aZ ?_;refine aZ ?_;refine eN ?_
 refine qB ?_;refine rG ?_;refine B8 ?_;refine lV (D1 (a:=(n:Int)) (b:=1) rfl rfl (fun _=>Pk false (decide_eq_false zO))) ?_;refine B8 ?_;refine cD rfl rfl rfl (G4 L0 ?_);refine cD rfl rfl rfl (G4 (D1 (a:=(n:Int)) (b:=8) rfl rfl (fun _=>Pl false (decide_eq_false zO))) ?_);refine lV (wM rfl) ?_;refine aZ ?_;refine eN ?_
 refine qN ?_;refine rG ?_;refine B8 ?_;refine lV (D1 (a:=(n:Int)) (b:=8) rfl rfl (fun _=>y8)) ?_;refine B8 ?_
 by_cases hc1:(n:Int)<8
 ·
  refine cD rfl rfl (by exact bT hc1) (G4 L0 ?_);refine cD rfl rfl (by exact bT hc1) (G4 L0 ?_);refine cD rfl rfl (by exact bT hc1) (G4 (iW (v:=((UInt64.ofNat n).toNat:Int)) Tryz.underlying3 Tryz.underlying173 rfl (GL n zO)) ?_);refine cD rfl rfl (by exact bT hc1) (G4 (D1 (zQ 8 (by decide)) rfl (fun _=>ML)) ?_);refine cD rfl rfl (by exact bT hc1) (G4 (oP rfl rfl (.inr rfl) (fun _=>MM (8*n) zO)) ?_);refine cD rfl rfl (by exact bT hc1) (G4 (D1 (a:=((u>>>UInt64.ofNat (8*n)).toNat:Int)) (b:=0) rfl rfl (fun _=>Pn false (decide_eq_false (fun D5=>D5 (by rw[Qb u n zO zO];rfl))))) ?_);refine lV (wM (b:=true) (bT hc1)) ?_;refine aZ ?_;refine eN ?_
  refine qN ?_;refine M5 ?_;refine rG ?_;refine B8 ?_;refine B8 ?_;refine A3 (N3 Tryz.func148 rfl rfl rfl (VV _ s (hs.up H (fun _=>U9 _)) n (by first|omega|(simp only[Sl.cut];omega))) ?_);rintro _ w ⟨a2,c3,rfl,Hc⟩
  replace H:Hp _ w _ ([.own a2 s.len c3 ((s.l).map V8) 5 1]):=H.call Hc
  clear Hc
  refine aZ ?_;refine eN ?_
  refine rG ?_;refine B8 ?_;refine lV (D1 (a:=(n:Int)) (b:=1) rfl rfl (fun _=>fX zO zO)) ?_;refine aZ ?_;refine eN ?_
  refine qB ?_;repeat refine D9 ?_
  refine VS (fun(k:Nat) (l:List UInt8) (a:Option Nat) (ln:Nat) (c:Nat)=>[(1,L9 u),(8,.slice (hd a) ln c),(9,VI ((k:Int)-1))])
   (fun(k:Nat) (l:List UInt8) (a:Option Nat) (ln:Nat) (c:Nat) w=>(k<=n/\l++be u.toNat k=s.l++be u.toNat n/\ln+k=s.len+n)/\Hp w0 w [] ([.own a ln c ((l).map V8) 5 1]))
   (fun(k:Nat) (l:List UInt8) (a:Option Nat) (ln:Nat) (c:Nat)=>k) n s.l _ s.len _ ⟨rfl,rfl,rfl,zT⟩ ⟨⟨B3 _,rfl,rfl⟩,H⟩ ?_
  clear H
  rintro k l a ln c τ w ⟨⟨hk,hl,lX⟩,H⟩
  refine rG ?_;refine B8 ?_;refine lV (D1 (a:=((k:Int)-1)) (b:=0) rfl rfl (fun _=>JB)) ?_;refine eN ?_
  by_cases hc4:0<=((k:Int)-1)
  ·
   repeat refine D9 ?_
   refine cE (by exact bT hc4) ?_;refine M5 ?_;refine qB ?_;have nK:k=(k-1)+1:=by omega
   rw[nK,be]at hl
   refine rG ?_;refine B8 ?_;refine B8 ?_;refine B8 ?_;refine lV (iW (v:=((UInt64.ofNat (k-1)).toNat:Int)) Tryz.underlying3 Tryz.underlying173 rfl (GL (k-1) zO)) ?_;refine lV (D1 (zQ 8 (by decide)) rfl (fun _=>ML)) ?_;refine lV (oP rfl rfl (.inr rfl) (fun _=>MM (8*(k-1)) zO)) ?_;refine lV (iW Tryz.underlying35 Tryz.underlying5 rfl (JG _)) ?_;refine A3 (VM ([(u>>>UInt64.ofNat (8*(k-1))).toUInt8]) H eQ oS rfl rfl (by decide) (fun b5 w H hb5=>?_));replace H:Hp _ w _ ([_,.own (some b5) 1 1 (([(u>>>UInt64.ofNat (8*(k-1))).toUInt8]).map V8) 5 1]):=H
   refine A3 (BN (s:=⟨hd (some b5),1,1,[(u>>>UInt64.ofNat (8*(k-1))).toUInt8]⟩) (l':=l++[UInt8.ofNat (u.toNat / 256 ^ (k-1))]) (len':=ln+1) (by rw[<-VU u (k-1) zO]) rfl H (i:=0) rfl eQ Tryz.underlying53 rfl rfl (H.slOwn (i:=1) rfl) zO (fun a6 c7 w H=>?_));replace H:Hp _ w _ ([.own a6 (ln+1) c7 ((l++[UInt8.ofNat (u.toNat / 256 ^ (k-1))]).map V8) 5 1,_]):=H
   refine aZ ?_;refine eN ?_
   refine rG ?_;refine B8 ?_;refine lV (D1 (a:=((k:Int)-1)) (b:=1) rfl rfl (fun _=>fX zO zO)) ?_;refine aZ ?_;refine eN ?_
   refine U7 (k-1,l++[UInt8.ofNat (u.toNat / 256 ^ (k-1))],a6,ln+1,c7) ?_ ?_ ?_
   ·exact⟨rfl,rfl,show VI (((k:Int)-1)-1)=VI (((k-1:Nat):Int)-1) from congrArg VI zO,zT⟩
   ·refine⟨?_,?_⟩
    ·try dsimp only
     exact⟨zO,by simpa using hl,zO⟩
    exact H.sub (.cons_cons _ (P6 _))
   show(k-1:Nat)<k;omega
  
  repeat refine D9 ?_
  refine cG (by exact bF hc4) ?_;refine W8 ?_;refine rG ?_;refine B8 ?_;refine aZ ?_;refine aZ ?_;refine eN ?_
  refine l9 ?_
  refine VP (vs:=[.slice (hd a) ln c,VI 0]) _ Tryz.results99 rfl (GM (v:=.slice (hd a) ln c) rfl (GM (v:=VI 0) rfl (VQ))) ?_
  refine⟨_,rfl,?_⟩
  have lK:k=0:=by omega
  subst lK
  simp only[be,Z5,s9]at hl lX
  subst hl lX
  exact⟨_,_,rfl,H⟩
 
 refine oH rfl rfl (by exact bF hc1) rfl ?_;refine oH rfl rfl (by exact bF hc1) rfl ?_;refine oH rfl rfl (by exact bF hc1) rfl ?_;refine oH rfl rfl (by exact bF hc1) rfl ?_;refine oH rfl rfl (by exact bF hc1) rfl ?_;refine oH rfl rfl (by exact bF hc1) rfl ?_;refine lV (wM (b:=false) (bF hc1)) ?_;refine aZ ?_;refine eN ?_
 refine qN ?_;refine M5 ?_;refine rG ?_;refine B8 ?_;refine B8 ?_;refine A3 (N3 Tryz.func148 rfl rfl rfl (VV _ s (hs.up H (fun _=>U9 _)) n (by first|omega|(simp only[Sl.cut];omega))) ?_);rintro _ w ⟨a8,c9,rfl,Hc⟩
 replace H:Hp _ w _ ([.own a8 s.len c9 ((s.l).map V8) 5 1]):=H.call Hc
 clear Hc
 refine aZ ?_;refine eN ?_
 refine rG ?_;refine B8 ?_;refine lV (D1 (a:=(n:Int)) (b:=1) rfl rfl (fun _=>fX zO zO)) ?_;refine aZ ?_;refine eN ?_
 refine qB ?_;repeat refine D9 ?_
 refine VS (fun(k:Nat) (l:List UInt8) (a:Option Nat) (ln:Nat) (c:Nat)=>[(1,L9 u),(8,.slice (hd a) ln c),(9,VI ((k:Int)-1))])
  (fun(k:Nat) (l:List UInt8) (a:Option Nat) (ln:Nat) (c:Nat) w=>(k<=n/\l++be u.toNat k=s.l++be u.toNat n/\ln+k=s.len+n)/\Hp w0 w [] ([.own a ln c ((l).map V8) 5 1]))
  (fun(k:Nat) (l:List UInt8) (a:Option Nat) (ln:Nat) (c:Nat)=>k) n s.l _ s.len _ ⟨rfl,rfl,rfl,zT⟩ ⟨⟨B3 _,rfl,rfl⟩,H⟩ ?_
 clear H
 rintro k l a ln c τ w ⟨⟨hk,hl,lX⟩,H⟩
 refine rG ?_;refine B8 ?_;refine lV (D1 (a:=((k:Int)-1)) (b:=0) rfl rfl (fun _=>JB)) ?_;refine eN ?_
 by_cases hc10:0<=((k:Int)-1)
 ·
  repeat refine D9 ?_
  refine cE (by exact bT hc10) ?_;refine M5 ?_;refine qB ?_;have nK:k=(k-1)+1:=by omega
  rw[nK,be]at hl
  refine rG ?_;refine B8 ?_;refine B8 ?_;refine B8 ?_;refine lV (iW (v:=((UInt64.ofNat (k-1)).toNat:Int)) Tryz.underlying3 Tryz.underlying173 rfl (GL (k-1) zO)) ?_;refine lV (D1 (zQ 8 (by decide)) rfl (fun _=>ML)) ?_;refine lV (oP rfl rfl (.inr rfl) (fun _=>MM (8*(k-1)) zO)) ?_;refine lV (iW Tryz.underlying35 Tryz.underlying5 rfl (JG _)) ?_;refine A3 (VM ([(u>>>UInt64.ofNat (8*(k-1))).toUInt8]) H eQ oS rfl rfl (by decide) (fun b11 w H hb11=>?_));replace H:Hp _ w _ ([_,.own (some b11) 1 1 (([(u>>>UInt64.ofNat (8*(k-1))).toUInt8]).map V8) 5 1]):=H
  refine A3 (BN (s:=⟨hd (some b11),1,1,[(u>>>UInt64.ofNat (8*(k-1))).toUInt8]⟩) (l':=l++[UInt8.ofNat (u.toNat / 256 ^ (k-1))]) (len':=ln+1) (by rw[<-VU u (k-1) zO]) rfl H (i:=0) rfl eQ Tryz.underlying53 rfl rfl (H.slOwn (i:=1) rfl) zO (fun a12 c13 w H=>?_));replace H:Hp _ w _ ([.own a12 (ln+1) c13 ((l++[UInt8.ofNat (u.toNat / 256 ^ (k-1))]).map V8) 5 1,_]):=H
  refine aZ ?_;refine eN ?_
  refine rG ?_;refine B8 ?_;refine lV (D1 (a:=((k:Int)-1)) (b:=1) rfl rfl (fun _=>fX zO zO)) ?_;refine aZ ?_;refine eN ?_
  refine U7 (k-1,l++[UInt8.ofNat (u.toNat / 256 ^ (k-1))],a12,ln+1,c13) ?_ ?_ ?_
  ·exact⟨rfl,rfl,show VI (((k:Int)-1)-1)=VI (((k-1:Nat):Int)-1) from congrArg VI zO,zT⟩
  ·refine⟨?_,?_⟩
   ·try dsimp only
    exact⟨zO,by simpa using hl,zO⟩
   exact H.sub (.cons_cons _ (P6 _))
  show(k-1:Nat)<k;omega
 
 repeat refine D9 ?_
 refine cG (by exact bF hc10) ?_;refine W8 ?_;refine rG ?_;refine B8 ?_;refine aZ ?_;refine aZ ?_;refine eN ?_
 refine l9 ?_
 refine VP (vs:=[.slice (hd a) ln c,VI 0]) _ Tryz.results99 rfl (GM (v:=.slice (hd a) ln c) rfl (GM (v:=VI 0) rfl (VQ))) ?_
 refine⟨_,rfl,?_⟩
 have lK:k=0:=by omega
 subst lK
 simp only[be,Z5,s9]at hl lX
 subst hl lX
 exact⟨_,_,rfl,H⟩
theorem Qd(x a b:UInt8):x|||(a^^^b)=0↔x=0/\a=b:=by
 constructor
 ·intro h
  have h1:=congrArg UInt8.toBitVec h
  simp only[UInt8.toBitVec_or,UInt8.toBitVec_xor]at h1
  have hx:x.toBitVec=0#8:=by
   apply BitVec.eq_of_getElem_eq
   intro i hi
   have:=congrArg (·[i]) h1
   simp at this
   simp[this.1]
  have U3:a.toBitVec=b.toBitVec:=by
   apply BitVec.eq_of_getElem_eq
   intro i hi
   have:=congrArg (·[i]) h1
   simp at this
   exact this.2
  exact⟨UInt8.toBitVec_inj.1 hx,UInt8.toBitVec_inj.1 U3⟩
 rintro⟨rfl,rfl⟩;simp
theorem Qe{a b:List UInt8}(i:Nat)(ha:i<a.length)(hb:i<b.length):a.take (i+1)=b.take (i+1)↔a.take i=b.take i/\a.getD i 0=b.getD i 0:=by
 have e:∀l:List UInt8,i<l.length->l.take (i+1)=l.take i++[l.getD i 0]:=fun l hl=>by
  rw[CR,j9];simp[hl]
 rw[e a ha,e b hb]
 constructor
 ·intro h
  have:=List.append_inj h (by simp;omega)
  exact⟨this.1,by simpa using this.2⟩
 rintro⟨h1,h2⟩;rw[h1,h2]
theorem Qf(w0:World)(s u:Sl)(hs:s.ok w0)(hu:u.ok w0):
 Ret Tryz.prog 107 [s.v,u.v] w0 fun v w'=>v=.bool (decide (s.l=u.l))/\Hp w0 w' [] []:=by
 refine T5 Tryz.func107 rfl Tryz.ntmps107 (by simp) ?_
 have H:=Hp.refl w0 []
 have qQ:=hs.ln
 have hul:=hu.ln
 have N1:=hs.mx
 refine rG ?_;refine aZ ?_;refine eN ?_
 refine rG ?_;refine B8 ?_;refine lV (z6 aW rfl) ?_;refine B8 ?_;refine lV (z6 aW rfl) ?_;refine lV (D1 (a:=(s.len:Int)) (b:=(u.len:Int)) rfl rfl (fun _=>DD)) ?_;refine eN ?_
 by_cases hc1:(s.len:Int)≠(u.len:Int)
 ·
  repeat refine D9 ?_
  refine cE (by exact bT hc1) ?_;refine rG ?_;refine aZ ?_;refine eN ?_
  refine l9 ?_
  refine w4 (v:=.bool false) Tryz.results107 rfl ?_
  refine⟨_,rfl,?_⟩
  refine⟨?_,H⟩
  have e:¬ s.l=u.l:=fun e=>by rw[e]at qQ;omega
  rw[decide_eq_false e]
 
 repeat refine D9 ?_
 refine cG (by exact bF hc1) ?_;refine M5 ?_;refine rG ?_;refine lV (Pr (c8 0 (by decide))) ?_;refine eN ?_
 refine rG ?_;refine B8 ?_;refine lV (z6 aW rfl) ?_;refine B8 ?_;refine eN ?_
 refine qB ?_;repeat refine D9 ?_
 refine MO (fun(i:Nat) (x:UInt8)=>[(0,s.v),(1,u.v),(5,V8 x),(13,VI (s.len:Int)),(14,VI (i:Int))])
  (fun(i:Nat) (x:UInt8) w=>(i<=s.len/\(x=0↔s.l.take i=u.l.take i))/\Hp w0 w [] ([]))
  (fun(i:Nat) (x:UInt8)=>s.len-i) 0 (UInt8.ofNat 0) ⟨rfl,rfl,rfl,rfl,rfl,zT⟩ ⟨⟨L8 _,by simp⟩,H⟩ ?_
 clear H
 rintro i x τ w ⟨⟨hi,hx⟩,H⟩
 refine rG ?_;refine lV (D1 (a:=(i:Int)) (b:=(s.len:Int)) rfl rfl (fun _=>y8)) ?_;refine eN ?_
 by_cases U5:(i:Int)<(s.len:Int)
 ·
  repeat refine D9 ?_
  refine cE (by exact bT U5) ?_;refine M5 ?_;refine qB ?_;refine rG ?_;refine B8 ?_;refine aZ ?_;refine eN ?_
  repeat refine D9 ?_
  refine sK mixed zK ?_;replace H:=H.drew
  refine A7 (L0) ?_;refine A7 (L0) ?_;refine A7 (L0) ?_;have iJ:=((hs.up H (fun _=>U9 _))).addr (by (try simp only[Sl.cut]);omega)
  obtain⟨ab3,ao4,iJ⟩:=iJ
  refine A7 (kU i rfl rfl aW iJ zO (by (try simp only[Sl.cut]);omega)) ?_;refine A7 (GK (s:=s) (k:=i) (hs.up H (fun _=>U9 _)) iJ rfl oR (by (try simp only[Sl.cut]);omega)) ?_;refine A7 (L0) ?_;refine A7 (L0) ?_;have ah8:=((hu.up H (fun _=>U9 _))).addr (by (try simp only[Sl.cut]);omega)
  obtain⟨ab6,ao7,ah8⟩:=ah8
  refine A7 (kU i rfl rfl aW ah8 zO (by (try simp only[Sl.cut]);omega)) ?_;refine A7 (GK (s:=u) (k:=i) (hu.up H (fun _=>U9 _)) ah8 rfl oR (by (try simp only[Sl.cut]);omega)) ?_;refine A7 (D1 rfl rfl (fun _=>JE)) ?_;refine A7 (D1 rfl rfl (fun _=>Bu)) ?_;refine A7 (eM) ?_;refine kK ?_;refine rG ?_;refine lV (D1 (a:=(i:Int)) (b:=1) rfl rfl (fun _=>Z8 zO zO)) ?_;refine B8 ?_;refine eN ?_
  refine U7 (i+1,x|||(((s.l).getD i 0)^^^((u.l).getD i 0))) ?_ ?_ ?_
  ·exact⟨rfl,rfl,show V8 (x|||(((s.l).getD i 0)^^^((u.l).getD i 0)))=V8 (x|||(((s.l).getD i 0)^^^((u.l).getD i 0)):UInt8) from congrArg V8 rfl,rfl,show VI ((i:Int)+1)=VI ((i+1:Nat):Int) from congrArg VI zO,zT⟩
  ·refine⟨?_,?_⟩
   ·try dsimp only
    exact⟨zO,by rw[Qd,hx,Qe i zO zO]⟩
   exact H
  show s.len-(i+1:Nat)<s.len-i;omega
 
 repeat refine D9 ?_
 refine cG (by exact bF U5) ?_;refine W8 ?_;refine rG ?_;refine B8 ?_;refine lV (D1 (a:=(x.toNat:Int)) (b:=0) rfl rfl (fun _=>JC)) ?_;refine aZ ?_;refine eN ?_
 refine l9 ?_
 refine w4 (v:=.bool (decide ((x.toNat:Int)=0))) Tryz.results107 rfl ?_
 refine⟨_,rfl,?_⟩
 refine⟨?_,H⟩
 congr 1
 have iL:i=s.len:=by omega
 subst iL
 rw[W0 zO,W0 zO]at hx
 rw[decide_eq_decide, <-hx, <-CO]
 have z:(0:UInt8).toNat=0:=rfl
 rw[z]
 omega
def V4(k:List UInt8):List UInt8:=k++replicate (64-k.length) 0
def R8(k:List UInt8):List UInt8:=if 64<k.length then I8 k else k
def R9(k:List UInt8)(m:UInt8):List UInt8:=(V4 k).map (· ^^^ m)
def jL(k b:List UInt8):List UInt8:=I8 (R9 (R8 k) 92++I8 (R9 (R8 k) 54++b))
theorem GN(k b:List UInt8):(jL k b).length=32:=by simp[jL,gQ]
theorem VX(k:List UInt8)(h:k.length<=64):(V4 k).length=64:=by simp[V4];omega
theorem VY(k:List UInt8)(n:Nat)(hn:k.length=n)(h:n<=64):k.take (min n 64)++(replicate 64 (0:UInt8)).drop (min n 64)=V4 k:=by
 rw[jQ h,W0 zO,List.drop_replicate,V4,hn]
def Z2(l:List UInt8)(m:UInt8)(i:Nat):List UInt8:=(l.take i).map (· ^^^ m)++l.drop i
theorem VZ(l:List UInt8)(m:UInt8)(i:Nat)(h:i<=l.length):(Z2 l m i).length=l.length:=by simp[Z2];omega
theorem WA(l:List UInt8)(m:UInt8)(i:Nat)(h:i<=l.length):((l.take i).map (· ^^^ m)).length=i:=by simp;omega
theorem Qg(l:List UInt8)(m:UInt8)(i:Nat)(h:i<l.length):(Z2 l m i).getD i 0=l.getD i 0:=by
 have hl:=WA l m i zO
 rw[Z2,j9,j9,L7 zO,hl,bN,Q2,s9]
theorem WB(l:List UInt8)(m:UInt8)(i:Nat)(h:i<l.length):(Z2 l m i).set i ((Z2 l m i).getD i 0^^^m)=Z2 l m (i+1):=by
 have hl:=WA l m i zO
 rw[Qg l m i h]
 unfold Z2
 rw[cY _ _ zO,hl,bN,IL h,List.set_cons_zero,CR,lH,H8]
 simp[j9,h]
theorem WC(w0:World)(s:Sl)(hs:s.ok w0)(m:UInt8):
 Ret Tryz.prog 149 [s.v,V8 m] w0 fun v w'=>∃b,v=.slice (hd (some b)) 64 64/\Hp w0 w' [] [.own (some b) 64 64 ((R9 (R8 s.l) m).map V8) 5 1]:=by
 refine T5 Tryz.func149 rfl Tryz.ntmps149 (by simp) ?_
 have H:=Hp.refl w0 []
 have qQ:=hs.ln
 have N1:=hs.mx
 refine rG ?_;refine aZ ?_;refine eN ?_
 refine rG ?_;refine B8 ?_;refine lV (z6 aW rfl) ?_;refine lV (D1 (a:=(s.len:Int)) (b:=64) rfl rfl (fun _=>zM)) ?_;refine eN ?_
 by_cases hc1:64<(s.len:Int)
 ·
  repeat refine D9 ?_
  refine cE (by exact bT hc1) ?_;refine rG ?_;refine B8 ?_;refine A3 (MK ([s.v]) H JV JU rfl (by simp[Value.oneCell',Sl.v]) rfl (by decide) (fun b2 w H S2=>?_));replace H:Hp _ w _ ([.own (some b2) 1 1 ([s.v]) 53 1]):=H
  refine A3 (N3 Tryz.func88 rfl rfl rfl (Py _ _ s (H.own (i:=0) rfl) (hs.up H (fun _=>U9 _))) ?_);rintro _ w ⟨rfl,Hc⟩
  replace H:Hp _ w _ ([_]):=H.call Hc
  clear Hc
  refine A3 (W9 H aV (fun b3 w H x8=>?_));replace H:Hp _ w _ ([_,.blk b3 ((replicate 32 (0:UInt8)).map V8) 34]):=H
  refine A3 (mX (l':=I8 (s.l)) H (i:=1) rfl rfl rfl iX (show(replicate 32 (0:UInt8)).length=32 from(jR ..)) (show(I8 (s.l)).length=32 from gQ _) (fun w H=>?_));replace H:Hp _ w _ ([_,.blk b3 ((I8 (s.l)).map V8) 34]):=H
  refine eN ?_
  refine rG ?_;refine lV (yC (h:=32) (m:=32) (lv:=none) (hv:=none) (mv:=none) rfl sL rfl rfl rfl (fun w=>yD w)) ?_;refine aZ ?_;refine eN ?_
  refine rG ?_;refine A3 (VL 64 H eQ oS rfl rfl zO zO zO (fun b4 w H hb4=>?_));replace H:Hp _ w _ ([_,_,.own (some b4) 64 64 ((replicate 64 (0:UInt8)).map V8) 5 1]):=H
  refine aZ ?_;refine eN ?_
  refine rG ?_;refine B8 ?_;refine B8 ?_;refine A3 (VO (s:=(⟨some ⟨b3,0,none⟩,32,32,I8 (s.l)⟩:Sl)) H (i:=2) rfl Tryz.underlying53 Tryz.underlying53 wQ rfl rfl (H.slBlkA (i:=1) rfl 32 (show(I8 (s.l)).length=32 from gQ _) (by decide)) zO (fun w H=>?_));replace H:Hp _ w _ ([_,_,.own (some b4) 64 64 (((I8 (s.l)).take (min 32 64)++(replicate 64 (0:UInt8)).drop (min 32 64)).map V8) 5 1]):=H
  refine eN ?_
  have hkl:(I8 (s.l)).length<=64:=by first|omega|simp[gQ]
  have en:(I8 (s.l)).take (min 32 64)++(replicate 64 (0:UInt8)).drop (min 32 64)=V4 (I8 (s.l)):=VY _ _ (by first|omega|simp[gQ]) zO
  rw[en]at H;clear en
  replace H:Hp _ w _ ([_,_,.own (some b4) 64 64 ((V4 (I8 (s.l))).map V8) 5 1]):=H
  refine rG ?_;refine B8 ?_;refine lV (z6 aW rfl) ?_;refine B8 ?_;refine eN ?_
  refine qB ?_;repeat refine D9 ?_
  refine y7 (fun(i:Nat)=>[(1,V8 m),(6,.slice (hd (some b4)) 64 64),(20,VI 64),(21,VI (i:Int))])
   (fun(i:Nat) w=>(i<=64)/\Hp w0 w [] ([.own (some b2) 1 1 ([s.v]) 53 1,.blk b3 ((I8 (s.l)).map V8) 34,.own (some b4) 64 64 ((Z2 (V4 (I8 (s.l))) m i).map V8) 5 1]))
   (fun(i:Nat)=>64-i) 0 ⟨rfl,rfl,rfl,rfl,zT⟩ ⟨zO,H⟩ ?_
  clear H
  rintro i τ w ⟨hi,H⟩
  have hpl:=VX (I8 (s.l)) hkl
  have fJ:=VZ (V4 (I8 (s.l))) m i zO
  refine rG ?_;refine lV (D1 (a:=(i:Int)) (b:=64) rfl rfl (fun _=>y8)) ?_;refine eN ?_
  by_cases hc5:(i:Int)<64
  ·
   repeat refine D9 ?_
   refine cE (by exact bT hc5) ?_;refine M5 ?_;refine qB ?_;refine rG ?_;refine B8 ?_;refine aZ ?_;refine eN ?_
   refine rG ?_;refine B8 ?_;refine B8 ?_;obtain⟨ab6,ah7⟩:=H.ownAddr (i:=2) rfl zO
   refine lV (kU i rfl rfl aW ah7 zO (by (try simp only[Sl.cut]);omega)) ?_;refine lV (GK (s:=⟨hd (some b4),64,64,Z2 (V4 (I8 (s.l))) m i⟩) (k:=i) (H.slOwn (i:=2) rfl) ah7 rfl oR (by (try simp only[Sl.cut]);omega)) ?_;refine B8 ?_;refine lV (D1 rfl rfl (fun _=>JE)) ?_;refine lV (kU i rfl rfl aW ah7 zO (by (try simp only[Sl.cut]);omega)) ?_;refine A3 (VN (u:=((Z2 (V4 (I8 (s.l))) m i).getD i 0)^^^m) (k:=i) H (i:=2) rfl rfl ah7 rfl wQ zO (fun w H=>?_));replace H:Hp _ w _ ([_,_,.own (some b4) 64 64 (((Z2 (V4 (I8 (s.l))) m i).set i (((Z2 (V4 (I8 (s.l))) m i).getD i 0)^^^m)).map V8) 5 1]):=H
   refine eN ?_
   refine rG ?_;refine lV (D1 (a:=(i:Int)) (b:=1) rfl rfl (fun _=>Z8 zO zO)) ?_;refine B8 ?_;refine eN ?_
   have en:=WB (V4 (I8 (s.l))) m i zO
   rw[en]at H;clear en
   refine U7 (i+1) ?_ ?_ ?_
   ·exact⟨rfl,rfl,rfl,show VI ((i:Int)+1)=VI ((i+1:Nat):Int) from congrArg VI zO,zT⟩
   ·refine⟨?_,?_⟩
    ·try dsimp only
     exact by omega
    exact H
   show 64-(i+1:Nat)<64-i;omega
  
  repeat refine D9 ?_
  refine cG (by exact bF hc5) ?_;refine W8 ?_;refine rG ?_;refine B8 ?_;refine aZ ?_;refine eN ?_
  refine l9 ?_
  refine w4 (v:=.slice (hd (some b4)) 64 64) Tryz.results149 rfl ?_
  refine⟨_,rfl,?_⟩
  have iL:i=64:=by omega
  subst iL
  have e2:Z2 (V4 (I8 (s.l))) m 64=R9 (R8 s.l) m:=by
   rw[Z2,W0 zO,List.drop_of_length_le zO,Z5,R8,if_pos zO,R9]
  rw[e2]at H
  exact⟨_,rfl,H.sub (.cons _ (.cons _ (.cons_cons _ (P6 _))))⟩
 
 repeat refine D9 ?_
 refine cG (by exact bF hc1) ?_;refine M5 ?_;refine rG ?_;refine A3 (VL 64 H eQ oS rfl rfl zO zO zO (fun b8 w H hb8=>?_));replace H:Hp _ w _ ([.own (some b8) 64 64 ((replicate 64 (0:UInt8)).map V8) 5 1]):=H
 refine aZ ?_;refine eN ?_
 refine rG ?_;refine B8 ?_;refine B8 ?_;refine A3 (VO (s:=s) H (i:=0) rfl Tryz.underlying53 Tryz.underlying53 wQ rfl rfl (hs.up H (fun _=>U9 _)) zO (fun w H=>?_));replace H:Hp _ w _ ([.own (some b8) 64 64 (((s.l).take (min s.len 64)++(replicate 64 (0:UInt8)).drop (min s.len 64)).map V8) 5 1]):=H
 refine eN ?_
 have hkl:(s.l).length<=64:=by first|omega|simp[gQ]
 have en:(s.l).take (min s.len 64)++(replicate 64 (0:UInt8)).drop (min s.len 64)=V4 (s.l):=VY _ _ (by first|omega|simp[gQ]) zO
 rw[en]at H;clear en
 replace H:Hp _ w _ ([.own (some b8) 64 64 ((V4 (s.l)).map V8) 5 1]):=H
 refine rG ?_;refine B8 ?_;refine lV (z6 aW rfl) ?_;refine B8 ?_;refine eN ?_
 refine qB ?_;repeat refine D9 ?_
 refine y7 (fun(i:Nat)=>[(1,V8 m),(6,.slice (hd (some b8)) 64 64),(20,VI 64),(21,VI (i:Int))])
  (fun(i:Nat) w=>(i<=64)/\Hp w0 w [] ([.own (some b8) 64 64 ((Z2 (V4 (s.l)) m i).map V8) 5 1]))
  (fun(i:Nat)=>64-i) 0 ⟨rfl,rfl,rfl,rfl,zT⟩ ⟨zO,H⟩ ?_
 clear H
 rintro i τ w ⟨hi,H⟩
 have hpl:=VX (s.l) hkl
 have fJ:=VZ (V4 (s.l)) m i zO
 refine rG ?_;refine lV (D1 (a:=(i:Int)) (b:=64) rfl rfl (fun _=>y8)) ?_;refine eN ?_
 by_cases hc9:(i:Int)<64
 ·
  repeat refine D9 ?_
  refine cE (by exact bT hc9) ?_;refine M5 ?_;refine qB ?_;refine rG ?_;refine B8 ?_;refine aZ ?_;refine eN ?_
  refine rG ?_;refine B8 ?_;refine B8 ?_;obtain⟨ab10,ah11⟩:=H.ownAddr (i:=0) rfl zO
  refine lV (kU i rfl rfl aW ah11 zO (by (try simp only[Sl.cut]);omega)) ?_;refine lV (GK (s:=⟨hd (some b8),64,64,Z2 (V4 (s.l)) m i⟩) (k:=i) (H.slOwn (i:=0) rfl) ah11 rfl oR (by (try simp only[Sl.cut]);omega)) ?_;refine B8 ?_;refine lV (D1 rfl rfl (fun _=>JE)) ?_;refine lV (kU i rfl rfl aW ah11 zO (by (try simp only[Sl.cut]);omega)) ?_;refine A3 (VN (u:=((Z2 (V4 (s.l)) m i).getD i 0)^^^m) (k:=i) H (i:=0) rfl rfl ah11 rfl wQ zO (fun w H=>?_));replace H:Hp _ w _ ([.own (some b8) 64 64 (((Z2 (V4 (s.l)) m i).set i (((Z2 (V4 (s.l)) m i).getD i 0)^^^m)).map V8) 5 1]):=H
  refine eN ?_
  refine rG ?_;refine lV (D1 (a:=(i:Int)) (b:=1) rfl rfl (fun _=>Z8 zO zO)) ?_;refine B8 ?_;refine eN ?_
  have en:=WB (V4 (s.l)) m i zO
  rw[en]at H;clear en
  refine U7 (i+1) ?_ ?_ ?_
  ·exact⟨rfl,rfl,rfl,show VI ((i:Int)+1)=VI ((i+1:Nat):Int) from congrArg VI zO,zT⟩
  ·refine⟨?_,?_⟩
   ·try dsimp only
    exact by omega
   exact H
  show 64-(i+1:Nat)<64-i;omega
 
 repeat refine D9 ?_
 refine cG (by exact bF hc9) ?_;refine W8 ?_;refine rG ?_;refine B8 ?_;refine aZ ?_;refine eN ?_
 refine l9 ?_
 refine w4 (v:=.slice (hd (some b8)) 64 64) Tryz.results149 rfl ?_
 refine⟨_,rfl,?_⟩
 have iL:i=64:=by omega
 subst iL
 have e2:Z2 (V4 (s.l)) m 64=R9 (R8 s.l) m:=by
  rw[Z2,W0 zO,List.drop_of_length_le zO,Z5,R8,if_neg zO,R9]
 rw[e2]at H
 exact⟨_,rfl,H.sub (.cons_cons _ (P6 _))⟩
theorem Qh(w0:World)(s u:Sl)(hs:s.ok w0)(hu:u.ok w0):
  Ret Tryz.prog 100 [s.v,u.v] w0 fun v w'=>v=.agg ((jL s.l u.l).map V8).toArray/\Hp w0 w' [] []:=by
 refine T5 Tryz.func100 rfl Tryz.ntmps100 (by simp) ?_
 have H:=Hp.refl w0 []
 refine rG ?_;refine A3 (W9 H aV (fun b1 w H N6=>?_));replace H:Hp _ w _ ([.blk b1 ((replicate 32 (0:UInt8)).map V8) 34]):=H
 refine eN ?_
 refine rG ?_;refine B8 ?_;refine A3 (N3 Tryz.func149 rfl rfl rfl (WC _ s (hs.up H (fun _=>U9 _)) ((54:UInt8))) ?_);rintro _ w ⟨b2,rfl,Hc⟩
 replace H:Hp _ w _ ([_,.own (some b2) 64 64 ((R9 (R8 (s.l)) ((54:UInt8))).map V8) 5 1]):=H.call Hc
 clear Hc
 refine B8 ?_;refine A3 (MK ([.slice (hd (some b2)) 64 64,u.v]) H JV JU rfl (by simp[Value.oneCell',Sl.v]) rfl (by decide) (fun b3 w H x8=>?_));replace H:Hp _ w _ ([_,_,.own (some b3) 2 2 ([.slice (hd (some b2)) 64 64,u.v]) 53 1]):=H
 refine A3 (N3 Tryz.func88 rfl rfl rfl (VT _ _ (⟨hd (some b2),64,64,R9 (R8 (s.l)) ((54:UInt8))⟩) u (H.own (i:=2) rfl) (H.slOwn (i:=1) rfl) (hu.up H (fun _=>U9 _))) ?_);rintro _ w ⟨rfl,Hc⟩
 replace H:Hp _ w _ ([_,_,_]):=H.call Hc
 clear Hc
 refine A3 (W9 H aV (fun b4 w H hb4=>?_));replace H:Hp _ w _ ([_,_,_,.blk b4 ((replicate 32 (0:UInt8)).map V8) 34]):=H
 refine A3 (mX (l':=I8 ((R9 (R8 (s.l)) ((54:UInt8)))++u.l)) H (i:=3) rfl rfl rfl iX (show(replicate 32 (0:UInt8)).length=32 from(jR ..)) (show(I8 ((R9 (R8 (s.l)) ((54:UInt8)))++u.l)).length=32 from gQ _) (fun w H=>?_));replace H:Hp _ w _ ([_,_,_,.blk b4 ((I8 ((R9 (R8 (s.l)) ((54:UInt8)))++u.l)).map V8) 34]):=H
 refine eN ?_
 repeat refine D9 ?_
 refine Hh H (fun j=>Nat.ble 0 j) mixed fun H=>?_
 have HS:=H
 refine zA 0 rfl (fun w=>L0) ?_;refine zA 2 rfl (fun w=>yC (h:=32) (m:=32) (lv:=none) (hv:=none) (mv:=none) rfl sL rfl rfl rfl (fun w=>yD w)) ?_;refine zU 1 rfl (N3 Tryz.func149 rfl rfl rfl (WC _ s (hs.up H (fun _=>U9 _)) ((92:UInt8))) ?_);rintro _ w ⟨b5,rfl,Hc⟩
 replace H:Hp _ w _ ([_,_,_,_,.own (some b5) 64 64 ((R9 (R8 (s.l)) ((92:UInt8))).map V8) 5 1]):=H.call Hc
 clear Hc
 refine⟨fun h=>Bool.noConfusion (h:true=false),?_⟩
 clear HS
 refine zU 3 rfl (MK ([.slice (hd (some b5)) 64 64,(⟨some ⟨b4,0,none⟩,32,32,I8 ((R9 (R8 (s.l)) ((54:UInt8)))++u.l)⟩:Sl).v]) H JV JU rfl (by simp[Value.oneCell',Sl.v]) rfl (by decide) (fun b6 w H hb6=>?_));replace H:Hp _ w _ ([_,_,_,_,_,.own (some b6) 2 2 ([.slice (hd (some b5)) 64 64,(⟨some ⟨b4,0,none⟩,32,32,I8 ((R9 (R8 (s.l)) ((54:UInt8)))++u.l)⟩:Sl).v]) 53 1]):=H
 refine⟨fun h=>Bool.noConfusion (h:true=false),?_⟩
 refine zU 4 rfl (N3 Tryz.func88 rfl rfl rfl (VT _ _ (⟨hd (some b5),64,64,R9 (R8 (s.l)) ((92:UInt8))⟩) (⟨some ⟨b4,0,none⟩,32,32,I8 ((R9 (R8 (s.l)) ((54:UInt8)))++u.l)⟩:Sl) (H.own (i:=5) rfl) (H.slOwn (i:=4) rfl) (H.slBlkA (i:=3) rfl 32 (show(I8 ((R9 (R8 (s.l)) ((54:UInt8)))++u.l)).length=32 from gQ _) (by decide))) ?_);rintro _ w ⟨rfl,Hc⟩
 replace H:Hp _ w _ ([_,_,_,_,_,_]):=H.call Hc
 clear Hc
 refine⟨fun h=>Bool.noConfusion (h:true=false),?_⟩
 refine zU 5 rfl (mX (l':=I8 ((R9 (R8 (s.l)) ((92:UInt8)))++(I8 ((R9 (R8 (s.l)) ((54:UInt8)))++u.l)))) H (i:=0) rfl rfl rfl iX (show(replicate 32 (0:UInt8)).length=32 from(jR ..)) (show(I8 ((R9 (R8 (s.l)) ((92:UInt8)))++(I8 ((R9 (R8 (s.l)) ((54:UInt8)))++u.l)))).length=32 from gQ _) (fun w H=>?_));replace H:Hp _ w _ ([.blk b1 ((I8 ((R9 (R8 (s.l)) ((92:UInt8)))++(I8 ((R9 (R8 (s.l)) ((54:UInt8)))++u.l)))).map V8) 34,_,_,_,_,_]):=H
 refine⟨fun h=>Bool.noConfusion (h:true=false),?_⟩
 refine Hg zK ?_;refine l9 ?_
 refine VK (l:=I8 ((R9 (R8 (s.l)) ((92:UInt8)))++(I8 ((R9 (R8 (s.l)) ((54:UInt8)))++u.l)))) Tryz.results100 H (i:=0) rfl rfl aU (show(I8 ((R9 (R8 (s.l)) ((92:UInt8)))++(I8 ((R9 (R8 (s.l)) ((54:UInt8)))++u.l)))).length=32 from gQ _) ?_
 refine⟨_,rfl,?_⟩
 exact⟨rfl,H.sub (P6 _)⟩
theorem Qi(w0:World)(u:UInt64)(n:Nat)(h1:1<=n)(h8:n<=8)(hf:n=8\/u.toNat<256 ^ n):
  Ret Tryz.prog 99 [.slice none 0 0,L9 u,VI (n:Int)] w0 fun v w'=>∃a cap,v=.tuple #[.slice (hd a) n cap,VI 0]/\Hp w0 w' [] [.own a n cap ((be u.toNat n).map V8) 5 1]:=
 (Qc w0 ⟨none,0,0,[]⟩ (Sl.ok_nil _) u n h1 h8 hf (by simp)).mono fun v w' ⟨a,c,hv,H⟩=>⟨a,c,by simpa using hv,by simpa using H⟩
def o7(l:List (List UInt8)):List UInt8:=l.flatMap fun p=>be p.length 8++p
theorem Qj(l:List (List UInt8))(p:List UInt8):o7 (l++[p])=o7 l++be p.length 8++p:=by simp[o7]
def fr(ps:List Sl)(i:Nat):List UInt8:=o7 ((ps.take i).map Sl.l)
theorem Qk(ps:List Sl)(i:Nat)(p:Sl)(h:ps[i]? =some p):fr ps (i+1)=fr ps i++be p.l.length 8++p.l:=by
 rw[fr,CR,h];simp only[Option.toList_some,lH,U0,List.map_nil,Qj];rfl
theorem Ql(ps:List Sl)(i:Nat)(h:ps.length=i):fr ps i=o7 (ps.map Sl.l):=by rw[fr,W0 zO]
theorem Qm(ps:List Sl):∀i,(fr ps i).length<=(o7 (ps.map Sl.l)).length:=by
 intro i
 have:o7 (ps.map Sl.l)=fr ps i++o7 ((ps.drop i).map Sl.l):=by
  rw[fr,o7,o7,o7, <-List.flatMap_append, <-lH,uP]
 rw[this];simp
theorem Qn(n:Nat)(h:n<18446744073709551616):(UInt64.ofNat n).toNat=n:=by rw[aI];omega
theorem Qo(w0:World)(s:Sl)(hs:s.ok w0)(pa:Option Addr)(pl pc:Nat)(ps:List Sl)(hr:RdS w0 pa (ps.map Sl.v))(hl:ps.length=pl)(M3:∀p∈ps,p.ok w0)(hp63:pl<=1048576)(hB:(o7 (ps.map Sl.l)).length<=1048576):
 Ret Tryz.prog 52 [s.v,.slice pa pl pc] w0 fun v w'=>v=.agg ((jL s.l (o7 (ps.map Sl.l))).map V8).toArray/\Hp w0 w' [] []:=by
 refine T5 Tryz.func52 rfl Tryz.ntmps52 (by simp) ?_
 have H:=Hp.refl w0 []
 refine rG ?_;refine A3 (W9 H aV (fun b1 w H N6=>?_));replace H:Hp _ w _ ([.blk b1 ((replicate 32 (0:UInt8)).map V8) 34]):=H
 refine eN ?_
 refine rG ?_;refine aZ ?_;refine eN ?_
 refine rG ?_;refine B8 ?_;refine lV (z6 DW rfl) ?_;refine B8 ?_;refine eN ?_
 refine qB ?_;repeat refine D9 ?_
 refine Px (fun(i:Nat) (a:Option Nat) (c:Nat)=>[(0,s.v),(4,.pointer (some ⟨b1,0,none⟩)),(5,.slice (hd a) ((fr ps i).length) c),(10,.slice pa pl pc),(11,VI (pl:Int)),(12,VI (i:Int))])
  (fun(i:Nat) (a:Option Nat) (c:Nat) w=>(i<=pl)/\Hp w0 w [] ([.blk b1 ((replicate 32 (0:UInt8)).map V8) 34,.own a ((fr ps i).length) c ((fr ps i).map V8) 5 1]))
  (fun(i:Nat) (a:Option Nat) (c:Nat)=>pl-i) 0 none 0 ⟨rfl,rfl,rfl,rfl,rfl,rfl,zT⟩ ⟨L8 _,(H.nilEnd 5 1)⟩ ?_
 clear H
 rintro i a c τ w ⟨hi,H⟩
 refine rG ?_;refine lV (D1 (a:=(i:Int)) (b:=(pl:Int)) rfl rfl (fun _=>y8)) ?_;refine eN ?_
 by_cases U5:(i:Int)<(pl:Int)
 ·
  repeat refine D9 ?_
  refine cE (by exact bT U5) ?_;refine M5 ?_;refine qB ?_;refine rG ?_;obtain⟨ab3,ao4,iJ⟩:=(H.rd hr (U9 _)).addr (by simp only[J4];omega)
  refine lV (kU i rfl rfl DW iJ zO (by (try simp only[Sl.cut]);omega)) ?_;obtain⟨p6,hp7⟩:∃p,ps[i]? =some p:=⟨_,B6 zO⟩
  have hpok8:=M3 p6 (E2 hp7)
  have hpok8n:=hpok8.ln
  have hpok8m:=hpok8.le
  refine lV (Pq (k:=i) (H.rd hr (U9 _)) iJ rfl DV hp7) ?_;refine aZ ?_;refine eN ?_
  have lT:=Qk ps i p6 hp7
  have hs2:=Qm ps (i+1)
  have hs3:(fr ps (i+1)).length=(fr ps i).length+8+p6.l.length:=by rw[lT];simp[MQ];omega
  refine rG ?_;refine B8 ?_;refine lV (z6 aW rfl) ?_;refine lV (iW (v:=((UInt64.ofNat p6.len).toNat:Int)) Tryz.underlying3 Tryz.underlying35 rfl (GL p6.len zO)) ?_;refine A3 (N3 Tryz.func99 rfl rfl rfl (Qi _ (UInt64.ofNat p6.len) 8 zO zO (.inl rfl)) ?_);rintro _ w ⟨a9,c10,rfl,Hc⟩
  replace H:Hp _ w _ ([_,_,.own a9 8 c10 ((be (UInt64.ofNat p6.len).toNat 8).map V8) 5 1]):=H.call Hc
  clear Hc
  refine B8 ?_;refine lV (cJ rfl rfl) ?_;refine lV (cJ rfl rfl) ?_;refine aZ ?_;refine aZ ?_;refine eN ?_
  refine rG ?_;refine B8 ?_;refine B8 ?_;refine A3 (BN (s:=⟨hd a9,8,c10,be (UInt64.ofNat p6.len).toNat 8⟩) (l':=fr ps i++(be (UInt64.ofNat p6.len).toNat 8)) (len':=(fr ps i).length+8) rfl rfl H (i:=1) rfl eQ Tryz.underlying53 rfl rfl (H.slOwn (i:=2) rfl) zO (fun a11 c12 w H=>?_));replace H:Hp _ w _ ([_,.own a11 ((fr ps i).length+8) c12 ((fr ps i++(be (UInt64.ofNat p6.len).toNat 8)).map V8) 5 1,_]):=H
  refine B8 ?_;refine A3 (BN (s:=p6) (l':=fr ps (i+1)) (len':=(fr ps (i+1)).length) (by rw[lT,Qn _ zO,hpok8n]) zO H (i:=1) rfl eQ Tryz.underlying53 rfl rfl (hpok8.up H (fun _=>U9 _)) zO (fun a13 c14 w H=>?_));replace H:Hp _ w _ ([_,.own a13 ((fr ps (i+1)).length) c14 ((fr ps (i+1)).map V8) 5 1,_]):=H
  refine aZ ?_;refine eN ?_
  refine rG ?_;refine lV (D1 (a:=(i:Int)) (b:=1) rfl rfl (fun _=>Z8 zO zO)) ?_;refine B8 ?_;refine eN ?_
  refine U7 (i+1,a13,c14) ?_ ?_ ?_
  ·exact⟨rfl,rfl,rfl,rfl,rfl,show VI ((i:Int)+1)=VI ((i+1:Nat):Int) from congrArg VI zO,zT⟩
  ·refine⟨?_,?_⟩
   ·try dsimp only
    exact by omega
   exact H.sub (.cons_cons _ (.cons_cons _ (P6 _)))
  show pl-(i+1:Nat)<pl-i;omega
 
 repeat refine D9 ?_
 refine cG (by exact bF U5) ?_;refine W8 ?_;have iL:i=pl:=by omega
 subst iL
 refine rG ?_;refine B8 ?_;refine B8 ?_;refine A3 (N3 Tryz.func100 rfl rfl rfl (Qh _ s ⟨hd a,(fr ps i).length,c,fr ps i⟩ (hs.up H (fun _=>U9 _)) (H.slOwn (i:=1) rfl)) ?_);rintro _ w ⟨rfl,Hc⟩
 replace H:Hp _ w _ ([_,_]):=H.call Hc
 clear Hc
 refine A3 (mX (l':=jL (s.l) (fr ps i)) H (i:=0) rfl rfl rfl iX (show(replicate 32 (0:UInt8)).length=32 from(jR ..)) (show(jL (s.l) (fr ps i)).length=32 from GN _ _) (fun w H=>?_));replace H:Hp _ w _ ([.blk b1 ((jL (s.l) (fr ps i)).map V8) 34,_]):=H
 refine eN ?_
 refine l9 ?_
 refine VK (l:=jL (s.l) (fr ps i)) Tryz.results52 H (i:=0) rfl rfl aU (show(jL (s.l) (fr ps i)).length=32 from GN _ _) ?_
 refine⟨_,rfl,?_⟩
 rw[Ql ps i hl]
 exact⟨rfl,H.sub (P6 _)⟩
theorem WD{t n:Nat}{g:Nat->V}{L:Nat->List UInt8}(H:Wd X X h0 lv 16 w w)(hg:∀i,i<n->∃q,g i=.bl q (L i))(hv:repv X lv 16 (.sl t 1 n g) x):
  ∃a cap,x=.slice a n cap/\∃ps:List Sl,RdS w a (ps.map Sl.v)/\ps.length=n/\(∀p∈ps,p.ok w)/\ps.map Sl.l=(List.range n).map L:=by
 have hq:∀i,∃q,i<n->g i=.bl q (L i):=fun i=>by
  by_cases hi:i<n
  ·obtain⟨q,h⟩:=hg i hi;exact⟨q,fun _=>h⟩
  exact⟨0,fun h=>absurd h hi⟩
 have hq':=fun i=>(hq i).choose_spec
 obtain⟨a,cap,e1,_,_,ps,p1,p2,p3⟩:=Oa (g:=L) (q:=fun i=>(hq i).choose) H ((VEq.sl t 1 n g _ fun i hi=>hq' i hi).repv hv)
 refine⟨a,cap,e1,ps.zipIdx.map fun p=>⟨p.1.1,(L p.2).length,p.1.2,L p.2⟩,?_,by simp[p1],fun p hp=>?_,?_⟩
 ·rw[List.map_map];exact p2
 ·obtain⟨y,y1,rfl⟩:=J3.1 hp
  obtain⟨z,i⟩:=y
  have hz:ps[i]? =some z:=by
   obtain⟨k,hk⟩:=CM y1
   rw[List.getElem?_zipIdx]at hk
   obtain⟨p,z1,z2⟩:=eB.1 hk
   simp only[J2,G5]at z2
   obtain⟨rfl,rfl⟩:=z2
   exact z1
  obtain⟨r1,r2,r3⟩:=p3 i z hz
  exact⟨r3,rfl,r1,by have:maxLen=9223372036854775807:=rfl;simp only;omega⟩
 apply V7
 intro k
 rw[List.map_map,Y5,List.getElem?_zipIdx,Y5]
 by_cases hk:k<n
 ·rw[IN hk,B6 zO];simp
 rw[V6 zO,V6 (by simp;omega)];rfl
theorem WE(k:By)(t t' n:Nat)(g:Nat->V)(L:Nat->By)(hg:∀i,i<n->∃q,g i=.bl q (L i))(hn:n<=1048576)(hB:(o7 ((List.range n).map L)).length<=1048576):
  Sat Tryz.prog 52 [.bl t k,.sl t' 1 n g] [] (fun out A0=>A0=[]/\out=.bs 32 (jL k (o7 ((List.range n).map L)))):=tR fun X w vs h1 h2 H=>by
 obtain⟨x,y,rfl⟩:∃x y,vs=[x,y]:=by
  match vs,h1 with
 |[x,y],_=>exact⟨x,y,rfl⟩
 obtain⟨a,cap,rfl,c1,c2,c3⟩:=xV H (h2 0 _ _ rfl rfl)
 obtain⟨pa,pc,rfl,ps,d1,d2,d3,d4⟩:=WD H hg (h2 1 _ _ rfl rfl)
 have:=Qo w ⟨a,k.length,cap,k⟩ ⟨c3,rfl,c1,by have:maxLen=9223372036854775807:=rfl;simp only;omega⟩ pa n pc ps d1 d2 d3 hn (by rw[d4];exact hB)
 refine this.mono fun v w' ⟨hv,Hk⟩=>⟨⟨_,⟨rfl,rfl⟩,?_⟩,Hk⟩
 rw[hv,d4]
 exact⟨_,rfl,GN _ _,by simp⟩
theorem Qp(t n:Nat)(g:Nat->V)(L:Nat->By)(hg:∀i,i<n->∃q,g i=.bl q (L i))(hn:n<=1048576):
  Sat Tryz.prog 88 [.sl t 1 n g] [] (fun out A0=>A0=[]/\out=.bs 32 (I8 (((List.range n).map L).flatten))):=tR fun X w vs h1 h2 H=>by
 obtain⟨y,rfl⟩:∃y,vs=[y]:=List.length_eq_one_iff.1 h1
 obtain⟨pa,pc,rfl,ps,d1,d2,d3,d4⟩:=WD H hg (h2 0 _ _ rfl rfl)
 have:=Pz w pa n pc ps d1 d2 d3 zO
 refine this.mono fun v w' ⟨hv,Hk⟩=>⟨⟨_,⟨rfl,rfl⟩,?_⟩,Hk⟩
 have e:eT ps=((List.range n).map L).flatten:=by rw[<-d4];simp[eT,List.flatMap]
 rw[hv, <-e]
 exact⟨_,rfl,gQ _,by simp⟩
theorem WF(t t':Nat)(a b:By):Sat Tryz.prog 107 [.bl t a,.bl t' b] [] (fun out A0=>A0=[]/\out=.b (decide (a=b))):=tR fun X w vs h1 h2 H=>by
 obtain⟨x,y,rfl⟩:∃x y,vs=[x,y]:=by
  match vs,h1 with
 |[x,y],_=>exact⟨x,y,rfl⟩
 have mx:maxLen=9223372036854775807:=rfl
 obtain⟨c,cap,rfl,c1,c2,c3⟩:=xV H (h2 0 _ _ rfl rfl)
 obtain⟨d,dap,rfl,d1,d2,d3⟩:=xV H (h2 1 _ _ rfl rfl)
 have:=Qf w ⟨c,a.length,cap,a⟩ ⟨d,b.length,dap,b⟩ ⟨c3,rfl,c1,by simp only;omega⟩ ⟨d3,rfl,d1,by simp only;omega⟩
 refine this.mono fun v w' ⟨hv,Hk⟩=>⟨⟨_,⟨rfl,rfl⟩,?_⟩,Hk⟩
 rw[hv];rfl
theorem Qq(v:Int):Sat Tryz.prog 150 [.i .i64 v] [] (fun out A0=>A0=[]/\(∃x,out=.i .u64 x/\0<=x/\x<18446744073709551616)):=by
 refine cF Tryz.func150 fun X0 w0 hX=>?_
 refine rS 0 fun hv=>?_
 replace hv:=wI hv
 exact xW hX (.i .u64 (u64.wrap ((ofInt 64 (u64.wrap ((u64.wrap v)*2 ^ (min (1:Int).toNat 64)))^^^ofInt 64 (u64.wrap (v.fdiv (2 ^ (min (63:Int).toNat 64))))).toNat:Int))) ⟨rfl,rfl,⟨_,rfl,by first|omega|exact T6 _|exact pR _|(simp[IntKind.wrap,IntKind.bits,IntKind.signed];omega)⟩⟩
theorem MR(v:Int):Sat Tryz.prog 50 [.i .i64 v] [] (fun out A0=>A0=[]/\(∃x,out=.i .u64 x/\0<=x/\x<18446744073709551616)):=by
 refine cF Tryz.func50 fun X0 w0 hX=>?_
 refine rS 0 fun hv=>?_
 replace hv:=wI hv
 refine cB (v<0) (fun h1=>?_) fun h1=>?_
 ·exact xW hX (.i .u64 (u64.wrap ((u64.wrap (2*(u64.wrap (i64.wrap (0-(i64.wrap (v+1)))))))+1))) ⟨rfl,rfl,⟨_,rfl,by first|omega|exact T6 _|exact pR _|(simp[IntKind.wrap,IntKind.bits,IntKind.signed];omega)⟩⟩
 exact xW hX (.i .u64 (u64.wrap (2*(u64.wrap v)))) ⟨rfl,rfl,⟨_,rfl,by first|omega|exact T6 _|exact pR _|(simp[IntKind.wrap,IntKind.bits,IntKind.signed];omega)⟩⟩
theorem MT(v:Int):Sat Tryz.prog 105 [.i .u64 v] [] (fun out A0=>A0=[]/\(∃x,out=.i .i64 x/\ -9223372036854775808<=x/\x<9223372036854775808)):=by
 refine cF Tryz.func105 fun X0 w0 hX=>?_
 refine rS 0 fun hv=>?_
 replace hv:=wU hv
 exact xW hX (.i .i64 (i64.wrap ((ofInt 64 (i64.wrap (v.fdiv (2 ^ (min (1:Int).toNat 64))))^^^ofInt 64 (i64.wrap (0-(i64.wrap (u64.wrap ((ofInt 64 v&&&ofInt 64 1).toNat:Int)))))).toNat:Int))) ⟨rfl,rfl,⟨_,rfl,by first|omega|exact T6 _|exact pR _|(simp[IntKind.wrap,IntKind.bits,IntKind.signed];omega)⟩⟩
theorem MU(v:Int):Sat Tryz.prog 91 [.i .u64 v] [] (fun out A0=>A0=[]/\(∃x,out=.i .i64 x/\ -9223372036854775808<=x/\x<9223372036854775808)):=by
 refine cF Tryz.func91 fun X0 w0 hX=>?_
 refine rS 0 fun hv=>?_
 replace hv:=wU hv
 refine cB ((v.tmod 2)=1) (fun h1=>?_) fun h1=>?_
 ·exact xW hX (.i .i64 (i64.wrap ((i64.wrap (0-(i64.wrap (u64.wrap (v.tdiv 2)))))-1))) ⟨rfl,rfl,⟨_,rfl,by first|omega|exact T6 _|exact pR _|(simp[IntKind.wrap,IntKind.bits,IntKind.signed];omega)⟩⟩
 exact xW hX (.i .i64 (i64.wrap (u64.wrap (v.tdiv 2)))) ⟨rfl,rfl,⟨_,rfl,by first|omega|exact T6 _|exact pR _|(simp[IntKind.wrap,IntKind.bits,IntKind.signed];omega)⟩⟩
theorem Qr{v:Int}(h0:0<=v)(hv:v*128 ^ j<18446744073709551616):v<18446744073709551616:=by
 have hp:(0:Int)<128 ^ j:=Int.pow_pos zO
 have h2:v*1<=v*128 ^ j:=Int.mul_le_mul_of_nonneg_left zO h0
 omega
theorem vD{x:V}{v b:Int}(h:0<=v/\v<18446744073709551616)(hb:b=v / 128)(e:x=.i .u64 (u64.wrap (v.tdiv 128)):=by kernel_rfl):VEq x (.i .u64 b):=.of_eq (by rw[e,hb,Int.tdiv_eq_ediv_of_nonneg h.1,LP zO])
theorem WG(k n:Int)(h:0<n): -n<k.tmod n/\k.tmod n<n:=by
 have h1:=Int.tmod_lt_of_pos k h
 have h2: -(k.tmod n)<n:=by rw[<-Int.neg_tmod];exact Int.tmod_lt_of_pos (-k) h
 exact⟨zO,h1⟩
theorem MV(d:Int):Sat Tryz.prog 69 [.i .i64 d] [] (fun out A0=>A0=[]/\(∃p,out=.b p)):=by
 refine cF Tryz.func69 fun X0 w0 hX=>?_
 refine cB (10<=d) (fun h1=>?_) fun h1=>?_
 ·exact xW hX (.b (decide (d<=17))) ⟨rfl,rfl,⟨_,rfl⟩⟩
 exact xW hX (.b false) ⟨rfl,rfl,⟨_,rfl⟩⟩
theorem WH(d:Int):Sat Tryz.prog 66 [.i .i64 d] [] (fun out A0=>A0=[]/\(∃x e,out=A2 [.i .u8 x,.i .i64 e])):=by
 refine cF Tryz.func66 fun X0 w0 hX=>?_
 refine cB (d=2) (fun h1=>?_) fun h1=>?_
 ·refine O6 (d=2) h1 ?_
  exact xW hX (A2 [.i .u8 1,.i .i64 0]) ⟨rfl,rfl,⟨_,_,rfl⟩⟩
 refine cB (d=4) (fun h2=>?_) fun h2=>?_
 ·refine O6 (d=4) h2 ?_
  exact xW hX (A2 [.i .u8 1,.i .i64 0]) ⟨rfl,rfl,⟨_,_,rfl⟩⟩
 refine cB (d=5) (fun h3=>?_) fun h3=>?_
 ·refine O6 (d=5) h3 ?_
  exact xW hX (A2 [.i .u8 1,.i .i64 0]) ⟨rfl,rfl,⟨_,_,rfl⟩⟩
 refine cB (d=6) (fun h4=>?_) fun h4=>?_
 ·refine O6 (d=6) h4 ?_
  exact xW hX (A2 [.i .u8 1,.i .i64 0]) ⟨rfl,rfl,⟨_,_,rfl⟩⟩
 refine cB (d=9) (fun h5=>?_) fun h5=>?_
 ·exact xW hX (A2 [.i .u8 1,.i .i64 0]) ⟨rfl,rfl,⟨_,_,rfl⟩⟩
 refine cB (d=1) (fun h6=>?_) fun h6=>?_
 ·refine O6 (d=1) h6 ?_
  exact xW hX (A2 [.i .u8 2,.i .i64 0]) ⟨rfl,rfl,⟨_,_,rfl⟩⟩
 refine cB (d=3) (fun h7=>?_) fun h7=>?_
 ·exact xW hX (A2 [.i .u8 2,.i .i64 0]) ⟨rfl,rfl,⟨_,_,rfl⟩⟩
 refine cB (d=7) (fun h8=>?_) fun h8=>?_
 ·refine O6 (d=7) h8 ?_
  exact xW hX (A2 [.i .u8 4,.i .i64 0]) ⟨rfl,rfl,⟨_,_,rfl⟩⟩
 refine cB (d=8) (fun h9=>?_) fun h9=>?_
 ·exact xW hX (A2 [.i .u8 4,.i .i64 0]) ⟨rfl,rfl,⟨_,_,rfl⟩⟩
 refine cK [] (MV d) ?_
 rintro out A0 ⟨rfl,⟨pr0,rfl⟩⟩
 refine cb (pr0) (fun J7=>?_) fun J7=>?_
 ·exact xW hX (A2 [.i .u8 8,.i .i64 0]) ⟨rfl,rfl,⟨_,_,rfl⟩⟩
 exact xW hX (A2 [.i .u8 0,.i .i64 1]) ⟨rfl,rfl,⟨_,_,rfl⟩⟩
theorem WI(a b:Int):Sat Tryz.prog 68 [.i .u8 a,.i .u8 b] [] (fun out A0=>A0=[]/\(∃p,out=.b p)):=by
 refine cF Tryz.func68 fun X0 w0 hX=>?_
 exact xW hX (.b (decide ((u8.wrap ((ofInt 8 b &&& ~~~ ofInt 8 a).toNat:Int))=0))) ⟨rfl,rfl,⟨_,rfl⟩⟩
theorem Qt(a b:Int):Sat Tryz.prog 110 [.i .u8 a,.i .u8 b] [] (fun out A0=>A0=[]/\(∃x,out=.i .u8 x/\0<=x/\x<256)):=by
 refine cF Tryz.func110 fun X0 w0 hX=>?_
 exact xW hX (.i .u8 (u8.wrap ((ofInt 8 a&&&ofInt 8 b).toNat:Int))) ⟨rfl,rfl,⟨_,rfl,UB _⟩⟩
theorem WJ(k n:Int)(hk: -9223372036854775808<=k/\k<9223372036854775808)(hn:0<=n/\n<1000000):Sat Tryz.prog 34 [.i .i64 k,.i .i64 n] [] (fun out A0=>A0=[]/\(∃x,out=.i .i64 x/\0<=x/\(0<n->x<n)/\x<1000000)):=by
 have hm:=WG k n
 refine cF Tryz.func34 fun X0 w0 hX=>?_
 refine cB (n<1) (fun h1=>?_) fun h1=>?_
 ·exact xW hX (.i .i64 0) ⟨rfl,rfl,⟨_,rfl,by first|omega|(rw[N4 zO];omega),fun _=>by first|omega|(rw[N4 zO];omega),by first|omega|(rw[N4 zO];omega)⟩⟩
 refine cC (n≠(0:Int)) ?_
 refine cB ((k.tmod n)<0) (fun h2=>?_) fun h2=>?_
 ·exact xW hX (.i .i64 (i64.wrap ((k.tmod n)+n))) ⟨rfl,rfl,⟨_,rfl,by first|omega|(rw[N4 zO];omega),fun _=>by first|omega|(rw[N4 zO];omega),by first|omega|(rw[N4 zO];omega)⟩⟩
 exact xW hX (.i .i64 (k.tmod n)) ⟨rfl,rfl,⟨_,rfl,by first|omega|(rw[N4 zO];omega),fun _=>by first|omega|(rw[N4 zO];omega),by first|omega|(rw[N4 zO];omega)⟩⟩
theorem Qu(b:By)(v:Int)(n:Nat)(hb:b.length<1000000)(hn:n<1000):Sat Tryz.prog 97 [.bl 0 b,.i .u64 v,.i .i64 (n:Int)] [] (fun out A0=>∃l e,out=A2 [.bl 2 l,.i .i64 e]/\A0=[2]/\l.length<=b.length+8/\(e=0\/e=1\/e=2)):=by
 refine cF Tryz.func97 fun X0 w0 hX=>?_
 refine rS 1 fun hv=>?_
 replace hv:=wU hv
 refine cB ((n:Int)<1) (fun h1=>?_) fun h1=>?_
 ·exact xW hX (A2 [.bl 2 [],.i .i64 1]) ⟨rfl,_,_,rfl,rfl,by first|omega|(simp;done)|(simp;omega),by simp⟩
 refine cB (8<(n:Int)) (fun h2=>?_) fun h2=>?_
 ·exact xW hX (A2 [.bl 2 [],.i .i64 1]) ⟨rfl,_,_,rfl,rfl,by first|omega|(simp;done)|(simp;omega),by simp⟩
 refine cM hX (fun(p:Nat×By×Int)=>[(0,.bl 0 b),(1,.i .u64 p.2.2),(2,.i .i64 (n:Int)),(8,.bl 2 p.2.1),(9,.i .i64 (p.1:Int))]) (fun(p:Nat×By×Int)=>[]) (fun(p:Nat×By×Int)=>p.1<=n/\n<=8/\p.2.1.length=p.1/\0<=p.2.2/\p.2.2<18446744073709551616) (fun(p:Nat×By×Int)=>n-p.1) [2] 656 (0,[],v) ⟨by simp,zO,by simp,hv.1,hv.2⟩ ?_
 rintro⟨k,l,x⟩ hI R hR
 dsimp only at hI
 refine cB ((k:Int)<(n:Int)) (fun h3=>?_) fun h3=>?_
 ·refine cC (([UInt8.ofNat ((u8.wrap (x.tmod 256))).toNat].length+l.length)*1<=140737488355328) ?_ bw
  exact cA hX (hR (k+1,([UInt8.ofNat ((u8.wrap (x.tmod 256))).toNat]++l),(u64.wrap (x.tdiv 256))) ⟨by dsimp only;omega,hI.2.1,by simp;omega,T6 _⟩ (by dsimp only;omega)) (hS:=⟨v0,v0,v0,v0,(vS zO),zT⟩)
 refine cB (0<x) (fun h4=>?_) fun h4=>?_
 ·exact xW hX (A2 [.bl 2 [],.i .i64 2]) ⟨rfl,_,_,rfl,rfl,by first|omega|(simp;done)|(simp;omega),by simp⟩
 refine cC ((([]:By).length+b.length)*1<=140737488355328) ?_ bd
 refine cC ((([]++b).length+l.length)*1<=140737488355328) ?_ bd;exact xW hX (A2 [.bl 2 (([]++b)++l),.i .i64 0]) ⟨rfl,_,_,rfl,rfl,by first|omega|(simp;done)|(simp;omega),by simp⟩
theorem MW(b:By)(v:Int)(hb:b.length<1000000):Sat Tryz.prog 98 [.bl 0 b,.i .u64 v] [] (fun out A0=>∃l,out=.bl 2 l/\A0=[2]/\l.length<=b.length+11):=by
 refine cF Tryz.func98 fun X0 w0 hX=>?_
 refine rS 1 fun hv=>?_
 replace hv:=wU hv
 refine cC ((([]:By).length+b.length)*1<=140737488355328) ?_ bd;refine cM hX (fun(p:By×Int×Nat)=>[(1,.i .u64 p.2.1),(5,.bl 2 p.1)]) (fun(p:By×Int×Nat)=>[]) (fun(p:By×Int×Nat)=>p.1.length<=b.length+p.2.2/\0<=p.2.1/\p.2.1*128 ^ p.2.2<18446744073709551616/\p.2.2<=9) (fun(p:By×Int×Nat)=>p.2.1.toNat) [2] 336 (b,v,0) ⟨by simp,hv.1,by simpa using hv.2,by simp⟩ ?_;rintro⟨l,v,j⟩ hI R hR
 dsimp only at hI
 refine cB (128<=v) (fun h1=>?_) fun h1=>?_
 ·have hc:=VD (v:=v) (j:=j) zO hI.2.2.1
  have hj:=hc.1
  refine cC ((l.length+[UInt8.ofNat ((u8.wrap (u64.wrap ((v.tmod 128)+128)))).toNat].length)*1<=140737488355328) ?_ bw;exact cA hX (hR ((l++[UInt8.ofNat ((u8.wrap (u64.wrap ((v.tmod 128)+128)))).toNat]),v / 128,j+1) ⟨by simp only[C9,x4];omega,hc.2.1,hc.2.2,by dsimp only;omega⟩ (by dsimp only;omega)) (hS:=⟨(vD (v:=v) ⟨hI.2.1,Qr hI.2.1 hI.2.2.1⟩ rfl),v0,zT⟩)
 refine cC ((l.length+[UInt8.ofNat ((u8.wrap v)).toNat].length)*1<=140737488355328) ?_ bw
 exact xW hX (.bl 2 (l++[UInt8.ofNat ((u8.wrap v)).toNat])) ⟨rfl,_,rfl,rfl,by simp only[C9,x4];omega⟩
theorem yE(v:Int):Sat Tryz.prog 48 [.i .u64 v] [] (fun out A0=>∃l,out=.bl 2 l/\A0=[2]/\l.length<=8):=by
 refine cF Tryz.func48 fun X0 w0 hX=>?_
 refine rS 0 fun hv=>?_
 replace hv:=wU hv
 refine cK [] ((Qu [] v 8 bd bd).full (ins':=[.bl 1 [],.i .u64 v,.i .i64 8])) ?_;rintro out A0 ⟨N7,pe0,rfl,rfl,bO,hq0⟩
 exact xW hX (.bl 2 N7) ⟨rfl,_,rfl,rfl,by have h:=bO;simp at h;omega⟩
theorem Qv(b:By)(a n:Int)(hb:b.length<1000000)(ha:0<=a/\a<1000000)(hn:0<=n/\n<1000):Sat Tryz.prog 143 [.bl 0 b,.i .i64 a,.i .i64 n] [] (fun out A0=>A0=[]/\(∃x e,out=A2 [.i .u64 x,.i .i64 e]/\0<=x/\x<18446744073709551616/\(e=0\/e=1\/e=3))):=by
 refine cF Tryz.func143 fun X0 w0 hX=>?_
 refine cB (n<1) (fun h1=>?_) fun h1=>?_
 ·exact xW hX (A2 [.i .u64 0,.i .i64 1]) ⟨rfl,rfl,⟨_,_,rfl,zO,zO,by simp⟩⟩
 refine cB (8<n) (fun h2=>?_) fun h2=>?_
 ·exact xW hX (A2 [.i .u64 0,.i .i64 1]) ⟨rfl,rfl,⟨_,_,rfl,zO,zO,by simp⟩⟩
 refine cB (a<0) (fun h3=>?_) fun h3=>?_
 ·exact xW hX (A2 [.i .u64 0,.i .i64 1]) ⟨rfl,rfl,⟨_,_,rfl,zO,zO,by simp⟩⟩
 refine cB ((b.length:Int)<a) (fun h4=>?_) fun h4=>?_
 ·exact xW hX (A2 [.i .u64 0,.i .i64 3]) ⟨rfl,rfl,⟨_,_,rfl,zO,zO,by simp⟩⟩
 refine cB ((i64.wrap ((b.length:Int)-a))<n) (fun h5=>?_) fun h5=>?_
 ·exact xW hX (A2 [.i .u64 0,.i .i64 3]) ⟨rfl,rfl,⟨_,_,rfl,zO,zO,by simp⟩⟩
 refine cM hX (fun(p:Nat×Int)=>[(0,.bl 0 b),(1,.i .i64 a),(2,.i .i64 n),(8,.i .u64 p.2),(9,.i .i64 (p.1:Int))]) (fun(p:Nat×Int)=>[]) (fun(p:Nat×Int)=>((p.1:Nat):Int)<=n/\0<=p.2/\p.2<18446744073709551616) (fun(p:Nat×Int)=>n.toNat-p.1) [] 1680 (0,0) ⟨by simp;omega,by simp,by simp⟩ ?_
 rintro⟨k,x⟩ hI R hR
 dsimp only at hI
 refine cB ((k:Int)<n) (fun h6=>?_) fun h6=>?_
 ·refine cC ((0:Int)<=(i64.wrap (a+(k:Int)))/\(i64.wrap (a+(k:Int)))<(b.length:Int)) ?_ bw
  exact cA hX (hR (k+1,(u64.wrap ((u64.wrap (x*256))+(u64.wrap ((b.getD (((i64.wrap (a+(k:Int)))).toNat) 0).toNat:Int))))) ⟨by dsimp only;omega,T6 _⟩ (by dsimp only;omega)) (hS:=⟨v0,v0,v0,v0,(vS bd),zT⟩)
 exact xW hX (A2 [.i .u64 x,.i .i64 0]) ⟨rfl,rfl,⟨_,_,rfl,zO,zO,by simp⟩⟩
theorem WK(b s:By)(hb:b.length<900000)(hs:s.length<1000000):Sat Tryz.prog 49 [.bl 0 b,.bl 0 s] [] (fun out A0=>∃l e,out=A2 [.bl 2 l,.i .i64 e]/\A0=[2]/\l.length<=b.length+s.length+11/\(e=0\/e=2)):=by
 refine cF Tryz.func49 fun X0 w0 hX=>?_
 refine cB (65536<(s.length:Int)) (fun h1=>?_) fun h1=>?_
 ·exact xW hX (A2 [.bl 2 [],.i .i64 2]) ⟨rfl,_,_,rfl,rfl,bd,by simp⟩
 refine cK [] (MW b (u64.wrap (s.length:Int)) bd) ?_
 rintro out A0 ⟨l0,rfl,rfl,aP⟩
 refine cC ((l0.length+s.length)*1<=140737488355328) ?_;exact xW hX (A2 [.bl 2 (l0++s),.i .i64 0]) ⟨rfl,_,_,rfl,rfl,bd,by simp⟩
theorem WL(b:By)(hb:b.length<1000000):Sat Tryz.prog 146 [.bl 0 b] [] (fun out A0=>A0=[]/\(∃v a e,out=A2 [.i .u64 v,.i .i64 a,.i .i64 e]/\(0<=v/\v<18446744073709551616)/\(0<=a/\a<=b.length)/\(e=0\/e=3\/e=4))):=by
 refine cF Tryz.func146 fun X0 w0 hX=>?_
 refine cM hX (fun(p:Nat×Int×Int)=>[(0,.bl 0 b),(5,.i .u64 p.2.1),(6,.i .u64 p.2.2),(7,.i .i64 (p.1:Int))]) (fun(p:Nat×Int×Int)=>[]) (fun(p:Nat×Int×Int)=>p.1<=b.length/\0<=p.2.1/\p.2.1<18446744073709551616) (fun(p:Nat×Int×Int)=>b.length-p.1) [] 400 (0,0,1) ⟨by simp,by simp,by simp⟩ ?_;rintro⟨k,x,u⟩ hI R hR
 dsimp only at hI
 refine cB ((k:Int)<(b.length:Int)) (fun h1=>?_) fun h1=>?_
 ·refine cC ((0:Int)<=(k:Int)/\(k:Int)<(b.length:Int)) ?_
  refine cB ((k:Int)=9) (fun h2=>?_) fun h2=>?_
  ·refine cB (1<(u64.wrap ((b.getD k 0).toNat:Int))) (fun h3=>?_) fun h3=>?_
   ·exact xW hX (A2 [.i .u64 0,.i .i64 0,.i .i64 4]) ⟨rfl,rfl,⟨_,_,_,rfl,bw,bw,by simp⟩⟩
   refine cB ((u64.wrap ((b.getD k 0).toNat:Int))<128) (fun h4=>?_) fun h4=>?_
   ·refine cB ((u64.wrap ((b.getD k 0).toNat:Int))=0) (fun h5=>?_) fun h5=>?_
    ·refine cB (0<(k:Int)) (fun h6=>?_) fun h6=>?_
     ·exact xW hX (A2 [.i .u64 0,.i .i64 0,.i .i64 4]) ⟨rfl,rfl,⟨_,_,_,rfl,bw,bw,by simp⟩⟩
     exact xW hX (A2 [.i .u64 (u64.wrap (x+(u64.wrap ((u64.wrap ((b.getD k 0).toNat:Int))*u)))),.i .i64 (i64.wrap ((k:Int)+1)),.i .i64 0]) ⟨rfl,rfl,⟨_,_,_,rfl,bw,bw,by simp⟩⟩
    exact xW hX (A2 [.i .u64 (u64.wrap (x+(u64.wrap ((u64.wrap ((b.getD k 0).toNat:Int))*u)))),.i .i64 (i64.wrap ((k:Int)+1)),.i .i64 0]) ⟨rfl,rfl,⟨_,_,_,rfl,bw,bw,by simp⟩⟩
   exact cA hX (hR (k+1,(u64.wrap (x+(u64.wrap ((u64.wrap ((u64.wrap ((b.getD k 0).toNat:Int))-128))*u)))),(u64.wrap (u*128))) ⟨by dsimp only;omega,T6 _⟩ (by dsimp only;omega)) (hS:=⟨v0,v0,v0,(vS bd),zT⟩)
  refine cB ((u64.wrap ((b.getD k 0).toNat:Int))<128) (fun h7=>?_) fun h7=>?_
  ·refine cB ((u64.wrap ((b.getD k 0).toNat:Int))=0) (fun h8=>?_) fun h8=>?_
   ·refine cB (0<(k:Int)) (fun h9=>?_) fun h9=>?_
    ·exact xW hX (A2 [.i .u64 0,.i .i64 0,.i .i64 4]) ⟨rfl,rfl,⟨_,_,_,rfl,bw,bw,by simp⟩⟩
    exact xW hX (A2 [.i .u64 (u64.wrap (x+(u64.wrap ((u64.wrap ((b.getD k 0).toNat:Int))*u)))),.i .i64 (i64.wrap ((k:Int)+1)),.i .i64 0]) ⟨rfl,rfl,⟨_,_,_,rfl,bw,bw,by simp⟩⟩
   exact xW hX (A2 [.i .u64 (u64.wrap (x+(u64.wrap ((u64.wrap ((b.getD k 0).toNat:Int))*u)))),.i .i64 (i64.wrap ((k:Int)+1)),.i .i64 0]) ⟨rfl,rfl,⟨_,_,_,rfl,bw,bw,by simp⟩⟩
  exact cA hX (hR (k+1,(u64.wrap (x+(u64.wrap ((u64.wrap ((u64.wrap ((b.getD k 0).toNat:Int))-128))*u)))),(u64.wrap (u*128))) ⟨by dsimp only;omega,T6 _⟩ (by dsimp only;omega)) (hS:=⟨v0,v0,v0,(vS bd),zT⟩)
 exact xW hX (A2 [.i .u64 0,.i .i64 0,.i .i64 3]) ⟨rfl,rfl,⟨_,_,_,rfl,bw,bw,by simp⟩⟩
theorem Qw(b:By)(hb:b.length<1000000):Sat Tryz.prog 145 [.bl 0 b] [] (fun out A0=>∃l a e,out=A2 [.bl 2 l,.i .i64 a,.i .i64 e]/\A0=[2]/\(0<=a/\a<=b.length)/\l.length<=b.length):=by
 refine cF Tryz.func145 fun X0 w0 hX=>?_
 refine cK [] (WL b bd) ?_;rintro out A0 ⟨rfl,⟨l5,Q4,bY,rfl,rE⟩⟩
 refine cB (bY≠0) (fun h1=>?_) fun h1=>?_
 ·exact xW hX (A2 [.bl 2 [],.i .i64 0,.i .i64 bY]) ⟨rfl,_,_,_,rfl,rfl,bw,by first|(simp;done)|(simp only[F6,K5];omega)|(simp;omega)⟩
 refine cB (65536<l5) (fun h2=>?_) fun h2=>?_
 ·exact xW hX (A2 [.bl 2 [],.i .i64 0,.i .i64 2]) ⟨rfl,_,_,_,rfl,rfl,bw,by first|(simp;done)|(simp only[F6,K5];omega)|(simp;omega)⟩
 refine cB ((i64.wrap ((b.length:Int)-Q4))<(i64.wrap l5)) (fun h3=>?_) fun h3=>?_
 ·exact xW hX (A2 [.bl 2 [],.i .i64 0,.i .i64 3]) ⟨rfl,_,_,_,rfl,rfl,bw,by first|(simp;done)|(simp only[F6,K5];omega)|(simp;omega)⟩
 refine cC ((0:Int)<=Q4/\Q4<=(i64.wrap (Q4+(i64.wrap l5)))/\(i64.wrap (Q4+(i64.wrap l5)))<=(b.length:Int)) ?_ bw
 refine cC ((([]:By).length+((b.drop ((Q4).toNat)).take (((i64.wrap (Q4+(i64.wrap l5)))).toNat-(Q4).toNat)).length)*1<=140737488355328) ?_ bw;exact xW hX (A2 [.bl 2 ([]++((b.drop ((Q4).toNat)).take (((i64.wrap (Q4+(i64.wrap l5)))).toNat-(Q4).toNat))),.i .i64 (i64.wrap (Q4+(i64.wrap l5))),.i .i64 0]) ⟨rfl,_,_,_,rfl,rfl,bw,by first|(simp;done)|(simp only[F6,K5];omega)|(simp;omega)⟩
theorem tZ(b:By)(hb:b.length<=1000000):Sat Tryz.prog 60 [.bl 0 b] [] (fun out A0=>out=.bl 2 b/\A0=[2]):=by
 refine cF Tryz.func60 fun X0 w0 hX=>?_
 refine c0 (b.length) (fun h1=>?_) ?_
 ·obtain rfl:=j7.1 h1
  exact xW hX (.bl 2 []) ⟨rfl,rfl,rfl⟩
 refine cC ((([]:By).length+b.length)*1<=140737488355328) ?_ bd
 exact xW hX (.bl 2 ([]++b)) ⟨rfl,rfl,rfl⟩
theorem MX(b:By)(v:Int)(hb:b.length<1000000):Sat Tryz.prog 102 [.bl 0 b,.i .i64 v] [] (fun out A0=>∃l,out=.bl 2 l/\A0=[2]/\l.length<=b.length+8):=by
 refine cF Tryz.func102 fun X0 w0 hX=>?_
 refine cK [] (Qq v) ?_;rintro out A0 ⟨rfl,⟨zz0,rfl,x7⟩⟩
 refine cK [] (mW b zz0 8 bd bd) ?_;rintro out A0 ⟨lY,pe1,rfl,rfl,hp1,hq1⟩
 exact xW hX (.bl 2 lY) ⟨rfl,_,rfl,rfl,by assumption⟩
theorem WM(r u:Int):Sat Tryz.prog 153 [A1 [.i .u8 r,.i .i64 u]] [] (fun out A0=>∃l,out=.bl 2 l/\A0=[2]/\l.length<=9):=by
 refine cF Tryz.func153 fun X0 w0 hX=>?_
 refine cK [] ((MX [UInt8.ofNat (r).toNat] u bd).full (ins':=[.bl 1 [UInt8.ofNat (r).toNat],.i .i64 u])) ?_;rintro out A0 ⟨cl0,rfl,rfl,vR⟩
 exact xW hX (.bl 2 cl0) ⟨rfl,_,rfl,rfl,by simp at *;omega⟩
structure Cav where
 r:Int
 u:Int
structure Tok where
 serial:Int
 tenant:By
 rights:Int
 «from»:Int
 «until»:Int
 cavs:List Cav
 tag:By
instance:Inhabited Cav:=⟨⟨0,0⟩⟩
def bD(c:Cav):V:=A1 [.i .u8 c.r,.i .i64 c.u]
def G1(t:Tok):V:=A1 [.i .u64 t.serial,.s t.tenant,.i .u8 t.rights,.i .i64 t.from,.i .i64 t.until,Mv 2 bD t.cavs,.bs 32 t.tag]
theorem GO(t:Tok)(ht:t.tenant.length<1000000)(hc:t.cavs.length<1000000):Sat Tryz.prog 51 [G1 t] [] (fun out A0=>A0=[]/\(∃p,out=.b p)):=by
 refine cF Tryz.func51 fun X0 w0 hX=>?_
 refine cN (t.tenant=[]) (fun h1=>?_) fun h1=>?_
 ·refine cK [] (BL t.tenant bd) ?_
  rintro out A0 ⟨rfl,⟨pn0,rfl,l6⟩⟩
  refine cn (pn0) (fun h2=>?_) fun h2=>?_
  ·exact xW hX (.b false) ⟨rfl,rfl,⟨_,rfl⟩⟩
  refine cK [] (BM t.rights) ?_
  rintro out A0 ⟨rfl,⟨pk1,rfl⟩⟩
  refine cn (pk1) (fun h3=>?_) fun h3=>?_
  ·exact xW hX (.b false) ⟨rfl,rfl,⟨_,rfl⟩⟩
  refine cB (8<(t.cavs.length:Int)) (fun h4=>?_) fun h4=>?_
  ·exact xW hX (.b false) ⟨rfl,rfl,⟨_,rfl⟩⟩
  refine cM hX (fun(k:Nat)=>[(27,B4 0 2 bD t.cavs),(28,.i .i64 (t.cavs.length:Int)),(29,.i .i64 (k:Int))]) (fun(k:Nat)=>[]) (fun(k:Nat)=>k<=t.cavs.length) (fun(k:Nat)=>t.cavs.length-k) [] 1744 0 (by simp) ?_
  rintro k hI R hR
  refine cB ((k:Int)<(t.cavs.length:Int)) (fun h5=>?_) fun h5=>?_
  ·refine cC ((0:Int)<=(k:Int)/\(k:Int)<(t.cavs.length:Int)) ?_
   refine cK [] (BM ((t.cavs.getD k default).r)) ?_;rintro out A0 ⟨rfl,⟨pk2,rfl⟩⟩
   refine cn (pk2) (fun h6=>?_) fun h6=>?_
   ·exact xW hX (.b false) ⟨rfl,rfl,⟨_,rfl⟩⟩
   exact cA hX (hR (k+1) zO zO) (hS:=⟨v0,v0,vS,zT⟩)
  exact xW hX (.b true) ⟨rfl,rfl,⟨_,rfl⟩⟩
 refine cK [] (BM t.rights) ?_
 rintro out A0 ⟨rfl,⟨pk3,rfl⟩⟩
 refine cn (pk3) (fun h7=>?_) fun h7=>?_
 ·exact xW hX (.b false) ⟨rfl,rfl,⟨_,rfl⟩⟩
 refine cB (8<(t.cavs.length:Int)) (fun h8=>?_) fun h8=>?_
 ·exact xW hX (.b false) ⟨rfl,rfl,⟨_,rfl⟩⟩
 refine cM hX (fun(k:Nat)=>[(27,B4 0 2 bD t.cavs),(28,.i .i64 (t.cavs.length:Int)),(29,.i .i64 (k:Int))]) (fun(k:Nat)=>[]) (fun(k:Nat)=>k<=t.cavs.length) (fun(k:Nat)=>t.cavs.length-k) [] 1744 0 (by simp) ?_
 rintro k hI R hR
 refine cB ((k:Int)<(t.cavs.length:Int)) (fun h9=>?_) fun h9=>?_
 ·refine cC ((0:Int)<=(k:Int)/\(k:Int)<(t.cavs.length:Int)) ?_
  refine cK [] (BM ((t.cavs.getD k default).r)) ?_;rintro out A0 ⟨rfl,⟨pk4,rfl⟩⟩
  refine cn (pk4) (fun J7=>?_) fun J7=>?_
  ·exact xW hX (.b false) ⟨rfl,rfl,⟨_,rfl⟩⟩
  exact cA hX (hR (k+1) zO zO) (hS:=⟨v0,v0,vS,zT⟩)
 exact xW hX (.b true) ⟨rfl,rfl,⟨_,rfl⟩⟩
theorem MY(t:Tok)(ht:t.tenant.length<500000):Sat Tryz.prog 53 [G1 t] [] (fun out A0=>∃l,out=.bl 2 l/\A0=[2]/\l.length<=t.tenant.length+40):=by
 refine cF Tryz.func53 fun X0 w0 hX=>?_
 refine cK [] ((mW [] t.serial 8 bd bd).full (ins':=[.bl 1 [],.i .u64 t.serial,.i .i64 8])) ?_;rintro out A0 ⟨N7,pe0,rfl,rfl,bO,hq0⟩
 have bO:N7.length<=8:=by simpa using bO
 refine cK [] (tV N7 t.tenant bd bd) ?_;rintro out A0 ⟨xl1,xe1,rfl,rfl,hx1,hy1⟩
 refine cC ((xl1.length+[UInt8.ofNat (t.rights).toNat].length)*1<=140737488355328) ?_ bd;refine cK [] (MX (xl1++[UInt8.ofNat (t.rights).toNat]) t.from bd) ?_;rintro out A0 ⟨cl2,rfl,rfl,U5⟩
 simp only[C9,x4]at U5
 refine cK [] (MX cl2 t.until bd) ?_;rintro out A0 ⟨cl3,rfl,rfl,hc3⟩
 exact xW hX (.bl 2 cl3) ⟨rfl,_,rfl,rfl,by first|omega|(simp at *;omega)⟩
theorem MZ(t:Tok)(hc:t.cavs.length<1000000):Sat Tryz.prog 67 [G1 t] [] (fun out A0=>A0=[]/\(∃r u,out=A2 [.i .u8 r,.i .i64 u])):=by
 refine cF Tryz.func67 fun X0 w0 hX=>?_
 refine cM hX (fun(p:Nat×Int×Int)=>[(4,.i .u8 p.2.1),(5,.i .i64 p.2.2),(13,B4 0 2 bD t.cavs),(14,.i .i64 (t.cavs.length:Int)),(15,.i .i64 (p.1:Int))]) (fun(p:Nat×Int×Int)=>[]) (fun(p:Nat×Int×Int)=>p.1<=t.cavs.length) (fun(p:Nat×Int×Int)=>t.cavs.length-p.1) [] 848 (0,t.rights,t.until) (by simp) ?_;rintro⟨k,r,u⟩ hI R hR
 dsimp only at hI
 refine cB ((k:Int)<(t.cavs.length:Int)) (fun h1=>?_) fun h1=>?_
 ·refine cC ((0:Int)<=(k:Int)/\(k:Int)<(t.cavs.length:Int)) ?_
  refine cK [] (Qt r ((t.cavs.getD k default).r)) ?_;rintro out A0 ⟨rfl,⟨mr0,rfl,l4,vL⟩⟩
  exact cA hX (hR (k+1,mr0,(if (t.cavs.getD k default).u<u then (t.cavs.getD k default).u else u)) (by dsimp only;omega) (by dsimp only;omega)) (hS:=⟨v0,v0,v0,v0,(vS bd),zT⟩)
 exact xW hX (A2 [.i .u8 r,.i .i64 u]) ⟨rfl,rfl,⟨_,_,rfl⟩⟩
theorem Qx{a:Addr}{v:Value}(h:w.cell? a=some v):(load a).run P w=.ok v w:=by simp[load,Sem.run,h]
theorem WN{P:Program}{w:World}{b:Nat}{C:Array Value}{T fr}(hb:w.heap[b]? =some (.cells C T fr)):∀(l:List UInt8) (o:Nat) (K8:ByteArray),(∀i v,(l.map E9)[i]? =some v->C[o+i]? =some v)->
  (Extern.Bytes.loadBytes ⟨b,o,none⟩ l.length K8).run P w=.ok ⟨(K8.data.toList++l).toArray⟩ w
|[],o,K8,_=>by simp[Extern.Bytes.loadBytes]
|c::l,o,K8,h=>by
  have h0:C[o]? =some (E9 c):=by simpa using h 0 (E9 c) (by simp)
  have hc:w.cell? ⟨b,o,none⟩=some (E9 c):=by simp[World.cell?, hb,h0]
  have ih:=WN (P:=P) hb l (o+1) (K8.push c) (fun i v hv=>by
   have:=h (i+1) v (by simpa using hv)
   rw[show o+1+i=o+(i+1) by omega];exact this)
  rw[I4,Extern.Bytes.loadBytes]
  simp only[D0,Qx hc,F5,E9]
  have e1:((c.toNat:Int)).toNat.toUInt8=c:=by simp
  rw[e1]
  have e2:(⟨b,o,none⟩:Addr).add 1=⟨b,o+1,none⟩:=rfl
  rw[e2,ih]
  simp[ByteArray.push]
theorem WO{a:Option Addr}{l:By}(hs:RdS w a (l.map E9)):(Extern.Bytes.bytesOf (.slice a l.length cap)).run P w=.ok ⟨l.toArray⟩ w:=by
 rcases hs with h|⟨b,o,C,T,fr,ha,hb,hc⟩
 ·have h0:l=[]:=by simpa using h
  subst h0
  cases a with
 |none=>simp[Extern.Bytes.bytesOf];rfl
 |some a=>simp[Extern.Bytes.bytesOf,Extern.Bytes.loadBytes];rfl
 rw[ha]
 have:=WN (P:=P) hb l o .empty hc
 simpa [Extern.Bytes.bytesOf] using this
theorem WP:∀a b:By,Lib.compareBytes a b= -1\/Lib.compareBytes a b=0\/Lib.compareBytes a b=1
|[],[]=>.inr (.inl rfl)
|[],_::_=>.inl rfl
|_::_,[]=>.inr (.inr rfl)
|x::a,y::b=>by
  rw[Lib.compareBytes]
  split
  ·exact .inl rfl
  split
  ·exact .inr (.inr rfl)
  exact WP a b
theorem Qy(he:O5 P e=true){xs:Array Value}{off:Nat}{v:Value}(hx:xs[off]? =some v):(part e xs off).run P w=.ok v w:=by simp[part,oK he,hx]
open Go.Proofs in
set_option maxHeartbeats 1000000 in
theorem WQ(t t':Nat)(a b:By):Sat Tryz.prog 72 [.bl t a,.bl t' b] [] (fun out A0=>A0=[]/\out=.i .i64 (Lib.compareBytes a b)):=tR fun X w vs h1 h2 H=>by
 obtain⟨x,y,rfl⟩:∃x y,vs=[x,y]:=by
  match vs,h1 with
 |[x,y],_=>exact⟨x,y,rfl⟩
 obtain⟨c,cap,rfl,c1,c2,c3⟩:=xV H (h2 0 _ _ rfl rfl)
 obtain⟨d,dap,rfl,d1,d2,d3⟩:=xV H (h2 1 _ _ rfl rfl)
 have hc:(Extern.BytealgCompare.compare #[.slice c a.length cap,.slice d b.length dap]).run Tryz.prog w=.ok (.int .i64 (Lib.compareBytes a b)) w:=by
  change Sem.run Tryz.prog (do pure (goInt (Extern.BytealgCompare.cmp (<-Extern.Bytes.bytesOf (.slice c a.length cap)) (<-Extern.Bytes.bytesOf (.slice d b.length dap))))) w=_
  simp only[D0,WO c3,WO d3,F5,hP,Lib.cmp_eq]
  rfl
 have hh:Calls Tryz.prog 72 #[.slice c a.length cap,.slice d b.length dap] w fun e w'=>e=.returned (VI (Lib.compareBytes a b))/\w'=w:=by
  go_enter Tryz.func72,Tryz.ntmps72
  go_wp2
  rw[run_callFunc_extern Tryz.func111 zK zK zK (e:=Extern.BytealgCompare.compare) zK,hc]
  simp only[Result.andThen]
  rw[CK]
  go_wp2
  go_ret
  exact⟨rfl,rfl⟩
 refine x5 hh fun e w' ⟨he,hw⟩=>⟨_,he,⟨_,⟨rfl,rfl⟩,rfl,?_⟩,?_⟩
 ·rcases WP a b with h|h|h<;>rw[h]<;>decide
 subst hw;exact Hp.refl _ _
theorem gS:KeyT Tryz.prog 34 where
 chk e k hk w:=by
  obtain⟨i,hi⟩:∃i,Tryz.prog.info? 5=some i:=info_of_underlying (by kernel_rfl:Tryz.prog.underlying 5=some (.int .u8))
  have hs:Tryz.prog.cellsOf 5=1:=by kernel_rfl
  show(Instr.checkKey e (9998+1+1) 34 (.agg (k.map E9).toArray)).run Tryz.prog w=.ok () w
  rw[Instr.checkKey]
  simp only[D0,run_underlying (by kernel_rfl:Tryz.prog.underlying 34=some (.array 32 5)),F5]
  simp only[Std.Legacy.Range.forIn_eq_forIn_range',Std.Legacy.Range.size,qH,Nat.add_one_sub_one,Nat.div_one]
  have vY:∀j∈List.range' 0 32,j<32:=by intro j hj;simpa using hj
  generalize List.range' 0 32=is at vY
  induction is with
 |nil=>simp
 |cons j is ih=>
   have hj:=vY j (by simp)
   have p1:(part 5 (k.map E9).toArray (j*Tryz.prog.cellsOf 5)).run Tryz.prog w=.ok (E9 (k.getD j 0)) w:=by
    rw[hs,j8]
    exact Qy zK (by rw[fF,Y5,B6 zO,List.getD,B6 zO];rfl)
   have p2:(Instr.checkKey e (9998+1) 5 (E9 (k.getD j 0))).run Tryz.prog w=.ok () w:=MapKept.run_checkKey (d:=.int .u8) zK (by simp[MapKept.IsKey]) e 9998
   simp only[List.forIn_cons,D0,run_sizeOf w hi,F5,p1,p2,hP]
   exact ih (fun y hy=>vY y (by simp[hy]))
 eq p q hp hq w:=LE (X:=⟨fun _ _=>.no,fun _ _=>none,fun _ _ _=>True,0,0,false⟩) (lv:=[]) (c:=2) (x:=.bs 32 p) (y:=.bs 32 q) (m:=9) w (by decide) zK ⟨_,rfl,hp,by simp⟩ ⟨_,rfl,hq,by simp⟩
 wide:=by kernel_rfl
theorem WR{p:Bool}(h:(!p)=true):p=false:=by simpa using h
theorem jM{p:Bool}(h:(!p)=false):p=true:=by simpa using h
theorem Qz{t:Nat}{l:By}(h:l.length<=1000000):X4 1 (aB (V.nb (.bl t l)))=true:=by simp[X4,aB,V.nb,h]
abbrev GP(b:By)(p:Bool):V:=A1 [.bl 0 b,.b p]
theorem pW(b:By)(p:Bool)(n:Int)(hb:b.length<1000000)(hn:0<=n/\n<1000):SatHM Tryz.prog false 103 [.pr 2 0 [],.i .i64 n] [] [(2,A1 [.bl 0 b,.b p])] (fun out ho A0=>∃v b2 p2,out=.i .u64 v/\ho=[(2,GP b2 p2)]/\A0=[]/\(0<=v/\v<18446744073709551616)/\b2.length<=b.length):=by
 refine fH false Tryz.func103 fun X0 w0 hX hm=>?_
 refine cK [] (VF b 0 n bd bd bd) ?_;rintro out A0 ⟨rfl,⟨rF,vZ,rfl,ha0,hA0,he0,x7⟩⟩
 refine cB (vZ≠0) (fun h1=>?_) fun h1=>?_
 ·exact xW hX (.i .u64 0) (ho:=[(2,A1 [.bl 0 b,.b true])]) ⟨_,_,_,rfl,rfl,rfl,zO,bd⟩
 refine cC ((0:Int)<=n/\n<=(b.length:Int)) ?_
 exact xW hX (.i .u64 rF) (ho:=[(2,A1 [.bl 0 ((b.drop ((n).toNat)).take (b.length-(n).toNat)),.b p])]) ⟨_,_,_,rfl,rfl,rfl,zO,bd⟩
theorem Ra(b:By)(p:Bool)(hb:b.length<1000000):SatHM Tryz.prog false 104 [.pr 2 0 []] [] [(2,A1 [.bl 0 b,.b p])] (fun out ho A0=>∃v b2 p2,out=.s v/\ho=[(2,GP b2 p2)]/\A0=[]/\v.length<=b.length/\b2.length<=b.length):=by
 refine fH false Tryz.func104 fun X0 w0 hX hm=>?_
 refine cK [] (MJ b bd) ?_;rintro out A0 ⟨fR,C5,xe0,rfl,rfl,hxa0,hxs0⟩
 refine cB (xe0≠0) (fun h1=>?_) fun h1=>?_
 ·exact xW hX (.s []) (ho:=[(2,A1 [.bl 0 b,.b true])]) ⟨_,_,_,rfl,rfl,rfl,bd,bd⟩
 refine cC ((0:Int)<=C5/\C5<=(b.length:Int)) ?_
 exact xW hX (.s fR) (ho:=[(2,A1 [.bl 0 ((b.drop ((C5).toNat)).take (b.length-(C5).toNat)),.b p])]) ⟨_,_,_,rfl,rfl,rfl,bd,bd⟩
theorem Rb{t:Tok}(h:(G1 t).rng):(0<=t.serial/\t.serial<18446744073709551616)/\(0<=t.rights/\t.rights<256)/\(-9223372036854775808<=t.from/\t.from<9223372036854775808)/\(-9223372036854775808<=t.until/\t.until<9223372036854775808)/\t.tag.length=32:=
 ⟨wU (h 0 (show 0<7 by decide)),wB (h 2 (show 2<7 by decide)),wI (h 3 (show 3<7 by decide)),wI (h 4 (show 4<7 by decide)),h 6 (show 6<7 by decide)⟩
theorem uA(k:By)(t t' n:Nat)(g:Nat->V)(hg:∀i,i<n->∃q l,g i=.bl q l/\l.length<=100000)(hn:n<=8):Sat Tryz.prog 52 [.bl t k,.sl t' 1 n g] [] (fun out A0=>A0=[]/\∃m,out=.bs 32 m):=by
 have h1:∀i,∃l:By,i<n->∃q,g i=.bl q l/\l.length<=100000:=fun i=>by
  by_cases h:i<n
  ·obtain⟨q,l,e⟩:=hg i h;exact⟨l,fun _=>⟨q,e⟩⟩
  exact⟨[],fun h'=>absurd h' h⟩
 have h2:=fun i=>(h1 i).choose_spec
 have h3:∀i,i<n->((h1 i).choose).length<=100000:=fun i hi=>(h2 i hi).choose_spec.2
 refine(WE k t t' n g (fun i=>(h1 i).choose) (fun i hi=>⟨_,(h2 i hi).choose_spec.1⟩) bd ?_).mono fun out A0 h=>⟨h.1,_,h.2⟩
 have:∀L:List By,(∀x∈L,x.length<=100000)->(o7 L).length<=L.length*100008:=by
  intro L hL
  induction L with
 |nil=>simp[o7]
 |cons x L ih=>
   have h1:=hL x (by simp)
   have h2:=ih fun y hy=>hL y (by simp[hy])
   simp only[o7,iA,C9,I4]at h2 ⊢
   simp[MQ]at h2 ⊢
   omega
 have h4:=this ((List.range n).map fun i=>(h1 i).choose) (fun x hx=>by
  obtain⟨i,hi,rfl⟩:=J3.1 hx
  exact h3 i (qF.1 hi))
 simp only[J4,CY]at h4
 omega
theorem WS(t:Tok)(ht:t.tenant.length<100000)(hc:t.cavs.length<=1000):Sat Tryz.prog 129 [G1 t] [] (fun out A0=>∃l e,out=A2 [.bl 2 l,.i .i64 e]/\A0=[2]/\l.length<=t.tenant.length+10000):=by
 refine cF Tryz.func129 fun X0 w0 hX=>?_
 refine rS 0 fun hr=>?_
 have hg:=(Rb hr).2.2.2.2
 refine cK [] (GO t bd bd) ?_;rintro out A0 ⟨rfl,⟨Y9,rfl⟩⟩
 refine cn (Y9) (fun h1=>?_) fun h1=>?_
 ·exact xW hX (A2 [.bl 2 [],.i .i64 1]) ⟨rfl,_,_,rfl,rfl,bd⟩
 refine cK [] (MY t bd) ?_
 rintro out A0 ⟨dI,rfl,rfl,hh1⟩
 refine cC (([1].length+dI.length)*1<=140737488355328) ?_ bd;refine cC ((([1]++dI).length+[UInt8.ofNat ((u8.wrap (t.cavs.length:Int))).toNat].length)*1<=140737488355328) ?_ bw;refine cM hX (fun(p:Nat×By)=>[(1,.pr 16 0 []),(4,.bl 2 p.2),(22,B4 0 2 bD t.cavs),(23,.i .i64 (t.cavs.length:Int)),(24,.i .i64 (p.1:Int))]) (fun(p:Nat×By)=>[(16,G1 t)]) (fun(p:Nat×By)=>p.1<=t.cavs.length/\p.2.length<=t.tenant.length+42+9*p.1) (fun(p:Nat×By)=>t.cavs.length-p.1) [2] 1488 (0,(([1]++dI)++[UInt8.ofNat ((u8.wrap (t.cavs.length:Int))).toNat])) ⟨by simp,by simp;omega⟩ ?_;rintro⟨k,l⟩ hI R hR
 dsimp only at hI
 refine cB ((k:Int)<(t.cavs.length:Int)) (fun h2=>?_) fun h2=>?_
 ·refine cC ((0:Int)<=(k:Int)/\(k:Int)<(t.cavs.length:Int)) ?_
  refine cK [] (WM ((t.cavs.getD k default).r) ((t.cavs.getD k default).u)) ?_;rintro out A0 ⟨vl2,rfl,rfl,aM⟩
  refine cC ((l.length+vl2.length)*1<=140737488355328) ?_;exact cA hX (hR (k+1,(l++vl2)) ⟨by dsimp only;omega,by simp;omega⟩ (by dsimp only;omega)) (hS:=⟨v0,v0,v0,v0,(vS bd),zT⟩)
 refine cC ((l.length+t.tag.length)*1<=140737488355328) ?_
 exact xW hX (A2 [.bl 2 (l++t.tag),.i .i64 0]) ⟨rfl,_,_,rfl,rfl,bd⟩
theorem Rc(h:By)(n:Nat)(g:Nat->Cav)(hn:n<9223372036854775807):Sat Tryz.prog 106 [.bs 32 h,.sl 0 2 n fun i=>bD (g i)] [] (fun out A0=>A0=[]/\(∃m,out=.bs 32 m)):=by
 refine cF Tryz.func106 fun X0 w0 hX=>?_
 refine mM fV true ?_;refine cM hX (fun(p:Nat×By)=>[(2,.pr 16 0 []),(4,.pr 80 0 []),(7,.sl 0 2 n fun i=>bD (g i)),(8,.i .i64 (n:Int)),(9,.i .i64 (p.1:Int)),(1000004,A2 [])]) (fun(p:Nat×By)=>[(16,.bs 32 p.2),(80,.bs 32 (replicate 32 0))]) (fun(p:Nat×By)=>p.1<=n/\n<9223372036854775807) (fun(p:Nat×By)=>n-p.1) [] 336 (0,h) ⟨by simp,hn⟩ ?_;rintro⟨k,m⟩ hI R hR
 dsimp only at hI
 refine cB ((k:Int)<(n:Int)) (fun h1=>?_) fun h1=>?_
 ·refine cC ((0:Int)<=(k:Int)/\(k:Int)<(n:Int)) ?_
  refine cK [] (WM ((g k).r) ((g k).u)) ?_;rintro out A0 ⟨vl0,rfl,rfl,v7⟩
  refine L5 (uA ((m.drop 0).take 32) 0 1 1 (fun _=>.bl 0 vl0) (fun _ _=>⟨_,_,rfl,bd⟩) (by decide)) ?_;rintro out A0 ⟨rfl,⟨hm1,rfl⟩⟩
  refine⟨rfl,?_⟩
  exact cA hX (hR (k+1,hm1) ⟨by dsimp only;omega,hI.2⟩ (by dsimp only;omega)) (hS:=⟨v0,v0,v0,v0,(vS bd),v0,zT⟩)
 exact xW hX (.bs 32 m) ⟨rfl,rfl,⟨_,rfl⟩⟩
theorem WT(key:By)(t:Tok)(ht:t.tenant.length<90000)(hc:t.cavs.length<=1000):Sat Tryz.prog 24 [.bs 32 key,G1 t] [] (fun out A0=>A0=[]/\(∃t2 e,out=A2 [G1 t2,.i .i64 e]/\t2.tenant.length<=t.tenant.length/\t2.cavs=[])):=by
 refine cF Tryz.func24 fun X0 w0 hX=>?_
 refine mM fV true ?_;refine cK [] (GO t bd bd) ?_;rintro out A0 ⟨rfl,⟨Y9,rfl⟩⟩
 refine cn (Y9) (fun h1=>?_) fun h1=>?_
 ·exact xW hX (A2 [G1 ⟨0,[],0,0,0,[],(replicate 32 0)⟩,.i .i64 1]) ⟨rfl,rfl,⟨_,_,rfl,L8 _,rfl⟩⟩ (hv:=vT (u:=A2 [A1 [.i .u64 0,.s [],.i .u8 0,.i .i64 0,.i .i64 0,.sl 0 2 0 fun _=>.un,.bs 32 (replicate 32 0)],.i .i64 1]) (F3 ⟨C4 ⟨.rfl _,.rfl _,.rfl _,.rfl _,.rfl _,vN,.rfl _,zT⟩,.rfl _,zT⟩))
 refine cB (0<(t.cavs.length:Int)) (fun h2=>?_) fun h2=>?_
 ·exact xW hX (A2 [G1 ⟨0,[],0,0,0,[],(replicate 32 0)⟩,.i .i64 1]) ⟨rfl,rfl,⟨_,_,rfl,L8 _,rfl⟩⟩ (hv:=vT (u:=A2 [A1 [.i .u64 0,.s [],.i .u8 0,.i .i64 0,.i .i64 0,.sl 0 2 0 fun _=>.un,.bs 32 (replicate 32 0)],.i .i64 1]) (F3 ⟨C4 ⟨.rfl _,.rfl _,.rfl _,.rfl _,.rfl _,vN,.rfl _,zT⟩,.rfl _,zT⟩))
 refine cK [] (MY t bd) ?_
 rintro out A0 ⟨dI,rfl,rfl,hh1⟩
 refine L5 (uA ((key.drop 0).take 32) 0 1 1 (fun _=>.bl 0 dI) (fun _ _=>⟨_,_,rfl,bd⟩) (by decide)) ?_;rintro out A0 ⟨rfl,⟨dH,rfl⟩⟩
 refine⟨rfl,?_⟩
 exact xW hX (A2 [G1 ⟨t.serial,t.tenant,t.rights,t.from,t.until,[],dH⟩,.i .i64 0]) ⟨rfl,rfl,⟨_,_,rfl,B3 _,rfl⟩⟩ (hv:=vT (u:=A2 [A1 [.i .u64 t.serial,.s t.tenant,.i .u8 t.rights,.i .i64 t.from,.i .i64 t.until,.sl 0 2 0 fun _=>.un,.bs 32 dH],.i .i64 0]) (F3 ⟨C4 ⟨.rfl _,.rfl _,.rfl _,.rfl _,.rfl _,vN,.rfl _,zT⟩,.rfl _,zT⟩))
theorem WU(key:By)(t:Tok)(now:Int)(ht:t.tenant.length<90000)(hc:t.cavs.length<=1000):Sat Tryz.prog 64 [.bs 32 key,G1 t,.i .i64 now] [] (fun out A0=>A0=[]/\(∃e,out=.i .i64 e)):=by
 refine cF Tryz.func64 fun X0 w0 hX=>?_
 refine mM fV true ?_;refine cK [] (GO t bd bd) ?_;rintro out A0 ⟨rfl,⟨Y9,rfl⟩⟩
 refine cn (Y9) (fun h1=>?_) fun h1=>?_
 ·exact xW hX (.i .i64 1) ⟨rfl,rfl,⟨_,rfl⟩⟩
 refine jA 2 4096 (fun(m:By)=>[(2,.i .i64 now),(4,.pr 80 0 []),(7,.pr 3000 0 []),(1000004,A2 [])]) (fun(m:By)=>[(80,G1 t),(3000,.bs 32 m)]) (fun(m:By)=>True) [] (fun R hR i hi=>?_) ?_
 ·revert i hi;refine f2 ?_ ?_<;>repeat' (first|refine al 2 (f2 ?_ ?_)|(refine cK (e:=eE) [] (MY t bd) ?_;rintro out A0 ⟨dI,rfl,rfl,hh1⟩)|(refine L5 (e:=eE) (uA ((key.drop 0).take 32) 0 1 1 (fun _=>.bl 0 dI) (fun _ _=>⟨_,_,rfl,bd⟩) (by decide)) ?_;rintro out A0 ⟨rfl,⟨dH,rfl⟩⟩;refine⟨rfl,?_⟩)|(refine cK (e:=eE) [] (Rc dH t.cavs.length (fun i=>t.cavs.getD i default) bd) ?_;rintro out A0 ⟨rfl,⟨ho3,rfl⟩⟩)|exact cA hX (hR ho3 trivial))
 rintro m hJ
 refine L5 (WF 0 0 ((m.drop 0).take 32) ((t.tag.drop 0).take 32)) ?_;rintro out A0 ⟨rfl,rfl⟩
 refine⟨rfl,?_⟩
 refine cN (((m.drop 0).take 32)=((t.tag.drop 0).take 32)) (fun h2=>?_) fun h2=>?_
 ·exact xW hX (.i .i64 13) ⟨rfl,rfl,⟨_,rfl⟩⟩
 refine cK [] (MZ t bd) ?_
 rintro out A0 ⟨rfl,⟨er12,eu12,rfl⟩⟩
 refine cB (now<t.from) (fun h3=>?_) fun h3=>?_
 ·exact xW hX (.i .i64 14) ⟨rfl,rfl,⟨_,rfl⟩⟩
 refine cB (eu12<=now) (fun h4=>?_) fun h4=>?_
 ·exact xW hX (.i .i64 14) ⟨rfl,rfl,⟨_,rfl⟩⟩
 exact xW hX (.i .i64 0) ⟨rfl,rfl,⟨_,rfl⟩⟩
theorem WV(b:By)(hb:b.length<90000):Sat Tryz.prog 63 [.bl 0 b] [] (fun out A0=>A0=[]/\(∃t e,out=A2 [G1 t,.i .i64 e]/\t.tenant.length<=b.length/\t.cavs.length<=8)):=by
 refine cF Tryz.func63 fun X0 w0 hX=>?_
 refine kH [(272,2)] [272] (pW b false 1 bd bd) ?_;rintro out ho A0 ⟨rv0,rb0,rp0,rfl,rfl,rfl,hrv0,hrb0⟩
 refine kH [(272,2)] [272] (pW rb0 rp0 8 bd bd) ?_;rintro out ho A0 ⟨rv1,rb1,rp1,rfl,rfl,rfl,hrv1,hrb1⟩
 refine kH [(272,2)] [272] (Ra rb1 rp1 bd) ?_;rintro out ho A0 ⟨rs2,rb2,rp2,rfl,rfl,rfl,hrs2,hrb2⟩
 refine kH [(272,2)] [272] (pW rb2 rp2 1 bd bd) ?_;rintro out ho A0 ⟨rv3,rb3,rp3,rfl,rfl,rfl,hrv3,hrb3⟩
 refine kH [(272,2)] [272] (pW rb3 rp3 8 bd bd) ?_;rintro out ho A0 ⟨rv4,rb4,rp4,rfl,rfl,rfl,hrv4,hrb4⟩
 refine cK [] (MT rv4) ?_;rintro out A0 ⟨rfl,⟨zz5,rfl,hz5⟩⟩
 refine kH [(272,2)] [272] (pW rb4 rp4 8 bd bd) ?_;rintro out ho A0 ⟨rv6,rb6,rp6,rfl,rfl,rfl,hrv6,hrb6⟩
 refine cK [] (MT rv6) ?_;rintro out A0 ⟨rfl,⟨zz7,rfl,hz7⟩⟩
 refine kH [(272,2)] [272] (pW rb6 rp6 1 bd bd) ?_;rintro out ho A0 ⟨rv8,rb8,rp8,rfl,rfl,rfl,hrv8,hrb8⟩
 refine cb (rp8) (fun h1=>?_) fun h1=>?_
 ·exact xW hX (A2 [G1 ⟨0,[],0,0,0,[],(replicate 32 0)⟩,.i .i64 4]) ⟨rfl,rfl,⟨_,_,rfl,bd,bd⟩⟩ (hv:=vT (u:=A2 [A1 [.i .u64 0,.s [],.i .u8 0,.i .i64 0,.i .i64 0,.sl 0 2 0 fun _=>.un,.bs 32 (replicate 32 0)],.i .i64 4]) (F3 ⟨C4 ⟨.rfl _,.rfl _,.rfl _,.rfl _,.rfl _,vN,.rfl _,zT⟩,.rfl _,zT⟩))
 refine cB (rv0≠1) (fun h2=>?_) fun h2=>?_
 ·exact xW hX (A2 [G1 ⟨0,[],0,0,0,[],(replicate 32 0)⟩,.i .i64 4]) ⟨rfl,rfl,⟨_,_,rfl,bd,bd⟩⟩ (hv:=vT (u:=A2 [A1 [.i .u64 0,.s [],.i .u8 0,.i .i64 0,.i .i64 0,.sl 0 2 0 fun _=>.un,.bs 32 (replicate 32 0)],.i .i64 4]) (F3 ⟨C4 ⟨.rfl _,.rfl _,.rfl _,.rfl _,.rfl _,vN,.rfl _,zT⟩,.rfl _,zT⟩))
 refine cB (8<rv8) (fun h3=>?_) fun h3=>?_
 ·exact xW hX (A2 [G1 ⟨0,[],0,0,0,[],(replicate 32 0)⟩,.i .i64 4]) ⟨rfl,rfl,⟨_,_,rfl,bd,bd⟩⟩ (hv:=vT (u:=A2 [A1 [.i .u64 0,.s [],.i .u8 0,.i .i64 0,.i .i64 0,.sl 0 2 0 fun _=>.un,.bs 32 (replicate 32 0)],.i .i64 4]) (F3 ⟨C4 ⟨.rfl _,.rfl _,.rfl _,.rfl _,.rfl _,vN,.rfl _,zT⟩,.rfl _,zT⟩))
 refine cM hX (fun(p:Nat×By×Bool×(List Cav))=>[(2,.pr 16 0 []),(4,.pr 272 0 []),(6,.pr 1104 0 []),(45,.i .u64 rv8),(46,.i .u64 (p.1:Int))]) (fun(p:Nat×By×Bool×(List Cav))=>[(16,A1 [.i .u64 0,.s [],.i .u8 0,.i .i64 0,.i .i64 0,.sl 1 2 0 fun _=>.un,.bs 32 (replicate 32 0)]),(272,A1 [.bl 0 p.2.1,.b p.2.2.1]),(1104,A1 [.i .u64 rv1,.s rs2,.i .u8 (u8.wrap rv3),.i .i64 zz5,.i .i64 zz7,B4 2 2 bD p.2.2.2,.bs 32 (replicate 32 0)])]) (fun(p:Nat×By×Bool×(List Cav))=>(p.1:Int)<=rv8/\p.2.1.length<90000/\p.2.2.2.length=p.1) (fun(p:Nat×By×Bool×(List Cav))=>8-p.1) [2] 2960 (0,rb8,rp8,[]) ⟨by simp;omega,bd,rfl⟩ ?_ (hH:=⟨v0,v0,(vT (u:=A1 [.i .u64 rv1,.s rs2,.i .u8 (u8.wrap rv3),.i .i64 zz5,.i .i64 zz7,.sl 2 2 0 fun _=>.un,.bs 32 (replicate 32 0)]) (C4 ⟨.rfl _,.rfl _,.rfl _,.rfl _,.rfl _,vN,.rfl _,zT⟩)),zT⟩)
 rintro⟨k,rb,rp,l⟩ hI R hR
 dsimp only at hI
 refine cB ((k:Int)<rv8) (fun h4=>?_) fun h4=>?_
 ·refine kH [(272,2)] [272] (pW rb rp 1 bd bd) ?_
  rintro out ho A0 ⟨rv9,rb9,rp9,rfl,rfl,rfl,hrv9,hrb9⟩
  refine kH [(272,2)] [272] (pW rb9 rp9 8 bd bd) ?_;rintro out ho A0 ⟨rv10,rb10,rp10,rfl,rfl,rfl,hrv10,hrb10⟩
  refine cK [] (MT rv10) ?_;rintro out A0 ⟨rfl,⟨zz11,rfl,hz11⟩⟩
  refine cC ((l.length+1)*16<=140737488355328) ?_;exact cA hX (hR (k+1,rb10,rp10,l++[⟨(u8.wrap rv9),zz11⟩]) ⟨bd,bd,by simp;omega⟩ (by dsimp only;omega)) (hS:=⟨v0,v0,v0,v0,vU,zT⟩) (hH:=⟨v0,v0,(vT (u:=A1 [.i .u64 rv1,.s rs2,.i .u8 (u8.wrap rv3),.i .i64 zz5,.i .i64 zz7,.sl 2 2 (l.length+1) fun i=>bif blt i l.length then bD (l.getD i default) else A1 [.i .u8 (u8.wrap rv9),.i .i64 zz11],.bs 32 (replicate 32 0)]) (C4 ⟨.rfl _,.rfl _,.rfl _,.rfl _,.rfl _,pQ l ⟨_,_⟩,.rfl _,zT⟩)),zT⟩)
 refine cb (rp) (fun h5=>?_) fun h5=>?_
 ·exact xW hX (A2 [G1 ⟨0,[],0,0,0,[],(replicate 32 0)⟩,.i .i64 4]) ⟨rfl,rfl,⟨_,_,rfl,bd,bd⟩⟩ (hv:=vT (u:=A2 [A1 [.i .u64 0,.s [],.i .u8 0,.i .i64 0,.i .i64 0,.sl 0 2 0 fun _=>.un,.bs 32 (replicate 32 0)],.i .i64 4]) (F3 ⟨C4 ⟨.rfl _,.rfl _,.rfl _,.rfl _,.rfl _,vN,.rfl _,zT⟩,.rfl _,zT⟩))
 refine cB ((rb.length:Int)≠32) (fun h6=>?_) fun h6=>?_
 ·exact xW hX (A2 [G1 ⟨0,[],0,0,0,[],(replicate 32 0)⟩,.i .i64 4]) ⟨rfl,rfl,⟨_,_,rfl,bd,bd⟩⟩ (hv:=vT (u:=A2 [A1 [.i .u64 0,.s [],.i .u8 0,.i .i64 0,.i .i64 0,.sl 0 2 0 fun _=>.un,.bs 32 (replicate 32 0)],.i .i64 4]) (F3 ⟨C4 ⟨.rfl _,.rfl _,.rfl _,.rfl _,.rfl _,vN,.rfl _,zT⟩,.rfl _,zT⟩))
 refine cK [] (GO ⟨rv1,rs2,(u8.wrap rv3),zz5,zz7,l,(replicate 32 0)⟩ bd bd) ?_
 rintro out A0 ⟨rfl,⟨pm12,rfl⟩⟩
 refine cn (pm12) (fun h7=>?_) fun h7=>?_
 ·exact xW hX (A2 [G1 ⟨0,[],0,0,0,[],(replicate 32 0)⟩,.i .i64 4]) ⟨rfl,rfl,⟨_,_,rfl,bd,bd⟩⟩ (hv:=vT (u:=A2 [A1 [.i .u64 0,.s [],.i .u8 0,.i .i64 0,.i .i64 0,.sl 0 2 0 fun _=>.un,.bs 32 (replicate 32 0)],.i .i64 4]) (F3 ⟨C4 ⟨.rfl _,.rfl _,.rfl _,.rfl _,.rfl _,vN,.rfl _,zT⟩,.rfl _,zT⟩))
 refine cC (32<=rb.length) ?_
 exact xW hX (A2 [G1 ⟨rv1,rs2,(u8.wrap rv3),zz5,zz7,l,(rb.take 32)⟩,.i .i64 0]) ⟨rfl,rfl,⟨_,_,rfl,bd,bd⟩⟩ (hv:=vT (u:=A2 [A1 [.i .u64 rv1,.s rs2,.i .u8 (u8.wrap rv3),.i .i64 zz5,.i .i64 zz7,B4 0 2 bD l,.bs 32 (rb.take 32)],.i .i64 0]) (F3 ⟨C4 ⟨.rfl _,.rfl _,.rfl _,.rfl _,.rfl _,.rfl _,.rfl _,zT⟩,.rfl _,zT⟩))
section
open Go Go.Shelf
def Tryz.fiM_ren:Go.Shelf.Ren:=⟨fun|173=>167|246=>191|283=>210|284=>211|285=>212|286=>213|129=>231|317=>232|318=>233|319=>234|320=>235|337=>242|338=>243|n=>n,fun|2=>2|3=>3|9=>9|4=>4|171=>282|0=>0|53=>35|37=>53|5=>5|173=>285|212=>301|51=>248|20=>20|213=>302|46=>173|232=>33|233=>250|n=>n,fun|17=>1|18=>2|19=>3|n=>n⟩
theorem Tryz.fiM:Go.Proofs.LaysM.n173 Tryz.prog Tryz.fiM_ren:={
 mixed:=by kernel_rfl
 f129:=Tryz.func231.trans (congrArg some zK)
 f173:=Tryz.func167.trans (congrArg some zK)
 f246:=Tryz.func191.trans (congrArg some zK)
 f283:=Tryz.func210.trans (congrArg some zK)
 f284:=Tryz.func211.trans (congrArg some zK)
 f285:=Tryz.func212.trans (congrArg some zK)
 f286:=Tryz.func213.trans (congrArg some zK)
 f317:=Tryz.func232.trans (congrArg some zK)
 f318:=Tryz.func233.trans (congrArg some zK)
 f319:=Tryz.func234.trans (congrArg some zK)
 f320:=Tryz.func235.trans (congrArg some zK)
 f337:=Tryz.func242.trans (congrArg some zK)
 f338:=Tryz.func243.trans (congrArg some zK)
 t0:=Tryz.underlying0
 a0:=Tryz.isAgg0
 z0:=Tryz.sizeOf0
 v0:=Tryz.zeroValue0
 t2:=Tryz.underlying2
 a2:=Tryz.isAgg2
 z2:=Tryz.sizeOf2
 v2:=Tryz.zeroValue2
 t3:=Tryz.underlying3
 a3:=Tryz.isAgg3
 z3:=Tryz.sizeOf3
 v3:=Tryz.zeroValue3
 t4:=Tryz.underlying4
 a4:=Tryz.isAgg4
 z4:=Tryz.sizeOf4
 v4:=Tryz.zeroValue4
 t5:=Tryz.underlying5
 a5:=Tryz.isAgg5
 z5:=Tryz.sizeOf5
 v5:=Tryz.zeroValue5
 t9:=Tryz.underlying9
 a9:=Tryz.isAgg9
 z9:=Tryz.sizeOf9
 v9:=Tryz.zeroValue9
 t20:=Tryz.underlying20
 a20:=Tryz.isAgg20
 z20:=Tryz.sizeOf20
 v20:=Tryz.zeroValue20
 t37:=Tryz.underlying53
 a37:=Tryz.isAgg53
 z37:=Tryz.sizeOf53
 v37:=Tryz.zeroValue53
 t46:=Tryz.underlying173
 a46:=Tryz.isAgg173
 z46:=Tryz.sizeOf173
 v46:=Tryz.zeroValue173
 t51:=Tryz.underlying248
 a51:=Tryz.isAgg248
 z51:=Tryz.sizeOf248
 v51:=Tryz.zeroValue248
 t53:=Tryz.underlying35
 a53:=Tryz.isAgg35
 z53:=Tryz.sizeOf35
 v53:=Tryz.zeroValue35
 t171:=Tryz.underlying282
 a171:=Tryz.isAgg282
 z171:=Tryz.sizeOf282
 v171:=Tryz.zeroValue282
 t173:=Tryz.underlying285
 a173:=Tryz.isAgg285
 z173:=Tryz.sizeOf285
 v173:=Tryz.zeroValue285
 t212:=Tryz.underlying301
 a212:=Tryz.isAgg301
 z212:=Tryz.sizeOf301
 v212:=Tryz.zeroValue301
 t213:=Tryz.underlying302
 a213:=Tryz.isAgg302
 z213:=Tryz.sizeOf302
 t232:=Tryz.underlying33
 a232:=Tryz.isAgg33
 z232:=Tryz.sizeOf33
 v232:=Tryz.zeroValue33
 t233:=Tryz.underlying250
 a233:=Tryz.isAgg250
 z233:=Tryz.sizeOf250
 v233:=Tryz.zeroValue250
 g17:=by kernel_rfl
 g18:=by kernel_rfl
 g19:=by kernel_rfl
 i0:=by kernel_rfl
 i2:=by kernel_rfl
 i3:=by kernel_rfl
 i4:=by kernel_rfl
 i5:=by kernel_rfl
 i9:=by kernel_rfl
 i20:=by kernel_rfl
 i37:=by kernel_rfl
 i46:=by kernel_rfl
 i51:=by kernel_rfl
 i53:=by kernel_rfl
 i171:=by kernel_rfl
 i173:=by kernel_rfl
 i212:=by kernel_rfl
 i232:=by kernel_rfl
 i233:=by kernel_rfl
 m17:=by kernel_rfl
 m18:=by kernel_rfl
 m19:=by kernel_rfl}
end
theorem Rd(w:World)(k:Nat)(os:Array Go.Obj):Hp w (Go.Sort.grow (w.drewN k) os) [] []:=
 ⟨rfl,rfl,rfl,by show w.heap.size<=(w.heap++os).size;rw[zF];omega,fun b hb _=>by
  show(w.heap++os)[b]? =w.heap[b]?
  rw[OU hb],(by simp),(by simp),.nil⟩
theorem Re(H:Wd X X h lv c w w):Lib.TabIs Tryz.prog w "internal/strconv.uint64pow10" .u64 Lib.pow10Tab:=by
 unfold Lib.TabIs World.var?
 obtain⟨g,hg⟩:∃g,Tryz.prog.globalNamed "internal/strconv.uint64pow10" =some g:=hU.1 zK
 obtain⟨h1,C,T,fr,h2,h3⟩:=H.gz g hg
 rw[hg]
 simp only[CN,h2,F1]
 have hl:eW.length=20:=by simp[eW,Lib.pow10Tab_length]
 refine IS fun i=>?_
 have e:(Lib.pow10Tab.map fun z=>Value.int .u64 z).toArray[i]? =eW[i]? :=by rw[fF];rfl
 rw[e]
 cases hx:eW[i]? with
|none=>
  rw[List.getElem?_eq_none_iff]at hx
  exact CT zO
|some x=>
  have h4:=H.fz g (0+i) x (h1 i x hx)
  have h5:x.oneCell'=true:=by
   unfold eW at hx
   rw[Y5]at hx
   obtain⟨z,_,rfl⟩:=eB.1 hx
   rfl
  have h6:=h4.c h5
  simp only[World.cell?, h2,J2]at h6
  exact h6
theorem Rf(n:Int):Sat Tryz.prog 167 [.i .i64 n,.i .i64 10] [] (fun out A0=>A0=[]/\∃l,out=.s l/\l.length<=21):=tR fun X w vs h1 h2 H=>by
 obtain⟨x,y,rfl⟩:∃x y,vs=[x,y]:=by
  match vs,h1 with
 |[x,y],_=>exact⟨x,y,rfl⟩
 have hx:=h2 0 _ _ rfl rfl
 have hy:=h2 1 _ _ rfl rfl
 have hn:=wI (UU hx)
 obtain⟨e1,_⟩:=hx
 obtain⟨e2,_⟩:=hy
 simp only[qE,and_true]at e1 e2
 subst e1 e2
 refine x5 (Any.strconv_FormatInt_10 Tryz.fiM n zO zO w (Re H)) fun e w' ⟨he,k,os,hw⟩=>?_
 subst hw
 refine⟨_,he,⟨_,⟨rfl,_,rfl,Lib.itoa_length_le n zO zO⟩,rfl,?_⟩,Rd _ _ _⟩
 have:=Lib.itoa_length_le n zO zO
 have mx:maxLen=9223372036854775807:=rfl
 omega
theorem GQ(n:Int):Sat Tryz.prog 121 [.i .i64 n] [] (fun out A0=>A0=[]/\(∃l,out=.s l/\l.length<=21)):=by
 refine cF Tryz.func121 fun X0 w0 hX=>?_
 refine cK [] (Rf n) ?_;rintro out A0 ⟨rfl,⟨fS,rfl,hf0⟩⟩
 exact xW hX (.s fS) ⟨rfl,rfl,⟨_,rfl,bd⟩⟩
theorem E6(n:Int):Sat Tryz.prog 26 [.i .i64 n] [] (fun out A0=>A0=[]/\(out=A1 [.i .i64 n,.bl 0 []])):=by
 refine cF Tryz.func26 fun X0 w0 hX=>?_
 exact xW hX (A1 [.i .i64 n,.bl 0 []]) ⟨rfl,rfl,rfl⟩
theorem kV(b:By):Sat Tryz.prog 78 [.bl 0 b] [] (fun out A0=>A0=[]/\(out=A1 [.i .i64 200,.bl 0 b])):=by
 refine cF Tryz.func78 fun X0 w0 hX=>?_
 exact xW hX (A1 [.i .i64 200,.bl 0 b]) ⟨rfl,rfl,rfl⟩
theorem yF(c n:Int):Sat Tryz.prog 120 [.i .i64 c,.i .i64 n] [] (fun out A0=>∃l,out=A1 [.i .i64 c,.bl 2 l]/\A0=[2]/\l.length<=21):=by
 refine cF Tryz.func120 fun X0 w0 hX=>?_
 refine cK [] (GQ n) ?_;rintro out A0 ⟨rfl,⟨fS,rfl,hf0⟩⟩
 exact xW hX (A1 [.i .i64 c,.bl 2 fS]) ⟨rfl,_,rfl,rfl,bd⟩
theorem Rg(t:TenR)(b:By)(hb:b.length<=100000):Sat Tryz.prog 113 [B2 t,.bl 0 b] [] (fun out A0=>A0=[]/\(∃m,out=.bs 32 m)):=by
 refine cF Tryz.func113 fun X0 w0 hX=>?_
 refine mM fV true ?_;refine L5 (uA ((t.key.drop 0).take 32) 0 1 1 (fun _=>.bl 0 b) (fun _ _=>⟨_,_,rfl,bd⟩) (by decide)) ?_;rintro out A0 ⟨rfl,⟨l4,rfl⟩⟩
 refine⟨rfl,?_⟩
 exact xW hX (.bs 32 l4) ⟨rfl,rfl,⟨_,rfl⟩⟩
theorem WW(m:Mani)(hl:m.label.length<100000):Sat Tryz.prog 161 [f7 m] [] (fun out A0=>A0=[]/\(∃p,out=.b p)):=by
 refine cF Tryz.func161 fun X0 w0 hX=>?_
 refine cB (m.time<0) (fun h1=>?_) fun h1=>?_
 ·exact xW hX (.b false) ⟨rfl,rfl,⟨_,rfl⟩⟩
 refine cB (64<(m.label.length:Int)) (fun h2=>?_) fun h2=>?_
 ·exact xW hX (.b false) ⟨rfl,rfl,⟨_,rfl⟩⟩
 refine cM hX (fun(k:Nat)=>[(1,.pr 16 0 []),(15,.i .i64 (m.label.length:Int)),(16,.i .i64 (k:Int))]) (fun(k:Nat)=>[(16,f7 m)]) (fun(k:Nat)=>k<=m.label.length) (fun(k:Nat)=>m.label.length-k) [] 976 0 (by simp) ?_
 rintro k hI R hR
 refine cB ((k:Int)<(m.label.length:Int)) (fun h3=>?_) fun h3=>?_
 ·refine cC ((0:Int)<=(k:Int)/\(k:Int)<(m.label.length:Int)) ?_
  refine cB (((m.label.getD k 0).toNat:Int)<32) (fun h4=>?_) fun h4=>?_
  ·exact xW hX (.b false) ⟨rfl,rfl,⟨_,rfl⟩⟩
  refine cC ((0:Int)<=(k:Int)/\(k:Int)<(m.label.length:Int)) ?_
  refine cB (126<((m.label.getD k 0).toNat:Int)) (fun h5=>?_) fun h5=>?_
  ·exact xW hX (.b false) ⟨rfl,rfl,⟨_,rfl⟩⟩
  exact cA hX (hR (k+1) zO zO) (hS:=⟨v0,v0,(vS bd),zT⟩)
 exact xW hX (.b true) ⟨rfl,rfl,⟨_,rfl⟩⟩
theorem WX(m:Mani)(hl:m.label.length<50000):Sat Tryz.prog 124 [f7 m] [] (fun out A0=>∃l e,out=A2 [.bl 2 l,.i .i64 e]/\A0=[2]/\l.length<=m.label.length+100):=by
 refine cF Tryz.func124 fun X0 w0 hX=>?_
 refine rS 0 fun hr=>?_
 have hg:m.root.length=32:=hr 0 (show 0<3 by decide)
 refine cK [] (WW m bd) ?_;rintro out A0 ⟨rfl,⟨Y9,rfl⟩⟩
 refine cn (Y9) (fun h1=>?_) fun h1=>?_
 ·exact xW hX (A2 [.bl 2 [],.i .i64 1]) ⟨rfl,_,_,rfl,rfl,bd⟩
 refine cC (([83,49].length+m.root.length)*1<=140737488355328) ?_ bd
 refine cK [] (mW ([83,49]++m.root) (u64.wrap m.time) 8 bd bd) ?_;rintro out A0 ⟨lY,pe1,rfl,rfl,hp1,hq1⟩
 refine cK [] (tV lY m.label bd bd) ?_;rintro out A0 ⟨xl2,xe2,rfl,rfl,hx2,hy2⟩
 exact xW hX (A2 [.bl 2 xl2,.i .i64 xe2]) ⟨rfl,_,_,rfl,rfl,bd⟩
theorem Rh(b:By)(hb:b.length<50000):Sat Tryz.prog 117 [.bl 0 b] [] (fun out A0=>A0=[]/\(∃m e,out=A2 [f7 m,.i .i64 e]/\m.label.length<=b.length)):=by
 refine cF Tryz.func117 fun X0 w0 hX=>?_
 refine cB ((b.length:Int)<34) (fun h1=>?_) fun h1=>?_
 ·exact xW hX (A2 [f7 ⟨(replicate 32 0),0,[]⟩,.i .i64 4]) ⟨rfl,rfl,⟨_,_,rfl,bd⟩⟩ (hv:=vT (u:=A2 [A1 [.bs 32 (replicate 32 0),.i .i64 0,.s []],.i .i64 4]) (F3 ⟨C4 ⟨.rfl _,.rfl _,.rfl _,zT⟩,.rfl _,zT⟩))
 refine cC ((0:Int)<=0/\(0:Int)<=2/\2<=(b.length:Int)) ?_
 refine cN (((b.drop 0).take (2-0))=[83,49]) (fun h2=>?_) fun h2=>?_
 ·exact xW hX (A2 [f7 ⟨(replicate 32 0),0,[]⟩,.i .i64 4]) ⟨rfl,rfl,⟨_,_,rfl,bd⟩⟩ (hv:=vT (u:=A2 [A1 [.bs 32 (replicate 32 0),.i .i64 0,.s []],.i .i64 4]) (F3 ⟨C4 ⟨.rfl _,.rfl _,.rfl _,zT⟩,.rfl _,zT⟩))
 refine cK [] (VF b 34 8 bd bd bd) ?_
 rintro out A0 ⟨rfl,⟨rF,vZ,rfl,ha0,hA0,he0,x7⟩⟩
 refine cB (vZ≠0) (fun h3=>?_) fun h3=>?_
 ·exact xW hX (A2 [f7 ⟨(replicate 32 0),0,[]⟩,.i .i64 4]) ⟨rfl,rfl,⟨_,_,rfl,bd⟩⟩ (hv:=vT (u:=A2 [A1 [.bs 32 (replicate 32 0),.i .i64 0,.s []],.i .i64 4]) (F3 ⟨C4 ⟨.rfl _,.rfl _,.rfl _,zT⟩,.rfl _,zT⟩))
 refine cB (9223372036854775807<rF) (fun h4=>?_) fun h4=>?_
 ·exact xW hX (A2 [f7 ⟨(replicate 32 0),0,[]⟩,.i .i64 4]) ⟨rfl,rfl,⟨_,_,rfl,bd⟩⟩ (hv:=vT (u:=A2 [A1 [.bs 32 (replicate 32 0),.i .i64 0,.s []],.i .i64 4]) (F3 ⟨C4 ⟨.rfl _,.rfl _,.rfl _,zT⟩,.rfl _,zT⟩))
 refine cC ((0:Int)<=42/\42<=(b.length:Int)) ?_
 refine cK [] (MJ ((b.drop 42).take (b.length-42)) bd) ?_;rintro out A0 ⟨xs1,xa1,xe1,rfl,rfl,hxa1,hxs1⟩
 simp only[F6,K5]at hxa1 hxs1
 refine cB (xe1≠0) (fun h5=>?_) fun h5=>?_
 ·exact xW hX (A2 [f7 ⟨(replicate 32 0),0,[]⟩,.i .i64 4]) ⟨rfl,rfl,⟨_,_,rfl,bd⟩⟩ (hv:=vT (u:=A2 [A1 [.bs 32 (replicate 32 0),.i .i64 0,.s []],.i .i64 4]) (F3 ⟨C4 ⟨.rfl _,.rfl _,.rfl _,zT⟩,.rfl _,zT⟩))
 refine cB ((i64.wrap (42+xa1))≠(b.length:Int)) (fun h6=>?_) fun h6=>?_
 ·exact xW hX (A2 [f7 ⟨(replicate 32 0),0,[]⟩,.i .i64 4]) ⟨rfl,rfl,⟨_,_,rfl,bd⟩⟩ (hv:=vT (u:=A2 [A1 [.bs 32 (replicate 32 0),.i .i64 0,.s []],.i .i64 4]) (F3 ⟨C4 ⟨.rfl _,.rfl _,.rfl _,zT⟩,.rfl _,zT⟩))
 refine cC ((0:Int)<=2/\(2:Int)<=34/\34<=(b.length:Int)) ?_
 refine cC (32<=((b.drop 2).take (34-2)).length) ?_ bd;refine cK [] (WW ⟨(((b.drop 2).take (34-2)).take 32),(i64.wrap rF),xs1⟩ bd) ?_;rintro out A0 ⟨rfl,⟨pm2,rfl⟩⟩
 refine cn (pm2) (fun h7=>?_) fun h7=>?_
 ·exact xW hX (A2 [f7 ⟨(replicate 32 0),0,[]⟩,.i .i64 4]) ⟨rfl,rfl,⟨_,_,rfl,bd⟩⟩ (hv:=vT (u:=A2 [A1 [.bs 32 (replicate 32 0),.i .i64 0,.s []],.i .i64 4]) (F3 ⟨C4 ⟨.rfl _,.rfl _,.rfl _,zT⟩,.rfl _,zT⟩))
 exact xW hX (A2 [f7 ⟨(((b.drop 2).take (34-2)).take 32),(i64.wrap rF),xs1⟩,.i .i64 0]) ⟨rfl,rfl,⟨_,_,rfl,bd⟩⟩ (hv:=vT (u:=A2 [A1 [.bs 32 (((b.drop 2).take (34-2)).take 32),.i .i64 (i64.wrap rF),.s xs1],.i .i64 0]) (F3 ⟨C4 ⟨.rfl _,.rfl _,.rfl _,zT⟩,.rfl _,zT⟩))
theorem Ri(t n:Nat)(g:Nat->V)(hg:∀i,i<n->∃q l,g i=.bl q l)(hn:n<=8):Sat Tryz.prog 88 [.sl t 1 n g] [] (fun out A0=>A0=[]/\∃m,out=.bs 32 m):=by
 have h1:∀i,∃l:By,i<n->∃q,g i=.bl q l:=fun i=>by
  by_cases h:i<n
  ·obtain⟨q,l,e⟩:=hg i h;exact⟨l,fun _=>⟨q,e⟩⟩
  exact⟨[],fun h'=>absurd h' h⟩
 exact(Qp t n g (fun i=>(h1 i).choose) (fun i hi=>(h1 i).choose_spec hi) zO).mono fun out A0 h=>⟨h.1,_,h.2⟩
theorem Rj{e:Ent}(h:(H7 e).rng):e.of.length=32:=h 6 (show 6<7 by decide)
theorem WY(e:Ent):Sat Tryz.prog 138 [H7 e] [] (fun out A0=>A0=[]/\(∃p,out=.b p)):=by
 refine cF Tryz.func138 fun X0 w0 hX=>?_
 refine cB (0<=e.seq) (fun h1=>?_) fun h1=>?_
 ·refine cB (0<=e.tick) (fun h2=>?_) fun h2=>?_
  ·refine cB (0<=e.do) (fun h3=>?_) fun h3=>?_
   ·refine cB (e.do<=255) (fun h4=>?_) fun h4=>?_
    ·refine cB (0<=e.status) (fun h5=>?_) fun h5=>?_
     ·refine cB (e.status<=999) (fun h6=>?_) fun h6=>?_
      ·exact xW hX (.b (decide ((e.tenant.length:Int)<=16))) ⟨rfl,rfl,⟨_,rfl⟩⟩
      exact xW hX (.b false) ⟨rfl,rfl,⟨_,rfl⟩⟩
     exact xW hX (.b false) ⟨rfl,rfl,⟨_,rfl⟩⟩
    exact xW hX (.b false) ⟨rfl,rfl,⟨_,rfl⟩⟩
   exact xW hX (.b false) ⟨rfl,rfl,⟨_,rfl⟩⟩
  exact xW hX (.b false) ⟨rfl,rfl,⟨_,rfl⟩⟩
 exact xW hX (.b false) ⟨rfl,rfl,⟨_,rfl⟩⟩
theorem WZ(e:Ent)(he:e.tenant.length<=1000):Sat Tryz.prog 87 [H7 e] [] (fun out A0=>∃l c,out=A2 [.bl 2 l,.i .i64 c]/\A0=[2]/\l.length<=e.tenant.length+100):=by
 refine cF Tryz.func87 fun X0 w0 hX=>?_
 refine rS 0 fun hr=>?_
 have hg:=Rj hr
 refine cK [] (WY e) ?_;rintro out A0 ⟨rfl,⟨Y9,rfl⟩⟩
 refine cn (Y9) (fun h1=>?_) fun h1=>?_
 ·exact xW hX (A2 [.bl 2 [],.i .i64 1]) ⟨rfl,_,_,rfl,rfl,bd⟩
 refine cK [] ((mW [] (u64.wrap e.seq) 8 bd bd).full (ins':=[.bl 1 [],.i .u64 (u64.wrap e.seq),.i .i64 8])) ?_
 rintro out A0 ⟨lY,pe1,rfl,rfl,hp1,hq1⟩
 have hp1:lY.length<=8:=by simpa using hp1
 refine cK [] (mW lY (u64.wrap e.tick) 8 bd bd) ?_;rintro out A0 ⟨pl2,pe2,rfl,rfl,hp2,hq2⟩
 refine cK [] (mW pl2 e.serial 8 bd bd) ?_;rintro out A0 ⟨oA,pe3,rfl,rfl,hp3,hq3⟩
 refine cK [] (tV oA e.tenant bd bd) ?_;rintro out A0 ⟨xl4,xe4,rfl,rfl,hx4,hy4⟩
 refine cK [] (mW xl4 (u64.wrap e.do) 1 bd bd) ?_;rintro out A0 ⟨pl5,pe5,rfl,rfl,hp5,hq5⟩
 refine cK [] (mW pl5 (u64.wrap e.status) 2 bd bd) ?_;rintro out A0 ⟨pl6,pe6,rfl,rfl,hp6,hq6⟩
 refine cC ((pl6.length+e.of.length)*1<=140737488355328) ?_;exact xW hX (A2 [.bl 2 (pl6++e.of),.i .i64 0]) ⟨rfl,_,_,rfl,rfl,bd⟩
theorem pX(h:By)(e:Ent)(he:e.tenant.length<=1000):Sat Tryz.prog 30 [.bs 32 h,H7 e] [] (fun out A0=>A0=[]/\(∃m c,out=A2 [.bs 32 m,.i .i64 c])):=by
 refine cF Tryz.func30 fun X0 w0 hX=>?_
 refine cK [] (WZ e bd) ?_;rintro out A0 ⟨al0,vZ,rfl,rfl,ha0⟩
 refine cB (vZ≠0) (fun h1=>?_) fun h1=>?_
 ·exact xW hX (A2 [.bs 32 (replicate 32 0),.i .i64 vZ]) ⟨rfl,rfl,⟨_,_,rfl⟩⟩
 refine cK [] (Ri 1 2 (fun i=>bif beq i 1 then .bl 0 al0 else bif beq i 0 then .bl 1 h else .bl 1 []) (fun i hi=>match i,hi with|0,_=>⟨_,_,rfl⟩|1,_=>⟨_,_,rfl⟩) (by decide)) ?_
 rintro out A0 ⟨rfl,⟨lT,rfl⟩⟩
 exact xW hX (A2 [.bs 32 lT,.i .i64 0]) ⟨rfl,rfl,⟨_,_,rfl⟩⟩
theorem Rk(n:Nat)(g:Nat->Ent)(hn:n<=4096)(hg:∀i,i<n->(g i).tenant.length<=100):Sat Tryz.prog 137 [.sl 0 38 n fun i=>H7 (g i)] [] (fun out A0=>A0=[]/\(∃m c,out=A2 [.bs 32 m,.i .i64 c])):=by
 refine cF Tryz.func137 fun X0 w0 hX=>?_
 refine cM hX (fun(k:Nat)=>[(0,.sl 0 38 n fun i=>H7 (g i)),(2,.pr 16 0 []),(9,.sl 0 38 n fun i=>H7 (g i)),(10,.i .i64 (n:Int)),(11,.i .i64 (k:Int))]) (fun(k:Nat)=>[(16,.bs 32 (replicate 32 0))]) (fun(k:Nat)=>k<=n) (fun(k:Nat)=>n-k) [] 336 0 (by simp) ?_;rintro k hI R hR
 refine cB ((k:Int)<(n:Int)) (fun h1=>?_) fun h1=>?_
 ·refine cC ((0:Int)<=(k:Int)/\(k:Int)<(n:Int)) ?_
  refine cK [] (WY (g k)) ?_;rintro out A0 ⟨rfl,⟨Y9,rfl⟩⟩
  refine cn (Y9) (fun h2=>?_) fun h2=>?_
  ·exact xW hX (A2 [.bs 32 (replicate 32 0),.i .i64 1]) ⟨rfl,rfl,⟨_,_,rfl⟩⟩
  exact cA hX (hR (k+1) zO zO) (hS:=⟨v0,v0,v0,v0,(vS bd),zT⟩)
 refine cM hX (fun(p:Nat×By)=>[(2,.pr 16 0 []),(6,.pr 400 0 []),(20,.sl 0 38 n fun i=>H7 (g i)),(21,.i .i64 (n:Int)),(22,.i .i64 (p.1:Int))]) (fun(p:Nat×By)=>[(16,.bs 32 (replicate 32 0)),(400,.bs 32 p.2)]) (fun(p:Nat×By)=>p.1<=n) (fun(p:Nat×By)=>n-p.1) [] 656 (0,replicate 32 0) (by simp) ?_
 rintro⟨k,m⟩ hI R hR
 dsimp only at hI
 refine cB ((k:Int)<(n:Int)) (fun h3=>?_) fun h3=>?_
 ·have hk:=hg k zO
  refine cC ((0:Int)<=(k:Int)/\(k:Int)<(n:Int)) ?_;refine cB ((g k).seq≠(k:Int)) (fun h4=>?_) fun h4=>?_
  ·exact xW hX (A2 [.bs 32 (replicate 32 0),.i .i64 10]) ⟨rfl,rfl,⟨_,_,rfl⟩⟩
  refine cK [] (pX m (g k) bd) ?_
  rintro out A0 ⟨rfl,⟨lm1,le1,rfl⟩⟩
  exact cA hX (hR (k+1,lm1) bd (by dsimp only;omega)) (hS:=⟨v0,v0,v0,v0,(vS bd),zT⟩)
 exact xW hX (A2 [.bs 32 m,.i .i64 0]) ⟨rfl,rfl,⟨_,_,rfl⟩⟩
section
variable {P:Program} {Q:Exit->Act->World->Prop} {n:Nat} {σ:Nat->Value} {w w0:World} {K:Act->World->Prop}
 {ty:TypeId} {pos:String} {aft:Array Edge} {g:Option (Nat×Bool)} {d:Nat} {t yt:TypeId} {x y z:Operand} {S:List Nat} {L:List Ch}
theorem GR{b k:Nat}{C':List Value}{T:TypeId}(H:Hp w0 w S L)(hi:L[i]? =some (.blk b C T))(hx:ev n σ x=.pointer (some ⟨b,0,none⟩))(hy:ev n σ y=.agg C'.toArray)
  (hs:K0 P t=some k)(h1:C'.all (·.oneCell')=true)(hk:C.length=k)(i6:C'.length=k)
  (h:∀w',Hp w0 w' S (L.set i (.blk b C' T))->K (mk n σ) w'):Oper.wp P ⟨none,.store t x y,ty,pos,aft,g⟩ (mk n σ) w K Q:=
 iV H hi hx hy (by rw[hs,bL,i6]) (by rw[nC];exact h1) (by rw[bL,hk,i6]) fun w' H'=>h w' H'
structure Gl (α:Type) where
 a:Option Addr
 len:Nat
 cap:Nat
 l:List α
def Gl.v{α:Type}(s:Gl α):Value:=.slice s.a s.len s.cap
structure Gl.ok {α:Type} (enc:α->List Value) (sz:Nat) (s:Gl α) (w:World):Prop where
 rd:RdS w s.a (s.l.flatMap enc)
 ln:s.l.length=s.len
 le:s.len<=s.cap
 mx:s.cap<=maxLen
 sz:∀c∈s.l,(enc c).length=sz
theorem Gl.ok.up{enc:α->List Value}{sz:Nat}{s:Gl α}(hs:s.ok enc sz w0)(H:Hp w0 w [] L):s.ok enc sz w:=⟨H.rd hs.rd (U9 _),hs.ln,hs.le,hs.mx,hs.sz⟩
theorem yG{α:Type}{enc:α->List Value}{sz:Nat}:∀{l:List α},(∀c∈l,(enc c).length=sz)->(l.flatMap enc).length=l.length*sz
|[],_=>by simp
|c::l,h=>by
  rw[iA,C9,h c (by simp),yG (l:=l) (fun c hc=>h c (by simp[hc])),I4,G7,Nat.add_comm]
theorem XA{α:Type}{enc:α->List Value}{sz:Nat}{c:α}:∀{l:List α} {k:Nat},(∀c∈l,(enc c).length=sz)->l[k]? =some c->((l.flatMap enc).drop (k*sz)).take sz=enc c
|[],k,_,h=>by simp at h
|b::l,0,hs,h=>by
  simp at h;subst h
  have:=hs b (by simp)
  rw[Nat.zero_mul,qC,iA, <-this,List.take_left]
|b::l,k+1,hs,h=>by
  have hb:=hs b (by simp)
  rw[G7,Nat.add_comm,iA, <-List.drop_drop, <-hb,List.drop_left,hb]
  exact XA (fun c hc=>hs c (by simp[hc])) (by simpa using h)
theorem Gl.ok.addr{enc:α->List Value}{sz:Nat}{s:Gl α}(h:s.ok enc sz w)(hz:0<sz)(hp:0<s.len):∃b o,s.a=some ⟨b,o,none⟩:=
 h.rd.addr (by rw[yG h.sz,h.ln];exact Nat.mul_pos hp hz)
theorem NA{enc:α->List Value}{sz:Nat}{s:Gl α}{b k:Nat}{c:α}(hs:s.ok enc sz w)(ha:s.a=some ⟨b,o,none⟩)(hx:ev n σ x=.pointer (some ⟨b,o+k*sz,none⟩))(ht:T3 P t=some sz)(hz:0<sz)(hk:s.l[k]? =some c):
  (execOp (ev n σ) ⟨some d,.load t x,ty,pos,aft,g⟩).run P w=.ok (.value (.agg (enc c).toArray)) w:=by
 have hlt:k<s.l.length:=(N0.1 hk).1
 have:=Cz (P:=P) (w:=w) (t:=t) (d:=d) (ty:=ty) (pos:=pos) (aft:=aft) (g:=g) hs.rd ha hx ht hz (by
  rw[yG hs.sz]
  have:(k+1)*sz<=s.l.length*sz:=G6 _ hlt
  rw[G7]at this;exact this)
 rwa [XA hs.sz hk]at this
theorem Hp.glOwn{enc:α->List Value}(H:Hp w0 w S L){a:Option Nat}{sz:Nat}{l:List α}{T:TypeId}(hi:L[i]? =some (.own a len cap (l.flatMap enc) T sz))(hz:0<sz)(hs:∀c∈l,(enc c).length=sz):(⟨hd a,len,cap,l⟩:Gl α).ok enc sz w:=by
 have h:=H.ownLen hi
 refine⟨H.own hi,?_,h.2.1,h.2.2,hs⟩
 have h1:=h.1
 rw[yG hs]at h1
 exact OV hz h1
theorem GS{enc:α->List Value}{a:Option Nat}{len' sz bytes:Nat}{l l':List α}{e':TypeId}{tx:TypeId}{s:Gl α}(el:l++s.l=l')(en:len+s.len=len')(H:Hp w0 w S L)(hi:L[i]? =some (.own a len cap (l.flatMap enc) e sz))(hT:SlTy P t e sz bytes)(hu:P.underlying tx=some (.slice e'))
  (hx:ev n σ x=.slice (hd a) len cap)(hy:ev n σ y=s.v)(hs:s.ok enc sz w)(hz:0<sz)(h1:∀c∈s.l,(enc c).all (·.oneCell')=true)(hm:len'<=68719476736)(hb:bytes<=2048)
  (h:∀a' M4 w',Hp w0 w' S (L.set i (.own a' len' M4 (l'.flatMap enc) e sz))->K (mk n (up σ d (.slice (hd a') len' M4))) w'):
  Oper.wp P ⟨some d,.call ⟨.builtin .append, #[x,y], #[t,tx]⟩,ty,pos,aft,g⟩ (mk n σ) w K Q:=by
 subst el en
 have dF:∀u∈s.l.flatMap enc,u.oneCell'=true:=by
  intro u hu
  obtain⟨c,hc,huc⟩:=List.mem_flatMap.1 hu
  exact Q8.1 (h1 c hc) u huc
 refine PJ (m:=s.len) (news:=s.l.flatMap enc) H hi hT hx hy (RdS.src hu hs.rd (by rw[yG hs.sz,hs.ln]) hz dF) hz zO (L6 (Nat.mul_le_mul hm hb) (by decide)) fun a' M4 w' H'=>h a' M4 w' ?_
 rw[List.flatMap_append];exact H'
theorem Rl(sz:Nat)(zs vs:List Value)(h1:zs.length=sz)(h2:vs.length=sz):Instr.fill (fun i=>some (i*sz,sz)) zs.toArray [(0,.agg vs.toArray)]=some vs.toArray:=by
 have h:∀(vs done zs:List Value),zs.length=vs.length->(vs.zipIdx done.length).foldl (fun(K8:Array Value) (p:Value×Nat)=>K8.setIfInBounds p.2 p.1) (done++zs).toArray=(done++vs).toArray:=by
  intro vs
  induction vs with
 |nil=>intro done zs hz;have:zs=[]:=j7.1 (by simpa using hz);subst this;simp
 |cons v vs ih=>
   intro done zs hz
   cases zs with
  |nil=>simp at hz
  |cons z zs=>
    have:=ih (done++[v]) zs (by simpa using hz)
    simp only[C9,x4,H8,List.singleton_append]at this
    rw[<-this,List.zipIdx_cons,List.foldl_cons]
    congr 1
    simp[List.set_append]
 have:=h vs [] zs zO
 simp only[Instr.fill,Value.cells,Nat.zero_mul]
 rw[if_neg (by simp[h1,h2])]
 simpa [J2] using this
theorem NB{enc:α->List Value}{sz bytes:Nat}{F2:Array (Nat×Operand)}(c:α)(H:Hp w0 w S L)(hT:SlTy P t e sz bytes)(hz:zeroCells P e=some zs)(eF:zs.length=sz)(h0:0<sz)(hsm:sz<=16777216)
  (hp:W6 n σ F2.toList=[(0,.agg (enc c).toArray)])(hc:(enc c).length=sz)
  (h:∀b w',Hp w0 w' S (L++[.own (some b) 1 1 ([c].flatMap enc) e sz])->w0.heap.size<=b->K (mk n (up σ d (.slice (hd (some b)) 1 1))) w'):
  Oper.wp P ⟨some d,.buildSlice t 1 F2,ty,pos,aft,g⟩ (mk n σ) w K Q:=by
 refine sJ (cells:=(enc c).toArray) H hT hz h0 hp zO ?_ fun b w' H' hb=>h b w' ?_ hb
 ·have rH:((Array.range (1*sz)).map (zs.toArray[· % zs.toArray.size]!)).toList.length=sz:=by simp
  have:=Rl sz ((Array.range (1*sz)).map (zs.toArray[· % zs.toArray.size]!)).toList (enc c) rH hc
  rwa [Array.toArray_toList]at this
 have:=H'.toOwn (i:=L.length) (len:=1) (cap:=1) (sz:=sz) (b:=b) (C:=enc c) (T:=e) (by simp) (B3 _) (by decide) zO
 rw[cY _ _ (B3 _),bN,W0 zO]at this
 simpa using this
theorem Rm{enc:α->List Value}{sz bytes:Nat}(H:Hp w0 w S L)(hT:SlTy P t e sz bytes)(hz:zeroCells P e=some zs)(h0:0<sz)
  (h:∀b w',Hp w0 w' S (L++[.own (some b) 0 0 (([]:List α).flatMap enc) e sz])->w0.heap.size<=b->K (mk n (up σ d (.slice (hd (some b)) 0 0))) w'):
  Oper.wp P ⟨some d,.buildSlice t 0 #[],ty,pos,aft,g⟩ (mk n σ) w K Q:=by
 refine sJ (pv:=[]) (cells:= #[]) H hT hz h0 rfl zO ?_ fun b w' H' hb=>h b w' ?_ hb
 ·simp[Instr.fill]
 have:=H'.toOwn (i:=L.length) (len:=0) (cap:=0) (sz:=sz) (b:=b) (C:=[]) (T:=e) (by simp) (B3 _) (by decide) (by simp)
 rw[cY _ _ (B3 _),bN]at this
 simpa using this
end
section
variable {P:Program} {Q:Exit->Act->World->Prop} {n:Nat} {σ:Nat->Value} {w w0:World} {K:Act->World->Prop}
 {ty:TypeId} {pos:String} {aft:Array Edge} {g:Option (Nat×Bool)} {d:Nat} {t yt:TypeId} {x y:Operand} {S:List Nat} {L:List Ch}
theorem Rn(he:O5 P e=true){xs:Array Value}{off:Nat}{v:Value}(hx:xs[off]? =some v):(part e xs off).run P w=.ok v w:=by simp[part,oK he,hx]
theorem Ro{t:TypeId}(hu:P.underlying t=some (.array m e))(he:P.underlying e=some (.int .u8))(hc:K0 P e=some 1)(dd:Nat)(a b:List UInt8)(ha:a.length=m)(hb:b.length=m):
  (Op.equalIn (dd+2) t (.agg (a.map V8).toArray) (.agg (b.map V8).toArray)).run P w=.ok (decide (a=b)) w:=by
 cases hi:P.info? e with
|none=>simp[K0,hi]at hc
|some i=>
  have hco:P.cellsOf e=1:=by simpa [K0,hi,Program.cellsOf] using hc
  rw[run_equalIn_array w (dd+1) _ _ hu hi,hco,PO he dd a b zO w _ (by simp[ha])]
  congr 1
  rw[uR]
  simp only[Q8,qF,beq_iff_eq,decide_eq_true_eq]
  constructor
  ·intro h
   apply V7
   intro j
   by_cases hj:j<m
   ·exact h j hj
   rw[V6 zO,V6 zO]
  rintro rfl j _;rfl
theorem Rp{α1 α2 α3 α4 α5 α6:Type}{c:Code}(G3:α1->α2->α3->α4->α5->α6->List (Nat×Value))(A:α1->α2->α3->α4->α5->α6->World->Prop)(μ:α1->α2->α3->α4->α5->α6->Nat)(i:α1)(k:α2)(x:α3)(o:α4)(p:α5)(q:α6)(hp:fits σ (G3 i k x o p q))(hA:A i k x o p q w)
  (h:∀i k x o p q τ w,A i k x o p q w->c.wp P (Exit.then (oI n (fun y:α1×α2×α3×α4×α5×α6=>G3 y.1 y.2.1 y.2.2.1 y.2.2.2.1 y.2.2.2.2.1 y.2.2.2.2.2) (fun y=>A y.1 y.2.1 y.2.2.1 y.2.2.2.1 y.2.2.2.2.1 y.2.2.2.2.2) (fun y=>μ y.1 y.2.1 y.2.2.1 y.2.2.2.1 y.2.2.2.2.1 y.2.2.2.2.2) (μ i k x o p q)) Q) (mk n (l7 τ (G3 i k x o p q))) w):(Code.loop c).wp P Q (mk n σ) w:=
 y7 (fun y:α1×α2×α3×α4×α5×α6=>G3 y.1 y.2.1 y.2.2.1 y.2.2.2.1 y.2.2.2.2.1 y.2.2.2.2.2) (fun y=>A y.1 y.2.1 y.2.2.1 y.2.2.2.1 y.2.2.2.2.1 y.2.2.2.2.2) (fun y=>μ y.1 y.2.1 y.2.2.1 y.2.2.2.1 y.2.2.2.2.1 y.2.2.2.2.2) (i,k,x,o,p,q) hp hA fun y τ w hA=>h y.1 y.2.1 y.2.2.1 y.2.2.2.1 y.2.2.2.2.1 y.2.2.2.2.2 τ w hA
end
section
variable {P:Program} {n:Nat} {σ:Nat->Value} {w:World}
 {ty:TypeId} {pos:String} {aft:Array Edge} {g:Option (Nat×Bool)} {d:Nat} {t:TypeId} {x:Operand}
def Gl.cut{α:Type}(s:Gl α)(sz l h m:Nat):Gl α:=⟨sa s.a l m sz,h-l,m-l,(s.l.drop l).take (h-l)⟩
end
section
open Go Go.MapKept
section
variable {κ:Type} [DecidableEq κ]
def S6(kv:κ->Value)(x:κ×Value×Nat):MapEntry:={ key:=kv x.1,val:=x.2.1,born:=x.2.2}
def dV(k:κ):List (κ×Value×Nat)->Nat->Option (Nat×Value)
|[],_=>none
|x::L,i=>if k=x.1 then some (i,x.2.1) else dV k L (i+1)
def O2(L:List (κ×Value×Nat))(k:κ):Option Value:=
 match L with
|[]=>none
|x::L=>if k=x.1 then some x.2.1 else O2 L k
def K4(k:κ)(v:Value)(c:Nat):List (κ×Value×Nat)->List (κ×Value×Nat)
|[]=>[(k,v,c)]
|x::L=>if k=x.1 then (k,v,x.2.2)::L else x::K4 k v c L
def f8(L:List (κ×Value×Nat))(k:κ)(c:Nat):Nat:=if (O2 L k).isSome then c else c+1
structure MOk (L:List (κ×Value×Nat)) (c:Nat):Prop where
 keys:(L.map (·.1)).Nodup
 born:(L.map (·.2.2)).Nodup
 old:∀x∈L,x.2.2<c
omit [DecidableEq κ] in
theorem MOk.nil:MOk ([]:List (κ×Value×Nat)) 0:=⟨List.nodup_nil,List.nodup_nil,fun _ h=>by cases h⟩
theorem XB(k j:κ)(v:Value)(c:Nat):∀L:List (κ×Value×Nat),O2 (K4 k v c L) j=if j=k then some v else O2 L j
|[]=>by simp[K4,O2]
|x::L=>by
  rw[K4]
  by_cases h:k=x.1
  ·rw[if_pos h,O2,O2, <-h];simp only
   by_cases hj:j=k<;>simp[hj]
  rw[if_neg h,O2,O2,XB k j v c L]
  by_cases hj:j=x.1
  ·rw[if_pos hj,if_pos hj,if_neg (fun e:j=k=>h (e.symm.trans hj))]
  rw[if_neg hj,if_neg hj]
theorem XC(k:κ)(v:Value)(c:Nat):∀(L:List (κ×Value×Nat)) (j:κ),j∈(K4 k v c L).map (·.1)↔j=k\/j∈L.map (·.1)
|[],j=>by simp[K4]
|x::L,j=>by
  rw[K4]
  by_cases h:k=x.1
  ·rw[if_pos h];simp[h]
  rw[if_neg h,U0,K6,XC k v c L j,U0,K6]
  constructor
  ·rintro(h1|h1|h1)<;>simp[h1]
  rintro(h1|h1|h1)<;>simp[h1]
theorem NC(k:κ)(v:Value)(c:Nat):∀(L:List (κ×Value×Nat)) (x:κ×Value×Nat),x∈K4 k v c L->x.2.2=c/\O2 L k=none\/∃y∈L,x.2.2=y.2.2
|[],x,h=>by
  simp only[K4,O9]at h
  subst h;exact .inl ⟨rfl,rfl⟩
|y::L,x,h=>by
  rw[K4]at h
  by_cases hk:k=y.1
  ·rw[if_pos hk]at h
   rcases K6.1 h with rfl|h
   ·exact .inr ⟨y,X8 ..,rfl⟩
   exact .inr ⟨x,Q9 _ h,rfl⟩
  rw[if_neg hk]at h
  rcases K6.1 h with rfl|h
  ·exact .inr ⟨x,X8 ..,rfl⟩
  rcases NC k v c L x h with⟨h1,h2⟩|⟨z,hz,h2⟩
  ·exact .inl ⟨h1,by rw[O2,if_neg hk];exact h2⟩
  exact .inr ⟨z,Q9 _ hz,h2⟩
theorem MOk.put{L:List (κ×Value×Nat)}(h:MOk L c)(k:κ)(v:Value):MOk (K4 k v c L) (f8 L k c):=by
 refine⟨?_,?_,fun x hx=>?_⟩
 ·have hk:=h.keys
  clear h
  induction L with
 |nil=>simp[K4]
 |cons x L ih=>
   rw[K4]
   rw[U0,qK]at hk
   by_cases e:k=x.1
   ·rw[if_pos e,U0,qK];exact⟨by simp only;rw[e];exact hk.1,hk.2⟩
   rw[if_neg e,U0,qK]
   refine⟨fun hm=>?_,ih hk.2⟩
   rcases(XC k v c L x.1).1 hm with h1|h1
   ·exact e h1.symm
   exact hk.1 h1
 ·have hb:=h.born
  have ho:=h.old
  clear h
  induction L with
 |nil=>simp[K4]
 |cons x L ih=>
   rw[K4]
   rw[U0,qK]at hb
   by_cases e:k=x.1
   ·rw[if_pos e,U0,qK];exact hb
   rw[if_neg e,U0,qK]
   refine⟨fun hm=>?_,ih hb.2 (fun y hy=>ho y (Q9 _ hy))⟩
   obtain⟨y,hy,he⟩:=J3.1 hm
   rcases NC k v c L y hy with⟨h1,_⟩|⟨z,hz,h2⟩
   ·have:=ho x (X8 ..);omega
   exact hb.1 (J3.2 ⟨z,hz,by rw[<-h2,he]⟩)
 unfold f8
 rcases NC k v c L x hx with⟨h1,h2⟩|⟨z,hz,h2⟩
 ·rw[h2];simp only[Option.isSome_none];rw[if_neg (by decide)];omega
 have:=h.old z hz
 split<;>omega
structure KeyOf (P:Program) (kt:TypeId) (kv:κ->Value):Prop where
 chk:∀(e:Bool) (k:κ) (w:World),(Instr.checkKey e 10000 kt (kv k)).run P w=.ok () w
 fnd:∀(k:κ) (L:List (κ×Value×Nat)) (w:World),(Instr.findKey kt (kv k) (L.map (S6 kv))).run P w=.ok (dV k L 0) w
 same:∀k,Instr.sameBits 10000 (kv k) (kv k)=true
theorem XD{P:Program}{kt:TypeId}{kv:κ->Value}{w:World}(he:∀k j:κ,(Op.equal kt (kv k) (kv j)).run P w=.ok (decide (k=j)) w)(k:κ):∀(L:List (κ×Value×Nat)) (i:Nat),(Instr.findAsking kt (kv k) (L.map (S6 kv)) i).run P w=.ok (dV k L i) w
|[],i=>rfl
|x::L,i=>by
  rw[U0,Instr.findAsking,D0]
  show((Op.equal kt (kv k) (kv x.1)).run P w).andThen _=_
  rw[he,dV]
  by_cases h:k=x.1
  ·rw[decide_eq_true h,if_pos h];rfl
  rw[decide_eq_false h,if_neg h];exact XD he k L (i+1)
theorem KeyOf.ask{kt:TypeId}{kv:κ->Value}(hwide:(match P.underlying kt with|some (.array _ _)|some (.struct _)=>true|_=>false)=true)(hc:∀(e:Bool) (k:κ) (w:World),(Instr.checkKey e 10000 kt (kv k)).run P w=.ok () w)
  (he:∀(k j:κ) (w:World),(Op.equal kt (kv k) (kv j)).run P w=.ok (decide (k=j)) w)(hs:∀k,Instr.sameBits 10000 (kv k) (kv k)=true):KeyOf P kt kv:=
 ⟨hc,fun k L w=>by rw[run_findKey_eq w hwide];exact XD (fun a b=>he a b w) k L 0,hs⟩
def B7(kv:κ->Value)(L:List (κ×Value×Nat))(c:Nat):Go.Obj:=.map (L.map (S6 kv)).toArray c
theorem XE(k:κ):∀(L:List (κ×Value×Nat)) (i:Nat),(dV k L i).map (·.2)=O2 L k
|[],_=>rfl
|x::L,i=>by
  rw[dV,O2]
  by_cases h:k=x.1
  ·rw[if_pos h,if_pos h];rfl
  rw[if_neg h,if_neg h];exact XE k L (i+1)
end
section
variable {κ:Type} [DecidableEq κ] {P:Program} {Q:Exit->Act->World->Prop} {n:Nat} {σ:Nat->Value} {w w0:World} {K:Act->World->Prop}
 {ty:TypeId} {pos:String} {aft:Array Edge} {g:Option (Nat×Bool)} {d:Nat} {t kt et:TypeId} {x y:Operand} {S:List Nat} {L:List Ch}
theorem Rq(kv:κ->Value)(H:Hp w0 w S L)(h:∀b w',Hp w0 w' S (L++[.obj b (B7 kv [] 0)])->w0.heap.size<=b->K (mk n (up σ d (.map (some b)))) w'):Oper.wp P ⟨some d,.makeMap t none,ty,pos,aft,g⟩ (mk n σ) w K Q:=by
 refine G4 (v:=.map (some w.heap.size)) (w':=w.alloc (.map #[] 0)) ?_ (h w.heap.size _ (H.new _ (.obj w.heap.size (B7 kv [] 0)) rfl (j4 w _)) H.size)
 rfl
theorem XF{kv:κ->Value}{M:List (κ×Value×Nat)}{b:Nat}{k:κ}{z:Value}(H:Hp w0 w S L)(hi:L[i]? =some (.obj b (B7 kv M c)))(hu:P.underlying t=some (.map kt et))(hK:KeyOf P kt kv)(hz:∀w,(zeroValue et).run P w=.ok z w)
  (hx:ev n σ x=.map (some b))(hy:ev n σ y=kv k)(ok:Bool):
  (execOp (ev n σ) ⟨some d,.lookup t x y ok,ty,pos,aft,g⟩).run P w=.ok (.value (if ok then .tuple #[(O2 M k).getD z,.bool (O2 M k).isSome] else (O2 M k).getD z)) w:=by
 have hb:w.heap[b]? =some (.map (M.map (S6 kv)).toArray c):=H.has _ (E2 hi)
 have hg:(Instr.lookup t (.map (some b)) (kv k) ok).run P w=.ok (if ok then .tuple #[(O2 M k).getD z,.bool (O2 M k).isSome] else (O2 M k).getD z) w:=by
  unfold Instr.lookup
  simp only[D0,run_underlying hu,F5,qI hb,hK.chk,hK.fnd]
  have hf:=hK.fnd k M w
  rw[<-XE k M 0]
  cases hm:dV k M 0 with
 |none=>rw[hm]at hf;cases ok<;>simp[hf,hz]
 |some r=>rw[hm]at hf;cases ok<;>simp[hf]
 simp only[execOp,hx,hy,D0,hg,F5]
 rfl
theorem Rr(k:κ){kv:κ->Value}(hK:KeyOf P kt kv):(Instr.keyThatStays (kv k) (kv k)).run P w=.ok (kv k) w:=by
 unfold Instr.keyThatStays
 rw[if_pos (hK.same k)];rfl
theorem XG{k:κ}:∀{M:List (κ×Value×Nat)} {i j:Nat} {v:Value},dV k M i=some (j,v)->∃x m,j=i+m/\M[m]? =some x/\x.1=k/\x.2.1=v
|[],_,_,_,h=>by cases h
|x::M,i,j,v,h=>by
  rw[dV]at h
  by_cases hk:k=x.1
  ·rw[if_pos hk]at h;cases h;exact⟨x,0,rfl,rfl,hk.symm,rfl⟩
  rw[if_neg hk]at h
  obtain⟨y,m,h1,h2,h3⟩:=XG h
  exact⟨y,m+1,zO,h2,h3⟩
theorem XH{k:κ}{v:Value}{c:Nat}:∀{M:List (κ×Value×Nat)} {i:Nat},dV k M i=none->K4 k v c M=M++[(k,v,c)]/\O2 M k=none
|[],_,_=>⟨rfl,rfl⟩
|x::M,i,h=>by
  rw[dV]at h
  by_cases hk:k=x.1
  ·rw[if_pos hk]at h;cases h
  rw[if_neg hk]at h
  obtain⟨h1,h2⟩:=XH (v:=v) (c:=c) h
  rw[K4,if_neg hk,h1,O2,if_neg hk];exact⟨rfl,h2⟩
theorem XI{kv:κ->Value}{k:κ}{v u:Value}{c:Nat}:∀{M:List (κ×Value×Nat)} {i j:Nat},dV k M i=some (j,u)->((M.map (S6 kv)).modify (j-i) fun e=>{ e with key:=kv k,val:=v })=(K4 k v c M).map (S6 kv)/\O2 M k=some u/\i<=j
|[],_,_,h=>by cases h
|x::M,i,j,h=>by
  rw[dV]at h
  by_cases hk:k=x.1
  ·rw[if_pos hk]at h;cases h
   rw[K4,if_pos hk,O2,if_pos hk,bN]
   exact⟨by simp[S6],rfl,B3 _⟩
  rw[if_neg hk]at h
  obtain⟨h1,h2,h3⟩:=XI (kv:=kv) (v:=v) (c:=c) h
  rw[K4,if_neg hk,O2,if_neg hk]
  refine⟨?_,h2,zO⟩
  rw[show j-i=(j-(i+1))+1 by omega,U0,List.modify_succ_cons,h1,U0]
theorem XJ{kv:κ->Value}{M:List (κ×Value×Nat)}{b:Nat}{k:κ}{v:Value}{z:Operand}(H:Hp w0 w S L)(hi:L[i]? =some (.obj b (B7 kv M c)))(hu:P.underlying t=some (.map kt et))(hK:KeyOf P kt kv)
  (hx:ev n σ x=.map (some b))(hy:ev n σ y=kv k)(hv:ev n σ z=v)(h:∀w',Hp w0 w' S (L.set i (.obj b (B7 kv (K4 k v c M) (f8 M k c))))->K (mk n σ) w'):
  Oper.wp P ⟨none,.mapUpdate t x y z,ty,pos,aft,g⟩ (mk n σ) w K Q:=by
 have hb:w.heap[b]? =some (.map (M.map (S6 kv)).toArray c):=H.has _ (E2 hi)
 have uZ:=heap_set (o':=B7 kv (K4 k v c M) (f8 M k c)) hb
 have hg:(Instr.mapUpdate t (.map (some b)) (kv k) v).run P w=.ok () { w with heap:=w.heap.setIfInBounds b (B7 kv (K4 k v c M) (f8 M k c))}:=by
  unfold Instr.mapUpdate
  simp only[D0,run_underlying hu,F5,qI hb,hK.chk]
  have hf:=hK.fnd k M w
  cases hm:dV k M 0 with
 |none=>
   rw[hm]at hf
   obtain⟨h1,h2⟩:=XH (v:=v) (c:=c) hm
   have e:B7 kv (K4 k v c M) (f8 M k c)=.map ((M.map (S6 kv)).toArray.push { key:=kv k,val:=v,born:=c }) (c+1):=by
    rw[B7,h1,f8,h2];simp[S6]
   rw[e]
   simp[hf,zI _ hb]
 |some r=>
   obtain⟨j,u⟩:=r
   rw[hm]at hf
   obtain⟨h1,h2,_⟩:=XI (kv:=kv) (v:=v) (c:=c) hm
   obtain⟨xx,m,hj,hM,nK,_⟩:=XG hm
   rw[qH]at h1
   have hjm:j=m:=by omega
   subst hjm
   have e:B7 kv (K4 k v c M) (f8 M k c)=.map ((M.map (S6 kv)).toArray.modify j fun e=>{ e with key:=kv k,val:=v }) c:=by
    rw[B7, <-h1,f8,h2];simp
   have bR:(((M.map (S6 kv)).toArray[j]?).map (·.key)).getD (kv k)=kv k:=by
    simp[hM,S6,nK]
   have H9:=Rr (w:=w) k hK
   rw[e]
   simp only[hf,F5,CS]
   rw[D0,bR,H9,F5,zI _ hb]
 refine DC (w':={ w with heap:=w.heap.setIfInBounds b (B7 kv (K4 k v c M) (f8 M k c)) }) ?_ (h _ ?_)
 ·simp only[execOp,hx,hy,hv,D0,hg,F5];rfl
 refine H.turn hi (c':=.obj b (B7 kv (K4 k v c M) (f8 M k c))) uZ.1 (fun b' I1=>.inl I1) rfl rfl rfl (by simp) (fun b' _ D5=>?_)
 exact uZ.2 b' (fun e=>D5 (by rw[e];rfl))
end
end
section
open Go Go.MapKept
section
variable {κ:Type} [DecidableEq κ] {P:Program} {Q:Exit->Act->World->Prop} {n:Nat} {σ:Nat->Value} {w w0:World} {K:Act->World->Prop}
 {ty:TypeId} {pos:String} {aft:Array Edge} {g:Option (Nat×Bool)} {d:Nat} {t kt et:TypeId} {x y:Operand} {S:List Nat} {L:List Ch}
def cT(M:List (κ×Value×Nat))(k:κ):Nat:=
 match M with
|[]=>0
|x::M=>if k=x.1 then x.2.2 else cT M k
end
end
abbrev A6:={ l:List UInt8 // l.length=32}
section
variable {P:Program} {Q:Exit->Act->World->Prop} {n:Nat} {σ:Nat->Value} {w w0:World} {K:Act->World->Prop}
 {ty:TypeId} {pos:String} {aft:Array Edge} {g:Option (Nat×Bool)} {d:Nat} {t e k' yt:TypeId} {x y:Operand} {S:List Nat} {L:List Ch}
end
def keys(L:List Ch):List Nat:=L.filterMap Ch.key
def Own(w:World)(L:List Ch):Prop:=(∀c∈L,c.ok w)/\L.Pairwise fun c e=>∀b,c.key=some b->e.key≠some b
theorem Hp.owns(h:Hp w0 w S L):Own w L:=⟨h.has,h.nd⟩
theorem Own.sub{L':List Ch}(h:Own w L)(hs:L'.Sublist L):Own w L':=⟨fun c hc=>h.1 c (hs.subset hc),h.2.sublist hs⟩
theorem Rt{c e:Ch}(h:∀b,c.key=some b->e.key≠some b):∀b,e.key=some b->c.key≠some b:=fun b h1 h2=>h b h2 h1
theorem Hp.permL{L':List Ch}(h:Hp w0 w S L)(hp:L.Perm L'):Hp w0 w S L':=
 ⟨h.os,h.tape,h.output,h.size,h.frame,fun c hc=>h.has c (hp.mem_iff.2 hc),fun c hc=>h.fresh c (hp.mem_iff.2 hc),h.nd.perm hp (fun h=>Rt h)⟩
theorem yH{α:Type}{c:α}:∀{L:List α} {j:Nat},L[j]? =some c->L.Perm (c::L.eraseIdx j)
|a::L,0,h=>by cases h;exact .refl _
|a::L,j+1,h=>by
  have:=yH (L:=L) (j:=j) h
  exact(List.Perm.cons a this).trans (.swap ..)
theorem GT{L:List Ch}{b:Nat}:b∈keys L↔∃c∈L,c.key=some b:=List.mem_filterMap
theorem Own.start(h:Own w L):Hp w w (keys L) L:=
 ⟨rfl,rfl,rfl,B3 _,fun _ _ _=>rfl,h.1,fun c hc _ hb=>.inl (GT.2 ⟨c,hc,hb⟩),h.2⟩
theorem Hp.callG{L1 L1' Lr:List Ch}(h:Hp w0 w S L)(hL:L=L1++Lr)(hc:Hp w w' (keys L1) L1'):Hp w0 w' S (Lr++L1'):=by
 subst hL
 obtain⟨n1,n2,n3⟩:=IJ.1 h.nd
 have out:∀e∈Lr,∀b,e.key=some b->b<w.heap.size/\b∉keys L1:=fun e he b hb=>
  ⟨Ch.lt (h.has e (List.mem_append_right _ he)) hb,fun hm=>by
   obtain⟨c,u6,hcb⟩:=GT.1 hm
   exact n3 c u6 e he b hcb hb⟩
 refine⟨hc.os.trans h.os,hc.tape.trans h.tape,hc.output.trans h.output,L6 h.size hc.size,fun b hlt hn=>?_,fun c u6=>?_,fun c u6 b hb=>?_,?_⟩
 ·have hk:b∉keys L1:=fun hm=>by
   obtain⟨c,u6,hcb⟩:=GT.1 hm
   rcases h.fresh c (List.mem_append_left _ u6) b hcb with h1|h1
   ·exact hn h1
   omega
  exact(hc.frame b (X6 hlt h.size) hk).trans (h.frame b hlt hn)
 ·rcases S0.1 u6 with h1|h1
  ·exact Ch.ok_of (h.has c (List.mem_append_right _ h1)) fun b hb=>hc.frame b (out c h1 b hb).1 (out c h1 b hb).2
  exact hc.has c h1
 ·rcases S0.1 u6 with h1|h1
  ·exact h.fresh c (List.mem_append_right _ h1) b hb
  rcases hc.fresh c h1 b hb with h2|h2
  ·obtain⟨e,hem,heb⟩:=GT.1 h2
   exact h.fresh e (List.mem_append_left _ hem) b heb
  exact .inr (L6 h.size h2)
 refine IJ.2 ⟨n2,hc.nd,fun e he c u6 b hb S2=>?_⟩
 have ho:=out e he b hb
 rcases hc.fresh c u6 b S2 with h2|h2
 ·exact ho.2 h2
 omega
theorem Hp.own1{L1 Lr:List Ch}(h:Hp w0 w S L)(hL:L=L1++Lr):Own w L1:=by
 subst hL;exact h.owns.sub (CQ ..)
theorem Hp.ownP{LL L1 Lr:List Ch}(h:Hp w0 w S L)(hp:L.Perm LL)(hL:LL=L1++Lr):Own w L1:=(h.permL hp).own1 hL
theorem Hp.callP{LL L1 L1' Lr L':List Ch}(h:Hp w0 w S L)(hp:L.Perm LL)(hL:LL=L1++Lr)(hc:Hp w w' (keys L1) L1')(hq:(Lr++L1').Perm L'):Hp w0 w' S L':=
 ((h.permL hp).callG hL hc).permL hq
section
open Go Go.MapKept
section
variable {κ α:Type} [DecidableEq κ] {enc:α->Value} {M:List (κ×Value×Nat)} {F:κ->Option α}
def MIs(enc:α->Value)(M:List (κ×Value×Nat))(F:κ->Option α):Prop:=∀k,O2 M k=(F k).map enc
def bG(F:κ->Option α)(k:κ)(v:α):κ->Option α:=fun j=>if j=k then some v else F j
theorem MIs.nil:MIs enc ([]:List (κ×Value×Nat)) (fun _=>none):=fun _=>rfl
theorem MIs.put(h:MIs enc M F)(k:κ)(v:α)(c:Nat):MIs enc (K4 k (enc v) c M) (bG F k v):=fun j=>by
 rw[XB,bG,h j];split<;>rfl
theorem MIs.getD(h:MIs enc M F)(k:κ)(z:α):(O2 M k).getD (enc z)=enc ((F k).getD z):=by
 rw[h k];cases F k<;>rfl
theorem MIs.isSome(h:MIs enc M F)(k:κ):(O2 M k).isSome=(F k).isSome:=by
 rw[h k];cases F k<;>rfl
end
section
variable {κ α:Type} [DecidableEq κ] {P:Program} {n:Nat} {σ:Nat->Value} {w w0:World}
 {ty:TypeId} {pos:String} {aft:Array Edge} {g:Option (Nat×Bool)} {d:Nat} {t kt et:TypeId} {x y:Operand} {S:List Nat} {L:List Ch}
theorem Ru{kv:κ->Value}{enc:α->Value}{M:List (κ×Value×Nat)}{F:κ->Option α}{b:Nat}{k:κ}(z:α)(hF:MIs enc M F)(H:Hp w0 w S L)(hi:L[i]? =some (.obj b (B7 kv M c)))(hu:P.underlying t=some (.map kt et))(hK:KeyOf P kt kv)(hz:∀w,(zeroValue et).run P w=.ok (enc z) w)
  (hx:ev n σ x=.map (some b))(hy:ev n σ y=kv k):
  (execOp (ev n σ) ⟨some d,.lookup t x y false,ty,pos,aft,g⟩).run P w=.ok (.value (enc ((F k).getD z))) w:=by
 have:=XF (P:=P) (ty:=ty) (pos:=pos) (aft:=aft) (g:=g) (d:=d) H hi hu hK hz hx hy false
 rw[hF.getD]at this
 exact this
theorem XK{kv:κ->Value}{enc:α->Value}{M:List (κ×Value×Nat)}{F:κ->Option α}{b:Nat}{k:κ}(z:α)(hF:MIs enc M F)(H:Hp w0 w S L)(hi:L[i]? =some (.obj b (B7 kv M c)))(hu:P.underlying t=some (.map kt et))(hK:KeyOf P kt kv)(hz:∀w,(zeroValue et).run P w=.ok (enc z) w)
  (hx:ev n σ x=.map (some b))(hy:ev n σ y=kv k):
  (execOp (ev n σ) ⟨some d,.lookup t x y true,ty,pos,aft,g⟩).run P w=.ok (.value (.tuple #[enc ((F k).getD z),.bool (F k).isSome])) w:=by
 have:=XF (P:=P) (ty:=ty) (pos:=pos) (aft:=aft) (g:=g) (d:=d) H hi hu hK hz hx hy true
 rw[hF.getD,hF.isSome]at this
 exact this
end
end
section
open Go Go.MapKept
section
variable {κ α:Type} [DecidableEq κ] {P:Program} {Q:Exit->Act->World->Prop} {n:Nat} {σ:Nat->Value} {w w0:World} {K:Act->World->Prop}
 {ty:TypeId} {pos:String} {aft:Array Edge} {g:Option (Nat×Bool)} {d:Nat} {t kt et:TypeId} {x:Operand} {S:List Nat} {L:List Ch}
def T8(b:Nat)(M:List (κ×Value×Nat))(c:Nat)(A4:List κ):Go.Obj:=.mapIter (some b) c (A4.map (cT M)).toArray c
theorem XL{kv:κ->Value}{M:List (κ×Value×Nat)}{b:Nat}(H:Hp w0 w S L)(hi:L[i]? =some (.obj b (B7 kv M c)))(hu:P.underlying t=some (.map kt et))(hx:ev n σ x=.map (some b))
  (h:∀r w',Hp w0 w' S (L++[.obj r (T8 b M c [])])->w0.heap.size<=r->K (mk n (up σ d (.pointer (some ⟨r,0,none⟩)))) w'):Oper.wp P ⟨some d,.range t x,ty,pos,aft,g⟩ (mk n σ) w K Q:=by
 have hb:w.heap[b]? =some (.map (M.map (S6 kv)).toArray c):=H.has _ (E2 hi)
 have hg:=run_range_map w t kt et b _ c hu hb
 refine G4 (v:=.pointer (some ⟨w.heap.size,0,none⟩)) (w':=w.alloc (.mapIter (some b) c #[] c)) ?_ (h w.heap.size _ (H.new _ (.obj w.heap.size (T8 b M c [])) rfl (j4 w _)) H.size)
 simp only[execOp,hx,D0,hg,F5]
 rfl
theorem BO{M:List (κ×Value×Nat)}{k:κ}{v:Value}(h:O2 M k=some v):∃x∈M,x.1=k/\x.2.1=v/\x.2.2=cT M k:=by
 induction M with
|nil=>cases h
|cons y M ih=>
  rw[O2]at h
  by_cases e:k=y.1
  ·rw[if_pos e]at h;cases h
   exact⟨y,X8 ..,e.symm,rfl,by rw[cT,if_pos e]⟩
  rw[if_neg e]at h
  obtain⟨x,hx,h1,h2,h3⟩:=ih h
  exact⟨x,Q9 _ hx,h1,h2,by rw[cT,if_neg e];exact h3⟩
theorem Rv{M:List (κ×Value×Nat)}(hn:(M.map (·.1)).Nodup){x:κ×Value×Nat}(h:x∈M):O2 M x.1=some x.2.1/\cT M x.1=x.2.2:=by
 induction M with
|nil=>cases h
|cons y M ih=>
  rw[U0,qK]at hn
  rw[O2,cT]
  rcases K6.1 h with rfl|h
  ·rw[if_pos rfl,if_pos rfl];exact⟨rfl,rfl⟩
  have D5:x.1≠y.1:=fun e=>hn.1 (by rw[<-e];exact J3.2 ⟨x,h,rfl⟩)
  rw[if_neg D5,if_neg D5];exact ih hn.2 h
theorem born_inj{M:List (κ×Value×Nat)}(hb:(M.map (·.2.2)).Nodup){x y:κ×Value×Nat}(hx:x∈M)(hy:y∈M)(e:x.2.2=y.2.2):x=y:=by
 induction M with
|nil=>cases hx
|cons z M ih=>
  rw[U0,qK]at hb
  rcases K6.1 hx with h1|hx
  ·rcases K6.1 hy with h2|hy
   ·rw[h1,h2]
   exact absurd (J3.2 ⟨y,hy,by rw[<-e,h1]⟩) hb.1
  rcases K6.1 hy with h2|hy
  ·exact absurd (J3.2 ⟨x,hx,by rw[e,h2]⟩) hb.1
  exact ih hb.2 hx hy
theorem XM{kv:κ->Value}{enc:α->Value}{M:List (κ×Value×Nat)}{F:κ->Option α}{b:Nat}{A4:List κ}(H:Hp w0 w S L)(hi:L[i]? =some (.obj b (B7 kv M c)))(hj:L[j]? =some (.obj r (T8 b M c A4)))
  (hM:MOk M c)(hF:MIs enc M F)(hv:∀k∈A4,(F k).isSome=true)(hx:ev n σ x=.pointer (some ⟨r,0,none⟩))
  (h1:(∀k,(F k).isSome=true->k∈A4)->∀w',Hp w0 w' S L->K (mk n (up σ d (.tuple #[.bool false]))) w')
  (h2:∀k a,F k=some a->k∉A4->∀w',Hp w0 w' S (L.set j (.obj r (T8 b M c (A4++[k]))))->K (mk n (up σ d (.tuple #[.bool true,kv k,enc a]))) w'):
  Oper.wp P ⟨some d,.next x false,ty,pos,aft,g⟩ (mk n σ) w K Q:=by
 have hb:w.heap[b]? =some (.map (M.map (S6 kv)).toArray c):=H.has _ (E2 hi)
 have hr:w.heap[r]? =some (.mapIter (some b) c (A4.map (cT M)).toArray c):=H.has _ (E2 hj)
 have W4:∀k∈A4,∃y∈M,y.1=k/\y.2.2=cT M k:=fun k hk=>by
  have h3:=hv k hk
  rw[<-hF.isSome]at h3
  obtain⟨v,vF⟩:=hU.1 h3
  obtain⟨y,hy,e1,_,e3⟩:=BO vF
  exact⟨y,hy,e1,e3⟩
 rcases run_next_at (P:=P) w ty r b c c _ _ c hr hb (fun y hy=>by
   simp only[CS,J3]at hy
   obtain⟨z,hz,rfl⟩:=hy
   exact hM.old z hz) (B3 c) with⟨h0,I0⟩|⟨e,he,w1,rA,I0⟩
 ·refine G4 (v:=.tuple #[.bool false]) (w':=w) ?_ (h1 (fun k hk=>?_) w H)
  ·simp only[execOp,hx,D0,I0,F5];rfl
  rw[<-hF.isSome]at hk
  obtain⟨v,vF⟩:=hU.1 hk
  obtain⟨y,hy,e1,_,e3⟩:=BO vF
  have hemp:=Array.eq_empty_of_size_eq_zero h0
  rw[leftOf,Array.filter_eq_empty_iff]at hemp
  have:=hemp (S6 kv y) (by simp only[List.mem_toArray];exact J3.2 ⟨y,hy,rfl⟩)
  simp only[S6,Bool.not_eq_true,Bool.not_eq_false',List.contains_toArray,List.contains_iff_mem,J3]at this
  obtain⟨k',i6,e4⟩:=this
  obtain⟨z,hz,f1,f3⟩:=W4 k' i6
  have:=born_inj hM.born hz hy (by rw[f3,e4])
  rw[<-e1, <-this,f1];exact i6
 have fT:∃y∈M,e=S6 kv y/\∀k∈A4,cT M k≠y.2.2:=by
  rw[leftOf]at he
  simp only[Array.mem_toList_iff,Array.mem_filter,List.mem_toArray,J3]at he
  obtain⟨⟨y,hy,rfl⟩,hc⟩:=he
  refine⟨y,hy,rfl,fun k hk e=>?_⟩
  have:((A4.map (cT M)).toArray.contains (S6 kv y).born)=true:=by
   simp only[List.contains_toArray,List.contains_iff_mem,J3]
   exact⟨k,hk,e⟩
  rw[this]at hc;cases hc
 obtain⟨y,hy,rfl,hny⟩:=fT
 obtain⟨g1,g2⟩:=Rv hM.keys hy
 have hFa:∃a,F y.1=some a/\enc a=y.2.1:=by
  have:=hF y.1
  rw[g1]at this
  cases hf:F y.1 with
 |none=>rw[hf]at this;cases this
 |some a=>rw[hf]at this;exact⟨a,rfl,(qG this).symm⟩
 obtain⟨a,ha,hea⟩:=hFa
 have hH1:Hp w0 w1 S L:=by
  rcases rA with rfl|rfl
  ·exact H
  exact H.drew
 have hr1:w1.heap[r]? =some (.mapIter (some b) c (A4.map (cT M)).toArray c):=by rcases rA with rfl|rfl<;>exact hr
 have hito:(Go.Obj.mapIter (some b) c ((A4.map (cT M)).toArray.push (S6 kv y).born) c)=T8 b M c (A4++[y.1]):=by
  rw[T8,lH,U0,List.map_nil,g2];simp[S6]
 rw[hito]at I0
 have uZ:=heap_set (o':=T8 b M c (A4++[y.1])) hr1
 refine G4 (v:=.tuple #[.bool true,kv y.1,enc a]) (w':=ChangeMaps.setBlock w1 r (T8 b M c (A4++[y.1]))) ?_ (h2 y.1 a ha (fun hk=>hny _ hk g2) _ ?_)
 ·simp only[execOp,hx,D0,I0,F5,hea];rfl
 refine hH1.turn hj (c':=.obj r (T8 b M c (A4++[y.1]))) uZ.1 (fun b' I1=>.inl I1) rfl rfl rfl (by simp[ChangeMaps.setBlock]) (fun b' _ D5=>?_)
 exact uZ.2 b' (fun e=>D5 (by rw[e];rfl))
theorem XN{kv:κ->Value}{enc:α->Value}{M:List (κ×Value×Nat)}{F:κ->Option α}{b:Nat}{A4:List κ}{k:κ}{a:α}(H:Hp w0 w S L)(hi:L[i]? =some (.obj b (B7 kv M c)))(hj:L[j]? =some (.obj r (T8 b M c (A4++[k]))))
  (hM:MOk M c)(hF:MIs enc M F)(ha:F k=some a)(hx:ev n σ x=.pointer (some ⟨r,0,none⟩)):
  (execOp (ev n σ) ⟨some d,.entry x,ty,pos,aft,g⟩).run P w=.ok (.value (.tuple #[kv k,enc a])) w:=by
 have hb:w.heap[b]? =some (.map (M.map (S6 kv)).toArray c):=H.has _ (E2 hi)
 have hr:w.heap[r]? =some (.mapIter (some b) c ((A4++[k]).map (cT M)).toArray c):=H.has _ (E2 hj)
 have hg:=hF k
 rw[ha]at hg
 obtain⟨y,hy,e1,e2,e3⟩:=BO hg
 have I0:=run_entry_at (P:=P) w r b c ((A4.map (cT M)).toArray) _ c (S6 kv y) (by rw[hr];simp[S6,e3]) hb (by simp only[CS];exact J3.2 ⟨y,hy,rfl⟩) (by
  have:=hM.born
  simpa [List.map_map,Function.comp_def,S6] using this)
 simp only[execOp,hx,D0,I0,F5,S6,e1,e2]
 rfl
end
theorem BP{α:Type} [DecidableEq α]:∀{l m:List α},l.Nodup->(∀x∈l,x∈m)->l.length<=m.length
|[],m,_,_=>L8 _
|a::l,m,hn,hs=>by
  rw[qK]at hn
  have h1:=BP (l:=l) (m:=m.erase a) hn.2 (fun x hx=>(List.mem_erase_of_ne (fun e=>hn.1 (by rw[<-e];exact hx))).2 (hs x (Q9 _ hx)))
  have h2:=List.length_erase_of_mem (hs a (X8 ..))
  have h3:=List.length_pos_of_mem (hs a (X8 ..))
  rw[I4];omega
theorem XO{κ:Type} [DecidableEq κ]{enc:α->Value}{M:List (κ×Value×Nat)}{F:κ->Option α}(hF:MIs enc M F){A4:List κ}(hn:A4.Nodup)(hv:∀k∈A4,(F k).isSome=true):A4.length<=M.length:=by
 have:=BP (m:=M.map (·.1)) hn (fun x hx=>by
  have h1:=hv x hx
  rw[<-hF.isSome]at h1
  obtain⟨v,h2⟩:=hU.1 h1
  obtain⟨y,hy,e,_⟩:=BO h2
  exact J3.2 ⟨y,hy,e⟩)
 rwa [J4]at this
theorem GU{κ:Type} [DecidableEq κ]{F:κ->Option α}{A4:List κ}{k:κ}{a:α}(hn:A4.Nodup)(hv:∀k∈A4,(F k).isSome=true)(hf:F k=some a)(hk:k∉A4):(A4++[k]).Nodup/\∀j∈A4++[k],(F j).isSome=true:=by
 refine⟨?_,fun j hj=>?_⟩
 ·rw[List.nodup_append]
  refine⟨hn,by simp,fun x hx y hy e=>?_⟩
  rw[O9]at hy
  exact hk (by rw[<-hy, <-e];exact hx)
 rcases S0.1 hj with h|h
 ·exact hv j h
 rw[O9.1 h,hf];rfl
end
structure Cut3 (C A B D:List Value) (a b:Nat):Prop where
 e:C=A++(B++D)
 ha:A.length=a
 hb:B.length=b
section
variable {C A B D V:List Value} {a b:Nat}
theorem Cut3.get{v:Value}(h:Cut3 C A [v] D a 1):C[a]? =some v:=by
 rw[h.e, <-h.ha,L7 (B3 _),bN];rfl
theorem Cut3.seg(h:Cut3 C A B D a b):(C.drop a).take b=B:=by
 rw[h.e, <-h.ha, <-h.hb,List.drop_left,List.take_left]
theorem Cut3.le(h:Cut3 C A B D a b):a+b<=C.length:=by
 rw[h.e,C9,C9,h.ha,h.hb];omega
theorem Cut3.set1{v u:Value}(h:Cut3 C A [v] D a 1):C.set a u=A++([u]++D):=by
 rw[h.e, <-h.ha,cY _ _ (B3 _),bN];rfl
theorem Rw{places:Nat->Option (Nat×Nat)}{k:Nat}{v:Value}{rest:List (Nat×Value)}(hp:places k=some (a,b))(h:Cut3 C A B D a b)(hv:v.cells.toList=V)(hl:V.length=b):
  Instr.fill places C.toArray ((k,v)::rest)=Instr.fill places (A++(V++D)).toArray rest:=by
 have hs:v.cells.size=b:=by rw[<-hl, <-hv,t1]
 have hn:¬ ((v.cells.size≠b||a+v.cells.size > C.toArray.size)=true):=by
  have:=h.le
  simp[hs];omega
 have h2:∀(vs done zs:List Value),zs.length=vs.length->(vs.zipIdx done.length).foldl (fun(K8:Array Value) (p:Value×Nat)=>K8.setIfInBounds (A.length+p.2) p.1) (A++done++zs++D).toArray=(A++done++vs++D).toArray:=by
  intro vs
  induction vs with
 |nil=>intro done zs hz;have:zs=[]:=j7.1 (by simpa using hz);subst this;simp
 |cons v vs ih=>
   intro done zs hz
   cases zs with
  |nil=>simp at hz
  |cons z zs=>
    have:=ih (done++[v]) zs (by simpa using hz)
    simp only[C9,x4,H8,List.singleton_append,t6,Y4]at this
    rw[List.zipIdx_cons,List.foldl_cons]
    simp only[H8,t6]
    rw[<-this]
    congr 1
    simp[List.set_append]
 have h3:=h2 V [] B (by rw[hl,h.hb])
 simp only[Instr.fill,hp]
 rw[if_neg hn]
 simp only[Z5,S1]at h3
 rw[h.ha]at h3
 have e1:v.cells.zipIdx.foldl (fun(K8:Array Value) (p:Value×Nat)=>K8.setIfInBounds (a+p.2) p.1) C.toArray=(A++(V++D)).toArray:=by
  rw[h.e, <-H8, <-H8, <-h3]
  have:v.cells.zipIdx=(V.zipIdx 0).toArray:=by rw[<-hv];simp[<-Array.toList_inj]
  rw[this];simp
 first|exact congrArg (fun z=>Instr.fill places z rest) e1|(rw[<-e1])
inductive Fills (places:Nat->Option (Nat×Nat)):List Value->List (Nat×Value)->List Value->Prop
|nil (C:List Value):Fills places C [] C
|cons {C A B D V E:List Value} {a b k:Nat} {v:Value} {rest:List (Nat×Value)}:places k=some (a,b)->Cut3 C A B D a b->v.cells.toList=V->V.length=b->Fills places (A++(V++D)) rest E->Fills places C ((k,v)::rest) E
theorem Fills.run{places:Nat->Option (Nat×Nat)}{C E:List Value}(h:Fills places C pv E):Instr.fill places C.toArray pv=some E.toArray:=by
 induction h with
|nil C=>rfl
|cons hp hc hv hl _ ih=>rw[Rw hp hc hv hl,ih]
end
section
variable {P:Program} {Q:Exit->Act->World->Prop} {n:Nat} {σ:Nat->Value} {w w0:World} {K:Act->World->Prop}
 {ty:TypeId} {pos:String} {aft:Array Edge} {g:Option (Nat×Bool)} {d:Nat} {t:TypeId} {x y:Operand} {S:List Nat} {L:List Ch} {C A B D:List Value} {a k:Nat}
theorem Rx{F2:Array (Nat×Operand)}{zs:Array Value}{places:Nat->Option (Nat×Nat)}{Z E:List Value}(hB:Bld P t zs places)(hz:zs=Z.toArray)(bO:W6 n σ F2.toList=pv)(hf:Fills places Z pv E):
  (execOp (ev n σ) ⟨some d,.build t F2,ty,pos,aft,g⟩).run P w=.ok (.value (.agg E.toArray)) w:=
 Ps hB bO (by rw[hz];exact hf.run)
theorem Ry{v:Value}{fs:Array Field}{f:Field}(hu:P.underlying t=some (.struct fs))(hf:fs[i]? =some f)(hc:O5 P f.type=true)(hx:ev n σ x=.agg C.toArray)(h:Cut3 C A [v] D f.offset 1):
  (execOp (ev n σ) ⟨some d,.field t x i,ty,pos,aft,g⟩).run P w=.ok (.value v) w:=
 Dg hu hf hc hx (by rw[fF];exact h.get)
theorem ND{b:Nat}{v:Value}{T:TypeId}(H:Hp w0 w S L)(hi:L[i]? =some (.blk b C T))(hx:ev n σ x=.pointer (some ⟨b,a,none⟩))(ht:O5 P t=true)(h:Cut3 C A [v] D a 1):
  (execOp (ev n σ) ⟨some d,.load t x,ty,pos,aft,g⟩).run P w=.ok (.value v) w:=Q5 H hi hx ht h.get
theorem NE{b:Nat}{T:TypeId}(H:Hp w0 w S L)(hi:L[i]? =some (.blk b C T))(hx:ev n σ x=.pointer (some ⟨b,a,none⟩))(ht:T3 P t=some k)(h:Cut3 C A B D a k):
  (execOp (ev n σ) ⟨some d,.load t x,ty,pos,aft,g⟩).run P w=.ok (.value (.agg B.toArray)) w:=by
 rw[<-h.seg];exact JP H hi hx ht h.le
theorem Rz{b:Nat}{v u:Value}{T:TypeId}(H:Hp w0 w S L)(hi:L[i]? =some (.blk b C T))(hx:ev n σ x=.pointer (some ⟨b,a,none⟩))(hy:ev n σ y=u)(hs:K0 P t=some 1)(h1:u.oneCell'=true)(hc:Cut3 C A [v] D a 1)
  (h:∀w',Hp w0 w' S (L.set i (.blk b (A++([u]++D)) T))->K (mk n σ) w'):Oper.wp P ⟨none,.store t x y,ty,pos,aft,g⟩ (mk n σ) w K Q:=by
 refine oN H hi hx hy hs h1 (by have:=hc.le;omega) fun w' H'=>h w' ?_
 rwa [hc.set1]at H'
end
section
open Go Go.MapKept
section
variable {P:Program} {Q:Exit->Act->World->Prop} {n:Nat} {σ:Nat->Value} {w w0:World} {K:Act->World->Prop}
 {ty:TypeId} {pos:String} {aft:Array Edge} {g:Option (Nat×Bool)} {d:Nat} {t kt et:TypeId} {x y:Operand} {S:List Nat} {L:List Ch}
theorem Sa{a:Option Addr}{l:Nat}(hu:P.underlying t=some (.slice e))(hg:P.eqGuardType P.depth t=false)(hx:ev n σ x=.slice a l c)(hy:ev n σ y=.slice none 0 0):
  (execOp (ev n σ) ⟨some d,.binOp .eql t x y yt,ty,pos,aft,g⟩).run P w=.ok (.value (.bool a.isNone)) w:=by
 have e3:(eqGuard .eql t x y (.slice a l c) (.slice none 0 0)).run P w=.ok () w:=by simp[eqGuard,hg]
 have e4:(binOp .eql t (.slice a l c) (.slice none 0 0)).run P w=.ok (.bool a.isNone) w:=by
  simp[binOp,run_equal_slice_nil w t e a l c hu]
 simp[execOp,hx,hy,e3,e4]
end
end
open Go.Proofs in
set_option maxHeartbeats 1000000 in
theorem Sb(s:ByteArray)(c:Int)(w:World):
  Calls Tryz.prog 247 #[.string s,.int .u8 c] w fun e w'=>e=.returned (.int .i64 (Lib.indexByte s.data.toList c.toNat.toUInt8))/\w'=w:=by
 go_enter Tryz.func247,Tryz.ntmps247
 go_wp2
 rw[run_callFunc_extern Tryz.func251 zK zK zK (e:=Extern.BytealgIndexByte.indexByte) zK,Lib.run_indexByteString]
 simp only[Result.andThen]
 rw[CK]
 go_wp2
 go_ret
 exact⟨rfl,rfl⟩
open Go.Proofs in
set_option maxHeartbeats 2000000 in
theorem Sc(s:ByteArray)(c:UInt8)(w:World):
  Calls Tryz.prog 246 #[.string s,.string ⟨#[c]⟩] w fun e w'=>e=.returned (.int .i64 (Lib.indexByte s.data.toList c))/\w'=w:=by
 go_enter Tryz.func246,Tryz.ntmps246
 go_wp2_with (go_at_call 247;refine(Sb _ _ _).mono ?_;rintro e w' ⟨rfl,rfl⟩)
 ·have h:([c]==s.toList)=true:=by assumption
  go_ret
  refine⟨?_,rfl⟩
  have e:s.data.toList=[c]:=by rw[<-Lib.toList_data];exact(beq_iff_eq.1 h).symm
  rw[e]
  simp[Lib.indexByte]
 go_ret
 exact⟨rfl,rfl⟩
open Go.Proofs in
set_option maxHeartbeats 1000000 in
theorem Sd(s:ByteArray)(c:UInt8)(w:World):
  Calls Tryz.prog 244 #[.string s,.string ⟨#[c]⟩] w fun e w'=>e=.returned (.int .i64 (Lib.indexByte s.data.toList c))/\w'=w:=by
 go_enter Tryz.func244,Tryz.ntmps244
 go_wp2_with (go_at_call 246;refine(Sc _ _ _).mono ?_;rintro e w' ⟨rfl,rfl⟩)
 go_ret
 exact⟨rfl,rfl⟩
open Go.Proofs in
set_option maxHeartbeats 1000000 in
theorem Se(s:ByteArray)(c:UInt8)(w:World):
  Calls Tryz.prog 236 #[.string s,.string ⟨#[c]⟩] w fun e w'=>e=.returned (.bool (decide (0<=Lib.indexByte s.data.toList c)))/\w'=w:=by
 go_enter Tryz.func236,Tryz.ntmps236
 go_wp2_with (go_at_call 244;refine(Sd _ _ _).mono ?_;rintro e w' ⟨rfl,rfl⟩)
 go_ret
 exact⟨rfl,rfl⟩
open Go.Proofs in
theorem Sf(l:List UInt8)(c:UInt8):decide (0<=Lib.indexByte l c)=decide (c∈l):=by
 rw[uR]
 simp only[decide_eq_true_eq]
 induction l with
|nil=>simp[Lib.indexByte]
|cons b l ih=>
  simp only[Lib.indexByte,K6]
  by_cases h:b=c
  ·subst h;simp
  have h1:(b==c)=false:=by simpa using h
  have h2:=Lib.indexByte_ge l c
  simp only[h1,zB,if_false,beq_iff_eq]
  constructor
  ·intro B1
   by_cases h3:Lib.indexByte l c= -1
   ·rw[if_pos h3]at B1;omega
   right;exact ih.1 zO
  rintro(h3|h3)
  ·exact absurd h3.symm h
  have:=ih.2 h3
  rw[if_neg zO];omega
theorem Sg(w:World)(s:List UInt8)(c:UInt8):Ret Tryz.prog 236 [.string ⟨s.toArray⟩,.string ⟨([c]:List UInt8).toArray⟩] w fun v w'=>v=.bool (decide (c∈s))/\w'=w:=by
 refine x5 (Se ⟨s.toArray⟩ c w) fun e w' ⟨he,hw⟩=>⟨_,he,?_,hw⟩
 rw[<-Sf]
open Go.Proofs in
set_option maxHeartbeats 1000000 in
theorem Sh(s p:ByteArray)(w:World):
  Calls Tryz.prog 204 #[.string s,.string p] w fun e w'=>e=.returned (.bool (Lib.hasPrefix s.data.toList p.data.toList))/\w'=w:=by
 rw[<-Lib.hasPrefix_of_take, <-Lib.size_eq, <-Lib.size_eq]
 go_enter Tryz.func204,Tryz.ntmps204
 go_wp2
 ·rename_i h
  go_ret
  refine⟨?_,rfl⟩
  show Ending.returned (Value.bool ((s.extract 0 p.size).toList==p.toList))=_
  rw[Lib.extract_toList,Lib.toList_data]
  simp[h]
 rename_i h
 go_ret
 refine⟨?_,rfl⟩
 show Ending.returned (Value.bool false)=_
 simp[h]
theorem Si(w:World)(s p:List UInt8):Ret Tryz.prog 204 [.string ⟨s.toArray⟩,.string ⟨p.toArray⟩] w fun v w'=>v=.bool (p.isPrefixOf s)/\w'=w:=
 x5 (Sh ⟨s.toArray⟩ ⟨p.toArray⟩ w) fun e w' ⟨he,hw⟩=>⟨_,he,rfl,hw⟩
theorem NF:∀(a b:List UInt8),Op.bytesLess a b=true↔a<b
|a,[]=>by cases a<;>simp[Op.bytesLess]
|[],b::bs=>by simp[Op.bytesLess]
|x::xs,y::ys=>by
  rw[Op.bytesLess,List.cons_lt_cons_iff, <-NF xs ys]
  simp
section
variable {P:Program} {n:Nat} {σ:Nat->Value} {w:World} {ty:TypeId} {pos:String} {aft:Array Edge} {g:Option (Nat×Bool)} {d:Nat} {t yt:TypeId} {x y:Operand}
end
theorem GV:∀a b:By,(Lib.compareBytes a b<0/\a<b)\/(Lib.compareBytes a b=0/\a=b)\/(0<Lib.compareBytes a b/\b<a)
|[],[]=>.inr (.inl ⟨rfl,rfl⟩)
|[],_::_=>.inl ⟨(by decide:(-1:Int)<0),by simp⟩
|_::_,[]=>.inr (.inr ⟨(by decide:(0:Int)<1),by simp⟩)
|x::a,y::b=>by
  rw[Lib.compareBytes]
  simp only[List.cons_lt_cons_iff,qE]
  split
  ·exact .inl ⟨by decide,.inl (by assumption)⟩
  split
  ·exact .inr (.inr ⟨by decide,.inl (by assumption)⟩)
  rename_i h1 h2
  obtain rfl:x=y:=UInt8.le_antisymm (UInt8.not_lt.1 h2) (UInt8.not_lt.1 h1)
  rcases GV a b with h|h|h
  ·exact .inl ⟨h.1,.inr ⟨rfl,h.2⟩⟩
  ·exact .inr (.inl ⟨h.1,rfl,h.2⟩)
  exact .inr (.inr ⟨h.1,.inr ⟨rfl,h.2⟩⟩)
theorem Sj{a b:By}(h:Lib.compareBytes a b<0):a<b:=by rcases GV a b with q|q|q<;>first|exact q.2|omega
theorem cmp_eq{a b:By}(h:Lib.compareBytes a b=0):a=b:=by rcases GV a b with q|q|q<;>first|exact q.2|omega
structure BsP (n:Nat) (c:Nat->Int) (j:Nat) (p:Bool):Prop where
 le:j<=n
 lo:j=0\/c (j-1)<0
 hi:j=n\/0<=c j
 ok:p=true->j<n/\c j=0
 no:p=false->j<n->c j≠0
theorem BsP.none{n:Nat}{c:Nat->Int}(h:¬ i<j)(h1:i<=j)(h2:j<=n)(lo:i=0\/c (i-1)<0)(hi:j=n\/0<=c j)(h0:¬ i<n):BsP n c i false:=by
 obtain rfl:i=j:=by omega
 exact⟨h2,lo,hi,fun h=>(by cases h),fun _ h=>absurd h h0⟩
theorem BsP.some{n:Nat}{c:Nat->Int}(h:¬ i<j)(h1:i<=j)(h2:j<=n)(lo:i=0\/c (i-1)<0)(hi:j=n\/0<=c j)(h0:i<n):BsP n c i (decide (c i=0)):=by
 obtain rfl:i=j:=by omega
 exact⟨h2,lo,hi,fun h=>⟨h0,of_decide_eq_true h⟩,fun h _=>of_decide_eq_false h⟩
section
variable {α:Type} {key:α->By} {n i j:Nat} {g:Nat->α} {x:α}
def AscK(key:α->By)(n:Nat)(g:Nat->α):Prop:=∀i j,i<j->j<n->key (g i)<key (g j)
theorem AscK.inj(h:AscK key n g)(hi:i<n)(hj:j<n)(e:key (g i)=key (g j)):i=j:=by
 rcases Nat.lt_trichotomy i j with q|q|q
 ·have:=h i j q hj;rw[e]at this;exact absurd this (List.lt_irrefl _)
 ·exact q
 have:=h j i q hi;rw[e]at this;exact absurd this (List.lt_irrefl _)
theorem AscK.at{y:By}(h:AscK key n g)(b:BsP n (fun k=>Lib.compareBytes (key (g k)) y) j false):(∀k,k<j->key (g k)<y)/\∀k,j<=k->k<n->y<key (g k):=by
 refine⟨fun k hk=>?_,fun k h1 h2=>?_⟩
 ·have hl:key (g (j-1))<y:=b.lo.elim (fun e=>absurd hk zO) Sj
  by_cases e:k=j-1
  ·rw[e];exact hl
  exact List.lt_trans (h k (j-1) zO (by have:=b.le;omega)) hl
 have hg:y<key (g j):=by
  have h3:0<=Lib.compareBytes (key (g j)) y:=b.hi.elim (fun e=>absurd h2 zO) id
  have h4:Lib.compareBytes (key (g j)) y≠0:=b.no rfl zO
  rcases GV (key (g j)) y with q|q|q
  ·omega
  ·omega
  exact q.2
 by_cases e:k=j
 ·rw[e];exact hg
 exact List.lt_trans hg (h j k zO h2)
def f9(g:Nat->α)(i:Nat)(x:α):Nat->α:=fun k=>bif blt k i then g k else bif beq k i then x else g (k-1)
def aC(g:Nat->α)(i:Nat):Nat->α:=fun k=>bif blt k i then g k else g (k+1)
def F7(g:Nat->α)(i:Nat)(x:α):Nat->α:=fun k=>bif beq k i then x else g k
def J8(n:Nat)(g:Nat->α)(x:α):Nat->α:=fun k=>bif blt k n then g k else x
theorem jN{a b:Nat}(h:¬ a<b):blt a b=false:=by rw[<-Bool.not_eq_true,A8];exact h
theorem GW{a b:Nat}(h:a<b):blt a b=true:=by rw[A8];exact h
theorem XP{a b:Nat}(h:a≠b):beq a b=false:=by cases e:beq a b;rfl;exact absurd (A5 e) h
theorem BQ(h:j<i):f9 g i x j=g j:=by unfold f9;rw[GW h];rfl
theorem XQ:f9 g i x i=x:=by unfold f9;rw[jN (Nat.lt_irrefl _),P7];rfl
theorem NG(h:i<=j):f9 g i x (j+1)=g j:=by unfold f9;rw[jN zO,XP zO];rfl
theorem uB(h:j<i):aC g i j=g j:=by unfold aC;rw[GW h];rfl
theorem yI(h:i<=j):aC g i j=g (j+1):=by unfold aC;rw[jN zO];rfl
theorem NH(h:j<n):J8 n g x j=g j:=by unfold J8;rw[GW h];rfl
theorem XR:J8 n g x n=x:=by unfold J8;rw[jN (Nat.lt_irrefl _)];rfl
theorem NI:F7 g i x i=x:=by unfold F7;rw[P7];rfl
theorem NJ(h:j≠i):F7 g i x j=g j:=by unfold F7;rw[XP h];rfl
theorem AscK.ins(h:AscK key n g)(hj:j<=n)(hl:∀k,k<j->key (g k)<key x)(hg:∀k,j<=k->k<n->key x<key (g k)):AscK key (n+1) (f9 g j x):=by
 intro a b U3 hb
 rcases Nat.lt_trichotomy b j with q|q|q
 ·rw[BQ q,BQ zO];exact h a b U3 zO
 ·subst q;rw[XQ,BQ U3];exact hl a U3
 obtain⟨b,rfl⟩:∃b',b=b'+1:=⟨b-1,zO⟩
 rw[NG zO]
 rcases Nat.lt_trichotomy a j with r|r|r
 ·rw[BQ r];exact h a b zO zO
 ·subst r;rw[XQ];exact hg b zO zO
 obtain⟨a,rfl⟩:∃a',a=a'+1:=⟨a-1,zO⟩
 rw[NG zO];exact h a b zO zO
theorem AscK.del(h:AscK key n g):AscK key (n-1) (aC g i):=by
 intro a b U3 hb
 by_cases q:b<i
 ·rw[uB q,uB zO];exact h a b U3 zO
 rw[yI (j:=b) zO]
 by_cases r:a<i
 ·rw[uB r];exact h a (b+1) zO zO
 rw[yI zO];exact h (a+1) (b+1) zO zO
theorem AscK.mk0:AscK key 0 g:=fun _ _ _ h=>absurd h (U2 _)
theorem NK(hi:i<=n)(hj:j<n):∃k,k<n+1/\f9 g i x k=g j:=by
 by_cases h:j<i
 ·exact⟨j,zO,BQ h⟩
 exact⟨j+1,zO,NG zO⟩
theorem Sk(hi:i<n)(hj:j<n)(h:j≠i):∃k,k<n-1/\aC g i k=g j:=by
 by_cases h1:j<i
 ·exact⟨j,zO,uB h1⟩
 exact⟨j-1,zO,by rw[yI zO,show j-1+1=j by omega]⟩
end
def K1(f:Nat->Bool):Nat->Nat
|0=>0
|n+1=>K1 f n+bif f n then 1 else 0
theorem GX{f f':Nat->Bool}:∀{n:Nat},(∀j,j<n->f j=f' j)->K1 f n=K1 f' n
|0,_=>rfl
|n+1,h=>by rw[K1,K1,GX fun j hj=>h j zO,h n zO]
theorem BR{f:Nat->Bool}:∀{n:Nat},(∀j,j<n->f j=false)->K1 f n=0
|0,_=>rfl
|n+1,h=>by rw[K1,BR fun j hj=>h j zO,h n zO];rfl
theorem XS{f:Nat->Bool}{i:Nat}:∀{n:Nat},i<n->K1 f n<=K1 (aC f i) (n-1)+1
|0,h=>absurd h (U2 _)
|n+1,h=>by
  by_cases q:i=n
  ·subst q
   rw[K1,show i+1-1=i by omega,GX (f':=aC f i) fun j hj=>(uB hj).symm]
   cases f i<;>simp
  have ih:=XS (f:=f) (i:=i) (n:=n) zO
  obtain⟨m,rfl⟩:∃m,n=m+1:=⟨n-1,zO⟩
  rw[show m+1+1-1=m+1 by omega]
  rw[show m+1-1=m by omega]at ih
  show K1 f (m+1)+(bif f (m+1) then 1 else 0)<=K1 (aC f i) m+(bif aC f i m then 1 else 0)+1
  rw[yI zO]
  omega
theorem yJ(h:i<j)(hj:j<4611686018427387904):i64.wrap ((u64.wrap (i64.wrap ((i:Int)+(j:Int)))).fdiv (2 ^ (min (1:Int).toNat 64)))=(((i+j) / 2:Nat):Int):=by
 have e1:i64.wrap ((i:Int)+(j:Int))=(i:Int)+(j:Int):=N4 ⟨zO,zO⟩
 have e2:u64.wrap ((i:Int)+(j:Int))=(i:Int)+(j:Int):=LP ⟨zO,zO⟩
 rw[e1,e2,show(2:Int) ^ (min (1:Int).toNat 64)=2 by decide,II _ zO]
 rw[N4 ⟨zO,zO⟩]
 omega
def gT(c:Nat->Int):Nat->Nat->Nat->Nat
|0,i,_=>i
|f+1,i,j=>if i<j then (if c ((i+j) / 2)<0 then gT c f ((i+j) / 2+1) j else gT c f i ((i+j) / 2)) else i
theorem Sm{c:Nat->Int}(h:i<j)(hc:c ((i+j) / 2)<0)(hI:∃f,j-i<=f/\gT c f i j=r):∃f,j-((i+j) / 2+1)<=f/\gT c f ((i+j) / 2+1) j=r:=by
 obtain⟨f,hf,he⟩:=hI
 obtain⟨f,rfl⟩:∃f',f=f'+1:=⟨f-1,zO⟩
 rw[gT,if_pos h,if_pos hc]at he
 exact⟨f,zO,he⟩
theorem Sn{c:Nat->Int}(h:i<j)(hc:¬ c ((i+j) / 2)<0)(hI:∃f,j-i<=f/\gT c f i j=r):∃f,(i+j) / 2-i<=f/\gT c f i ((i+j) / 2)=r:=by
 obtain⟨f,hf,he⟩:=hI
 obtain⟨f,rfl⟩:∃f',f=f'+1:=⟨f-1,zO⟩
 rw[gT,if_pos h,if_neg hc]at he
 exact⟨f,zO,he⟩
theorem GY{c:Nat->Int}(h:¬ i<j)(hI:∃f,j-i<=f/\gT c f i j=r):r=i:=by
 obtain⟨f,hf,he⟩:=hI
 cases f with
|zero=>exact he.symm
|succ f=>rw[gT,if_neg h]at he;exact he.symm
theorem vH{v:V}(h:i<j)(hj:j<4611686018427387904)(e:v=.i .i64 (i64.wrap ((u64.wrap (i64.wrap ((i:Int)+(j:Int)))).fdiv (2 ^ (min (1:Int).toNat 64)))):=by kernel_rfl):VEq v (.i .i64 (((i+j) / 2:Nat):Int)):=.of_eq (by rw[e,yJ h hj])
theorem GZ{v:V}(h:i<j)(hj:j<4611686018427387904)(e:v=.i .i64 (i64.wrap (i64.wrap ((u64.wrap (i64.wrap ((i:Int)+(j:Int)))).fdiv (2 ^ (min (1:Int).toNat 64)))+1)):=by kernel_rfl):VEq v (.i .i64 (((i+j) / 2+1:Nat):Int)):=.of_eq (by rw[e,yJ h hj,N4 ⟨zO,zO⟩];rfl)
theorem XT(a b:By):Sat Tryz.prog 157 [.bs 32 a,.bs 32 b] [] (fun out A0=>A0=[]/\(out=.i .i64 (Lib.compareBytes a b))):=by
 refine cF Tryz.func157 fun X0 w0 hX=>?_
 refine cK [] (WQ 1 1 a b) ?_;rintro out A0 ⟨rfl,rfl⟩
 exact xW hX (.i .i64 (Lib.compareBytes a b)) ⟨rfl,rfl,rfl⟩
theorem XU(x:Obj)(b:By):Sat Tryz.prog 156 [C3 x,.bs 32 b] [] (fun out A0=>A0=[]/\(out=.i .i64 (Lib.compareBytes x.of b))):=by
 refine cF Tryz.func156 fun X0 w0 hX=>?_
 refine cK [] (XT x.of b) ?_;rintro out A0 ⟨rfl,rfl⟩
 exact xW hX (.i .i64 (Lib.compareBytes x.of b)) ⟨rfl,rfl,rfl⟩
theorem XV(x:Doo)(b:By):Sat Tryz.prog 175 [D7 x,.bs 32 b] [] (fun out A0=>A0=[]/\(out=.i .i64 (Lib.compareBytes x.of b))):=by
 refine cF Tryz.func175 fun X0 w0 hX=>?_
 refine cK [] (XT x.of b) ?_;rintro out A0 ⟨rfl,rfl⟩
 exact xW hX (.i .i64 (Lib.compareBytes x.of b)) ⟨rfl,rfl,rfl⟩
theorem XW(t:TenR)(b:By):Sat Tryz.prog 71 [B2 t,.s b] [] (fun out A0=>A0=[]/\(out=.i .i64 (Lib.compareBytes t.name b))):=by
 refine cF Tryz.func71 fun X0 w0 hX=>?_
 refine cK [] (WQ 0 0 t.name b) ?_;rintro out A0 ⟨rfl,rfl⟩
 exact xW hX (.i .i64 (Lib.compareBytes t.name b)) ⟨rfl,rfl,rfl⟩
theorem XX(a:Int):Sat Tryz.prog 109 [.i .u64 a] [] (fun out A0=>A0=[]/\(∃c,out=.b c)):=by
 refine cF Tryz.func109 fun X0 w0 hX=>?_
 exact xW hX (.b (decide (a≠a))) ⟨rfl,rfl,⟨_,rfl⟩⟩
theorem XY(a:Int):Sat Tryz.prog 154 [.i .u64 a] [] (fun out A0=>A0=[]/\(∃c,out=.b c)):=by
 refine cF Tryz.func154 fun X0 w0 hX=>?_
 exact xW hX (.b (decide (a≠a))) ⟨rfl,rfl,⟨_,rfl⟩⟩
theorem So(a b:Int):Sat Tryz.prog 108 [.i .u64 a,.i .u64 b] [] (fun out A0=>A0=[]/\(∃c,out=.b c)):=by
 refine cF Tryz.func108 fun X0 w0 hX=>?_
 refine cK [] (XY a) ?_;rintro out A0 ⟨rfl,⟨rI,rfl⟩⟩
 refine cb (rI) (fun h1=>?_) fun h1=>?_
 ·refine cK [] (XY b) ?_
  rintro out A0 ⟨rfl,⟨pp1,rfl⟩⟩
  refine cn (pp1) (fun h2=>?_) fun h2=>?_
  ·exact xW hX (.b true) ⟨rfl,rfl,⟨_,rfl⟩⟩
  exact xW hX (.b (decide (a<b))) ⟨rfl,rfl,⟨_,rfl⟩⟩
 exact xW hX (.b (decide (a<b))) ⟨rfl,rfl,⟨_,rfl⟩⟩
theorem BS(n:Nat)(g:Nat->Int)(x:Int)(hn:n<1000000):Sat Tryz.prog 65 [.sl 0 1 n fun i=>.i .u64 (g i),.i .u64 x] [] (fun out A0=>A0=[]/\(∃(j:Nat) (p:Bool),out=A2 [.i .i64 j,.b p]/\j<=n/\(p=true->j<n))):=by
 refine cF Tryz.func65 fun X0 w0 hX=>?_
 refine cM hX (fun(p:Nat×Nat)=>[(0,.sl 0 1 n fun i=>.i .u64 (g i)),(1,.i .u64 x),(6,.i .i64 (n:Int)),(7,.i .i64 (p.1:Int)),(8,.i .i64 (p.2:Int))]) (fun(p:Nat×Nat)=>[]) (fun(p:Nat×Nat)=>p.1<=p.2/\p.2<=n) (fun(p:Nat×Nat)=>p.2-p.1) [] 528 (0,n) ⟨by simp,by simp⟩ ?_;rintro⟨i,j⟩ hI R hR
 dsimp only at hI
 refine cB ((i:Int)<(j:Int)) (fun h1=>?_) fun h1=>?_
 ·have hh:=yJ (show i<j by omega) (show j<4611686018427387904 by omega)
  refine cC ((0:Int)<=(i64.wrap ((u64.wrap (i64.wrap ((i:Int)+(j:Int)))).fdiv (2 ^ (min (1:Int).toNat 64))))/\(i64.wrap ((u64.wrap (i64.wrap ((i:Int)+(j:Int)))).fdiv (2 ^ (min (1:Int).toNat 64))))<(n:Int)) ?_ bw;refine cK [] (So (g (((i64.wrap ((u64.wrap (i64.wrap ((i:Int)+(j:Int)))).fdiv (2 ^ (min (1:Int).toNat 64))))).toNat)) x) ?_;rintro out A0 ⟨rfl,⟨rI,rfl⟩⟩
  refine cb (rI) (fun h2=>?_) fun h2=>?_
  ·exact cA hX (hR ((i+j) / 2+1,j) ⟨bd,bd⟩ (by dsimp only;omega)) (hS:=⟨v0,v0,v0,(GZ zO zO),v0,zT⟩)
  exact cA hX (hR (i,(i+j) / 2) ⟨bd,bd⟩ (by dsimp only;omega)) (hS:=⟨v0,v0,v0,v0,(vH zO zO),zT⟩)
 refine cB ((i:Int)<(n:Int)) (fun h3=>?_) fun h3=>?_
 ·refine cC ((0:Int)<=(i:Int)/\(i:Int)<(n:Int)) ?_
  refine cB ((g i)=x) (fun h4=>?_) fun h4=>?_
  ·exact xW hX (A2 [.i .i64 (i:Int),.b true]) ⟨rfl,rfl,⟨i,_,rfl,zO,by first|(intro h;simp at h;done)|(intro;omega)⟩⟩
  refine cC ((0:Int)<=(i:Int)/\(i:Int)<(n:Int)) ?_
  refine cK [] (XX (g i)) ?_;rintro out A0 ⟨rfl,⟨pp1,rfl⟩⟩
  refine cb (pp1) (fun h5=>?_) fun h5=>?_
  ·refine cK [] (XX x) ?_
   rintro out A0 ⟨rfl,⟨pp2,rfl⟩⟩
   exact xW hX (A2 [.i .i64 (i:Int),.b pp2]) ⟨rfl,rfl,⟨i,_,rfl,zO,by first|(intro h;simp at h;done)|(intro;omega)⟩⟩
  exact xW hX (A2 [.i .i64 (i:Int),.b false]) ⟨rfl,rfl,⟨i,_,rfl,zO,by first|(intro h;simp at h;done)|(intro;omega)⟩⟩
 exact xW hX (A2 [.i .i64 (i:Int),.b false]) ⟨rfl,rfl,⟨i,_,rfl,zO,by first|(intro h;simp at h;done)|(intro;omega)⟩⟩
theorem Sp(n:Nat)(g:Nat->Obj)(x:By)(hn:n<1000000):Sat Tryz.prog 155 [.sl 0 33 n fun i=>C3 (g i),.bs 32 x,.fn 156 0 fun _=>.un] [] (fun out A0=>A0=[]/\(∃(j:Nat) (p:Bool),out=A2 [.i .i64 j,.b p]/\j<=n/\BsP n (fun k=>Lib.compareBytes (g k).of x) j p)):=by
 refine cF Tryz.func155 fun X0 w0 hX=>?_
 refine cM hX (fun(p:Nat×Nat)=>[(0,.sl 0 33 n fun i=>C3 (g i)),(2,.fn 156 0 fun _=>.un),(4,.pr 16 0 []),(8,.i .i64 (n:Int)),(9,.i .i64 (p.1:Int)),(10,.i .i64 (p.2:Int))]) (fun(p:Nat×Nat)=>[(16,.bs 32 x)]) (fun(p:Nat×Nat)=>p.1<=p.2/\p.2<=n/\(p.1=0\/Lib.compareBytes (g (p.1-1)).of x<0)/\(p.2=n\/0<=Lib.compareBytes (g p.2).of x)) (fun(p:Nat×Nat)=>p.2-p.1) [] 592 (0,n) ⟨by simp,by simp,.inl rfl,.inl rfl⟩ ?_;rintro⟨i,j⟩ hI R hR
 dsimp only at hI
 refine cB ((i:Int)<(j:Int)) (fun h1=>?_) fun h1=>?_
 ·have hh:=yJ (show i<j by omega) (show j<4611686018427387904 by omega)
  refine cC ((0:Int)<=(i64.wrap ((u64.wrap (i64.wrap ((i:Int)+(j:Int)))).fdiv (2 ^ (min (1:Int).toNat 64))))/\(i64.wrap ((u64.wrap (i64.wrap ((i:Int)+(j:Int)))).fdiv (2 ^ (min (1:Int).toNat 64))))<(n:Int)) ?_ bw;refine cK [] (XU (g (((i64.wrap ((u64.wrap (i64.wrap ((i:Int)+(j:Int)))).fdiv (2 ^ (min (1:Int).toNat 64))))).toNat)) x) ?_;rintro out A0 ⟨rfl,rfl⟩
  refine cB ((Lib.compareBytes ((g (((i64.wrap ((u64.wrap (i64.wrap ((i:Int)+(j:Int)))).fdiv (2 ^ (min (1:Int).toNat 64))))).toNat)).of) x)<0) (fun h2=>?_) fun h2=>?_
  ·rw[hh]at h2
   exact cA hX (hR ((i+j) / 2+1,j) ⟨bd,bd,.inr h2,hI.2.2.2⟩ (by dsimp only;omega)) (hS:=⟨v0,v0,v0,v0,(GZ zO zO),v0,zT⟩)
  rw[hh]at h2
  exact cA hX (hR (i,(i+j) / 2) ⟨bd,bd,hI.2.2.1,.inr (Int.not_lt.1 h2)⟩ (by dsimp only;omega)) (hS:=⟨v0,v0,v0,v0,v0,(vH zO zO),zT⟩)
 refine cB ((i:Int)<(n:Int)) (fun h3=>?_) fun h3=>?_
 ·refine cC ((0:Int)<=(i:Int)/\(i:Int)<(n:Int)) ?_
  refine cK [] (XU (g i) x) ?_;rintro out A0 ⟨rfl,rfl⟩
  exact xW hX (A2 [.i .i64 (i:Int),.b (decide ((Lib.compareBytes ((g i).of) x)=0))]) ⟨rfl,rfl,⟨i,_,rfl,zO,by first|exact .some (c:=fun k=>Lib.compareBytes (g k).of x) zO hI.1 hI.2.1 hI.2.2.1 hI.2.2.2 zO|exact .none zO hI.1 hI.2.1 hI.2.2.1 hI.2.2.2 zO⟩⟩
 exact xW hX (A2 [.i .i64 (i:Int),.b false]) ⟨rfl,rfl,⟨i,_,rfl,zO,by first|exact .some (c:=fun k=>Lib.compareBytes (g k).of x) zO hI.1 hI.2.1 hI.2.2.1 hI.2.2.2 zO|exact .none zO hI.1 hI.2.1 hI.2.2.1 hI.2.2.2 zO⟩⟩
theorem Sq(n:Nat)(g:Nat->Doo)(x:By)(hn:n<1000000):Sat Tryz.prog 174 [.sl 0 33 n fun i=>D7 (g i),.bs 32 x,.fn 175 0 fun _=>.un] [] (fun out A0=>A0=[]/\(∃(j:Nat) (p:Bool),out=A2 [.i .i64 j,.b p]/\j<=n/\BsP n (fun k=>Lib.compareBytes (g k).of x) j p)):=by
 refine cF Tryz.func174 fun X0 w0 hX=>?_
 refine cM hX (fun(p:Nat×Nat)=>[(0,.sl 0 33 n fun i=>D7 (g i)),(2,.fn 175 0 fun _=>.un),(4,.pr 16 0 []),(8,.i .i64 (n:Int)),(9,.i .i64 (p.1:Int)),(10,.i .i64 (p.2:Int))]) (fun(p:Nat×Nat)=>[(16,.bs 32 x)]) (fun(p:Nat×Nat)=>p.1<=p.2/\p.2<=n/\(p.1=0\/Lib.compareBytes (g (p.1-1)).of x<0)/\(p.2=n\/0<=Lib.compareBytes (g p.2).of x)) (fun(p:Nat×Nat)=>p.2-p.1) [] 592 (0,n) ⟨by simp,by simp,.inl rfl,.inl rfl⟩ ?_;rintro⟨i,j⟩ hI R hR
 dsimp only at hI
 refine cB ((i:Int)<(j:Int)) (fun h1=>?_) fun h1=>?_
 ·have hh:=yJ (show i<j by omega) (show j<4611686018427387904 by omega)
  refine cC ((0:Int)<=(i64.wrap ((u64.wrap (i64.wrap ((i:Int)+(j:Int)))).fdiv (2 ^ (min (1:Int).toNat 64))))/\(i64.wrap ((u64.wrap (i64.wrap ((i:Int)+(j:Int)))).fdiv (2 ^ (min (1:Int).toNat 64))))<(n:Int)) ?_ bw;refine cK [] (XV (g (((i64.wrap ((u64.wrap (i64.wrap ((i:Int)+(j:Int)))).fdiv (2 ^ (min (1:Int).toNat 64))))).toNat)) x) ?_;rintro out A0 ⟨rfl,rfl⟩
  refine cB ((Lib.compareBytes ((g (((i64.wrap ((u64.wrap (i64.wrap ((i:Int)+(j:Int)))).fdiv (2 ^ (min (1:Int).toNat 64))))).toNat)).of) x)<0) (fun h2=>?_) fun h2=>?_
  ·rw[hh]at h2
   exact cA hX (hR ((i+j) / 2+1,j) ⟨bd,bd,.inr h2,hI.2.2.2⟩ (by dsimp only;omega)) (hS:=⟨v0,v0,v0,v0,(GZ zO zO),v0,zT⟩)
  rw[hh]at h2
  exact cA hX (hR (i,(i+j) / 2) ⟨bd,bd,hI.2.2.1,.inr (Int.not_lt.1 h2)⟩ (by dsimp only;omega)) (hS:=⟨v0,v0,v0,v0,v0,(vH zO zO),zT⟩)
 refine cB ((i:Int)<(n:Int)) (fun h3=>?_) fun h3=>?_
 ·refine cC ((0:Int)<=(i:Int)/\(i:Int)<(n:Int)) ?_
  refine cK [] (XV (g i) x) ?_;rintro out A0 ⟨rfl,rfl⟩
  exact xW hX (A2 [.i .i64 (i:Int),.b (decide ((Lib.compareBytes ((g i).of) x)=0))]) ⟨rfl,rfl,⟨i,_,rfl,zO,by first|exact .some (c:=fun k=>Lib.compareBytes (g k).of x) zO hI.1 hI.2.1 hI.2.2.1 hI.2.2.2 zO|exact .none zO hI.1 hI.2.1 hI.2.2.1 hI.2.2.2 zO⟩⟩
 exact xW hX (A2 [.i .i64 (i:Int),.b false]) ⟨rfl,rfl,⟨i,_,rfl,zO,by first|exact .some (c:=fun k=>Lib.compareBytes (g k).of x) zO hI.1 hI.2.1 hI.2.2.1 hI.2.2.2 zO|exact .none zO hI.1 hI.2.1 hI.2.2.1 hI.2.2.2 zO⟩⟩
def yL(n:Nat)(g:Nat->TenR)(x:By):Nat:=gT (fun k=>Lib.compareBytes (g k).name x) n 0 n
theorem NL(n:Nat)(g:Nat->TenR)(x:By)(hn:n<1000000):Sat Tryz.prog 70 [.sl 0 38 n fun i=>B2 (g i),.s x,.fn 71 0 fun _=>.un] [] (fun out A0=>A0=[]/\(∃p:Bool,out=A2 [.i .i64 (yL n g x),.b p]/\BsP n (fun k=>Lib.compareBytes (g k).name x) (yL n g x) p)):=by
 refine cF Tryz.func70 fun X0 w0 hX=>?_
 refine cM hX (fun(p:Nat×Nat)=>[(0,.sl 0 38 n fun i=>B2 (g i)),(1,.s x),(2,.fn 71 0 fun _=>.un),(8,.i .i64 (n:Int)),(9,.i .i64 (p.1:Int)),(10,.i .i64 (p.2:Int))]) (fun(p:Nat×Nat)=>[]) (fun(p:Nat×Nat)=>p.1<=p.2/\p.2<=n/\(∃f,p.2-p.1<=f/\gT (fun k=>Lib.compareBytes (g k).name x) f p.1 p.2=yL n g x)/\(p.1=0\/Lib.compareBytes (g (p.1-1)).name x<0)/\(p.2=n\/0<=Lib.compareBytes (g p.2).name x)) (fun(p:Nat×Nat)=>p.2-p.1) [] 528 (0,n) ⟨by simp,by simp,⟨n,by simp,rfl⟩,.inl rfl,.inl rfl⟩ ?_;rintro⟨i,j⟩ hI R hR
 dsimp only at hI
 refine cB ((i:Int)<(j:Int)) (fun h1=>?_) fun h1=>?_
 ·have hh:=yJ (show i<j by omega) (show j<4611686018427387904 by omega)
  refine cC ((0:Int)<=(i64.wrap ((u64.wrap (i64.wrap ((i:Int)+(j:Int)))).fdiv (2 ^ (min (1:Int).toNat 64))))/\(i64.wrap ((u64.wrap (i64.wrap ((i:Int)+(j:Int)))).fdiv (2 ^ (min (1:Int).toNat 64))))<(n:Int)) ?_ bw;refine cK [] (XW (g (((i64.wrap ((u64.wrap (i64.wrap ((i:Int)+(j:Int)))).fdiv (2 ^ (min (1:Int).toNat 64))))).toNat)) x) ?_;rintro out A0 ⟨rfl,rfl⟩
  refine cB ((Lib.compareBytes (g (((i64.wrap ((u64.wrap (i64.wrap ((i:Int)+(j:Int)))).fdiv (2 ^ (min (1:Int).toNat 64))))).toNat)).name x)<0) (fun h2=>?_) fun h2=>?_
  ·rw[hh]at h2
   exact cA hX (hR ((i+j) / 2+1,j) ⟨bd,bd,Sm zO h2 hI.2.2.1,.inr h2,hI.2.2.2.2⟩ (by dsimp only;omega)) (hS:=⟨v0,v0,v0,v0,(GZ zO zO),v0,zT⟩)
  rw[hh]at h2
  exact cA hX (hR (i,(i+j) / 2) ⟨bd,bd,Sn zO h2 hI.2.2.1,hI.2.2.2.1,.inr (Int.not_lt.1 h2)⟩ (by dsimp only;omega)) (hS:=⟨v0,v0,v0,v0,v0,(vH zO zO),zT⟩)
 refine cB ((i:Int)<(n:Int)) (fun h3=>?_) fun h3=>?_
 ·refine cC ((0:Int)<=(i:Int)/\(i:Int)<(n:Int)) ?_
  refine cK [] (XW (g i) x) ?_;rintro out A0 ⟨rfl,rfl⟩
  exact xW hX (A2 [.i .i64 (i:Int),.b (decide ((Lib.compareBytes (g i).name x)=0))]) ⟨rfl,rfl,⟨_,by rw[GY zO hI.2.2.1],by rw[GY zO hI.2.2.1];first|exact .some (c:=fun k=>Lib.compareBytes (g k).name x) zO hI.1 hI.2.1 hI.2.2.2.1 hI.2.2.2.2 zO|exact .none zO hI.1 hI.2.1 hI.2.2.2.1 hI.2.2.2.2 zO⟩⟩
 exact xW hX (A2 [.i .i64 (i:Int),.b false]) ⟨rfl,rfl,⟨_,by rw[GY zO hI.2.2.1],by rw[GY zO hI.2.2.1];first|exact .some (c:=fun k=>Lib.compareBytes (g k).name x) zO hI.1 hI.2.1 hI.2.2.2.1 hI.2.2.2.2 zO|exact .none zO hI.1 hI.2.1 hI.2.2.2.1 hI.2.2.2.2 zO⟩⟩
end Go.Proofs.YtibmfodphlmnfaaGreatDoor
