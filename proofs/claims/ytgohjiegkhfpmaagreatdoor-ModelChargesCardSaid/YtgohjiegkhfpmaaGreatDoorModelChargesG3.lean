/- Lemmas for the statement ModelCharges, part 3: rules of operations, walks through functions, plain laws. -/
import Derived.Test.YtgohjiegkhfpmaaGreatDoorModelChargesG2
import Derived.KernelRfl
import Derived.WideKeyRuns
set_option maxRecDepth 100000
set_option linter.all false
namespace Go.Proofs.YtgohjiegkhfpmaaGreatDoor
open Go
open Go.IntKind (i64 u64 u8 u32)
open List (replicate)
open Nat (beq blt)
open BitVec (ofInt)
variable {args:Array Operand} {cf:Cf} {X X' X0:Cx} {Q:Exit->Act->World->Prop} {fn:Func} {lv lv':List Nat} {cs es:List Value} {N c c' cap i j k m o r:Nat} {g':Nat->Nat} {G:Nat->Nat->Ow} {h h':Nat->Nat->V} {τ:Nat->Value} {P:Program} {α ι:Type} {v':V} {R:V->List (Nat × V)->List Nat->Prop} {x:Value} {w w' w0:World}
section
def D4(P:Program)(Q:Exit->Act->World->Prop):List K->Exit->Act->World->Prop
|[],e=>Q e
|.c x::k,e=>match e with|.normal=>x.wp P (D4 P Q k)|e=>D4 P Q k e
|.bl id::k,e=>match e with|.exit j=>fun a w=>if j=id then D4 P Q k .normal a w else D4 P Q k (.exit j) a w|e=>D4 P Q k e
|.ops all _ l::k,e=>match e with|.normal=>wpList P all (D4 P Q k) l|e=>D4 P Q k e
|.lp R::k,e=>match e with|.normal=>R|e=>D4 P Q k e
|.dr all L f::k,e=>match e with|.normal=>fun a w=>∃Y,V1 P .any all (D4 P Q k) f L Y a w|e=>D4 P Q k e
|.d1 all L f i::k,e=>match e with|.normal=>fun a w=>∃Y,wpOp P all (D4 P Q k) i (fun a' w'=>∃Y',Nxt (x6 all i) Y Y' w'/\V1 P .any all (D4 P Q k) f (L.setIfInBounds i true) Y' a' w') a w|e=>D4 P Q k e
def FW(P:Program)(Q:Exit->Act->World->Prop)(k:List K)(Y:Pm)(a:Act)(w:World):Prop:=match k with
|.dr all L f::k=>V1 P .any all (D4 P Q k) f L Y a w
|.d1 all L f i::k=>wpOp P all (D4 P Q k) i (fun a' w'=>∃Y',Nxt (x6 all i) Y Y' w'/\V1 P .any all (D4 P Q k) f (L.setIfInBounds i true) Y' a' w') a w
|k=>D4 P Q k .normal a w
theorem tM{k:List K}{Y:Pm}{a:Act}(h:FW P Q k Y a w):D4 P Q k .normal a w:=by
 cases k with
|nil=>exact h
|cons x k=>cases x<;>first|exact h|exact⟨Y,h⟩
def x8(X:Cx)(w:World):Pm:=⟨C8 X w,pI X⟩
theorem mR{st:Bool}(H':Wd X0 X' h' lv' c w0 w')(hz:∀b i x,X.G b i=.fz x->X'.G b i=.fz x)(hy:st=false->Yle (C8 X w) (C8 X' w')):Nxt st (x8 X w) (x8 X' w') w':=⟨hy,FB hz,H'.sy,H'.sy.mono (AR X' w')⟩
def At(X0:Cx)(w0:World)(s:T)(nm:Nat)(a:Act)(w:World):Prop:=∃X τ,a=mk s.n τ/\FrR X s.lv nm s.n s.σ τ/\Wd X0 X s.h s.lv nm w0 w
def AtY(X0:Cx)(w0:World)(s:T)(nm:Nat)(Y:Pm)(a:Act)(w:World):Prop:=∃X τ,a=mk s.n τ/\FrR X s.lv nm s.n s.σ τ/\Wd X0 X s.h s.lv nm w0 w/\Y=x8 X w
theorem AtY.at{s:T}{nm:Nat}{Y:Pm}{a:Act}(h:AtY X0 w0 s nm Y a w):At X0 w0 s nm a w:=by
 obtain⟨X,τ,h1,h2,h3,_⟩:=h
 exact⟨X,τ,h1,h2,h3⟩
theorem At.y{s:T}{nm:Nat}{a:Act}(h:At X0 w0 s nm a w):∃Y,AtY X0 w0 s nm Y a w:=by
 obtain⟨X,τ,h1,h2,h3⟩:=h
 exact⟨_,X,τ,h1,h2,h3,rfl⟩
def mS(Q:Exit->Act->World->Prop):Prop:=∀c (a:Act) d v w,Q (.panic c) (a.put d v) w->Q (.panic c) a w
def C1(s:T):List K->Nat
|.ops _ i _::_=>s.c+64*i
|_=>s.c
def Run(P:Program)(X0:Cx)(w0:World)(Q:Exit->Act->World->Prop)(f:Cf):Prop:=∀Y a w,AtY X0 w0 f.s (C1 f.s f.k) Y a w->FW P Q f.k Y a w
theorem At.up{s:T}{nm nm':Nat}{a:Act}(h:At X0 w0 s nm a w)(hn:nm<=nm'):At X0 w0 s nm' a w:=by
 obtain⟨X,τ,h1,h2,h3⟩:=h
 exact⟨X,τ,h1,h2.mono (Cx.le.rfl' X s.lv nm) hn,h3.up hn⟩
theorem AtY.up{s:T}{nm nm':Nat}{Y:Pm}{a:Act}(h:AtY X0 w0 s nm Y a w)(hn:nm<=nm'):AtY X0 w0 s nm' Y a w:=by
 obtain⟨X,τ,h1,h2,h3,h4⟩:=h
 exact⟨X,τ,h1,h2.mono (Cx.le.rfl' X s.lv nm) hn,h3.up hn,h4⟩
theorem Run.to{f:Cf}{a:Act}(h:Run P X0 w0 Q f)(ha:At X0 w0 f.s (C1 f.s f.k) a w):D4 P Q f.k .normal a w:=by
 obtain⟨Y,hy⟩:=ha.y
 exact tM (h Y a w hy)
theorem tO(x:Code)(k:List K):D4 P Q (.c x::k)=Exit.then (x.wp P (D4 P Q k)) (D4 P Q k):=by
 funext e;cases e<;>rfl
theorem tP(id:Nat)(k:List K):D4 P Q (.bl id::k)=Exit.inBlock id (D4 P Q k):=by
 funext e;cases e<;>rfl
theorem xR(all:Array Oper)(i:Nat)(l:List Oper)(k:List K):D4 P Q (.ops all i l::k)=Exit.then (wpList P all (D4 P Q k) l) (D4 P Q k):=by
 funext e;cases e<;>rfl
theorem mT(R:Act->World->Prop)(k:List K):D4 P Q (.lp R::k)=Exit.then R (D4 P Q k):=by
 funext e;cases e<;>rfl
theorem xS(all:Array Oper)(L:Array Bool)(f:Nat)(k:List K):D4 P Q (.dr all L f::k)=Exit.then (fun a w=>∃Y,V1 P .any all (D4 P Q k) f L Y a w) (D4 P Q k):=by
 funext e;cases e<;>rfl
theorem xT(all:Array Oper)(L:Array Bool)(f i:Nat)(k:List K):D4 P Q (.d1 all L f i::k)=Exit.then (fun a w=>∃Y,wpOp P all (D4 P Q k) i (fun a' w'=>∃Y',Nxt (x6 all i) Y Y' w'/\V1 P .any all (D4 P Q k) f (L.setIfInBounds i true) Y' a' w') a w) (D4 P Q k):=by
 funext e;cases e<;>rfl
theorem tQ{c}:∀{k:List K},D4 P Q k (.panic c)=Q (.panic c)
|[]=>rfl
|.bl i::k=>by rw[tP];exact tQ (k:=k)
|.c x::k=>by rw[tO];exact tQ (k:=k)
|.ops all i l::k=>by rw[xR];exact tQ (k:=k)
|.lp R::k=>by rw[mT];exact tQ (k:=k)
|.dr all L f::k=>by rw[xS];exact tQ (k:=k)
|.d1 all L f i::k=>by rw[xT];exact tQ (k:=k)
theorem tR{id:Nat}:∀{k k':List K},tI id k=some k'->D4 P Q k (.exit id)=D4 P Q k' .normal
|[],k',h=>by cases h
|.bl i::k,k',h=>by
  simp only[tI]at h
  rw[tP]
  funext a w
  simp only[Exit.inBlock]
  cases hb:beq i id
  ·rw[hb]at h
   have D5:¬ id=i:=fun e=>by subst e;rw[P6]at hb;cases hb
   rw[if_neg D5]
   exact congrFun (congrFun (tR h) a) w
  rw[hb]at h
  have:=A5 hb
  subst this
  rw[if_pos rfl]
  simp only[cond_true,F2]at h
  rw[h]
|.c x::k,k',h=>by rw[tO];exact tR (k:=k) h
|.ops all i l::k,k',h=>by rw[xR];exact tR (k:=k) h
|.lp R::k,k',h=>by rw[mT];exact tR (k:=k) h
|.dr all L f::k,k',h=>by rw[xS];exact tR (k:=k) h
|.d1 all L f i::k,k',h=>by rw[xT];exact tR (k:=k) h
theorem tT{id:Nat}:∀{k:List K},tI id k=none->D4 P Q k (.exit id)=Q (.exit id)
|[],_=>rfl
|.bl i::k,h=>by
  simp only[tI]at h
  rw[tP]
  funext a w
  simp only[Exit.inBlock]
  cases hb:beq i id
  ·rw[hb]at h
   have D5:¬ id=i:=fun e=>by subst e;rw[P6]at hb;cases hb
   rw[if_neg D5]
   exact congrFun (congrFun (tT h) a) w
  rw[hb]at h;cases h
|.c x::k,h=>by rw[tO];exact tT (k:=k) h
|.ops all i l::k,h=>by rw[xR];exact tT (k:=k) h
|.lp R::k,h=>by rw[mT];exact tT (k:=k) h
|.dr all L f::k,h=>by rw[xS];exact tT (k:=k) h
|.d1 all L f i::k,h=>by rw[xT];exact tT (k:=k) h
theorem tU:∀{k:List K},D4 P Q k .ret=Q .ret
|[]=>rfl
|.bl i::k=>by rw[tP];exact tU (k:=k)
|.c x::k=>by rw[tO];exact tU (k:=k)
|.ops all i l::k=>by rw[xR];exact tU (k:=k)
|.lp R::k=>by rw[mT];exact tU (k:=k)
|.dr all L f::k=>by rw[xS];exact tU (k:=k)
|.d1 all L f i::k=>by rw[xT];exact tU (k:=k)
def BD(P:Program)(Q:Exit->Act->World->Prop)(st:Bool)(k:List K)(Y:Pm)(a:Act)(w:World):Prop:=match k with
|.dr all L f::k=>∃Y',Nxt st Y Y' w/\V1 P .any all (D4 P Q k) f L Y' a w
|k=>D4 P Q k .normal a w
theorem xU{st:Bool}{k:List K}{Y Y':Pm}{a:Act}(h1:Nxt st Y Y' w)(h:FW P Q k Y' a w):BD P Q st k Y a w:=by
 cases k with
|nil=>exact h
|cons x k=>cases x<;>first|exact⟨Y',h1,h⟩|exact tM h
def Cx.zz(X:Cx):Cx:=⟨fun b i=>match X.G b i with|.rt _ _ _=>.no|x=>x,X.ρ,X.Φ,X.κ,X.ν,X.wr⟩
theorem TK(X:Cx)(lv:List Nat)(c:Nat):X.le X.zz lv lv c:=⟨fun b i x hx=>by simp only[Cx.zz,hx],fun b i t _ _ hx=>by simp only[Cx.zz,hx],fun _ h _=>h,fun _ _ _ _ _ h=>h,rfl⟩
theorem TL{b:Nat}:X.zz.G b i=X.G b i\/∃r j k,X.G b i=.rt r j k/\X.zz.G b i=.no:=by
 cases hg:X.G b i with
|rt r j k=>exact .inr ⟨r,j,k,rfl,by simp only[Cx.zz,hg]⟩
|_=>exact .inl (by simp only[Cx.zz,hg])
theorem Wd.zz{X0:Cx}{w0:World}(H:Wd X0 X h lv c w0 w):Wd X0 X.zz (fun _ _=>.un) lv c w0 w:=by
 have le:=TK X lv c
 have nn:∀b i,X.zz.G b i≠ .no->X.zz.G b i=X.G b i:=fun b i hn=>TL.elim id fun⟨_,_,_,_,e⟩=>absurd e hn
 refine { kb:=H.kb,tape:=H.tape,fz0:=fun b i x hx=>le.fz _ _ _ (H.fz0 b i x hx),no0:=fun b i hb hn=>?_,mp0:=fun b t hb hx=>H.mp0 b t hb (by rw[<-nn b 0 (by rw[hx];simp)];exact hx),ρ0:=H.ρ0,ex:=fun b i hn=>H.ex b i (by rw[<-nn b i hn];exact hn),fz:=fun b i x hx=>((H.fz b i x (by rw[<-nn b i (by rw[hx];simp)];exact hx)).move le.fz rfl fun _ _ h=>h),tp:=fun b i t hx=>H.tp b i t (by rw[<-nn b i (by rw[hx];simp)];exact hx),rt:=fun _ _ _ _ _ _=>trivial,c2:=H.c2,lvc:=H.lvc,ρc:=H.ρc,inv:=H.inv' le,imo:=H.imo,κc:=H.κc,νe:=H.νe,we:=H.we,gz:=H.gz,ν0:=H.ν0,νs:=H.νs,nf:=H.nf.sub fun b i _ hn=>.inl ⟨i,by rw[<-nn b i hn];exact hn⟩}
 rcases H.no0 b i hb hn with h|⟨t,h⟩
 ·exact .inl (by simp only[Cx.zz,h])
 exact .inr ⟨t,le.fz _ _ _ h⟩
theorem TM{u:World}(h:Sy (pI X) u):Sy (C8 X.zz w) u:=fun b i x hx=>h b i x (by
 unfold C8 at hx
 unfold pI
 rcases TL (X:=X) (b:=b) (i:=i) with e|⟨_,_,_,_,e⟩
 ·rw[e]at hx
  cases hg:X.G b i with
 |rt r j k=>simp only[Cx.zz,hg]at e;cases e
 |_=>rw[hg]at hx;exact hx
 rw[e]at hx;cases hx)
def LZ(P:Program)(X0:Cx)(w0:World)(Q:Exit->Act->World->Prop):Ev->Prop
|.fin e s=>∀a w,At X0 w0 s s.c a w->Q e a w
|.br p A B=>(p=true->Run P X0 w0 Q A)/\(p=false->Run P X0 w0 Q B)
|.chk p A=>p=true/\Run P X0 w0 Q A
|.call f l d nm A=>∀X τ w vs,FrR X A.s.lv nm A.s.n A.s.σ τ->Wd X0 X A.s.h A.s.lv nm w0 w->vs.length=l.length->(∀(i:Nat) v x,l[i]? =some v->vs[i]? =some x->repv X A.s.lv nm v x)->
   (match d with|some d=>d<A.s.n|none=>True)->Ret P f vs w fun v w'=>BD P Q (kS f) A.k (x8 X w) ((mk A.s.n τ).put d v) w'
|.loop b A=>∀a w,At X0 w0 A.s A.s.c a w->(Code.loop b).wp P (D4 P Q A.k) a w
|.alt l=>∀A,A∈l->Run P X0 w0 Q A
|.round R s=>∀a w,At X0 w0 s s.c a w->R a w
|.may p A B=>(p=true->Run P X0 w0 Q A)/\Run P X0 w0 Q B
|.ext o nm A=>∀X τ w,FrR X A.s.lv nm A.s.n A.s.σ τ->Wd X0 X A.s.h A.s.lv nm w0 w->(∀d',o.dst=some d'->d'<A.s.n)->
   (∃v w',(execOp (mk A.s.n τ).eval o).run P w=.ok (.value v) w'/\BD P Q false A.k (x8 X w) ((mk A.s.n τ).put o.dst v) w')\/∃w',(execOp (mk A.s.n τ).eval o).run P w=.ok .skip w'/\BD P Q false A.k (x8 X w) ((mk A.s.n τ).put o.dst undef) w'
|.bad _=>False
theorem Ml{a:Act}{o:Oper}{g:Option (Nat×Bool)}{N:Act->World->Prop}:Oper.wp P { o with guard:=g} a w N Q=Oper.wp P o a w N Q:=by cases o;rfl
theorem Mm{a:Act}{o:Oper}{g:Option (Nat×Bool)}:Oper.asks P { o with guard:=g} a w=Oper.asks P o a w:=by cases o;rfl
theorem tV{a:Act}{o:Oper}{rv:Value}{N:Act->World->Prop}(hr:(execOp a.eval o).run P w=.ok (.value rv) w')(h:N (a.put o.dst rv) w'):Oper.wp P o a w N Q:=by
 unfold Oper.wp;rw[hr,CX];exact h
theorem FY{a:Act}{o:Oper}{N:Act->World->Prop}(hr:(execOp a.eval o).run P w=.ok .skip w')(h:N (a.put o.dst undef) w'):Oper.wp P o a w N Q:=by
 unfold Oper.wp;rw[hr,Oper.upon_skip];exact h
theorem BE{all:Array Oper}{o:Oper}{r:List Oper}{a:Act}(hg:o.guard=none)(h:Oper.wp P o a w (wpList P all Q r) Q):wpList P all Q (o::r) a w:=by
 unfold wpList
 rw[if_pos (by unfold Region.wanted;rw[hg])]
 exact .inl h
theorem Mn{all:Array Oper}{o:Oper}{r:List Oper}{a:Act}{b:Bool}(hg:o.guard=some (j,b))(hy:yielded all a.tmps j=some b)(h:wpList P all Q ({ o with guard:=none}::r) a w):wpList P all Q (o::r) a w:=by
 unfold wpList at h ⊢
 rw[if_pos (by unfold Region.wanted;rw[hg];simp[hy])]
 rw[if_pos (by simp[Region.wanted])]at h
 rw[Ml,Mm]at h
 exact h
theorem Mo{all:Array Oper}{o:Oper}{r:List Oper}{a:Act}{b c:Bool}(hg:o.guard=some (j,b))(hy:yielded all a.tmps j=some c)(hc:(c==b)=false)(h:wpList P all Q r (a.put o.dst undef) w):wpList P all Q (o::r) a w:=by
 unfold wpList
 rw[if_neg (by unfold Region.wanted;rw[hg];simp only[hy];intro h';have:c=b:=(by simpa using h');subst this;simp at hc)]
 exact h
theorem tW{s:T}{nm:Nat}{d:Option Tmp}{v:V}(hF:FrR X lv nm s.n s.σ τ)(H:Wd X0 X h lv nm w0 w)(hd:∀d',d=some d'->d'<s.n)(hv:repv X lv nm v x):
  At X0 w0 ({ s with h:=h,lv:=lv }.put d v) nm ((mk s.n τ).put d x) w:=by
 cases d with
|none=>exact⟨X,τ,rfl,hF,H⟩
|some d=>exact⟨X,up τ d x,eR _ _ _ _,hF.put (hd d rfl) hv,H⟩
theorem jK{s:T}{nm:Nat}{d:Option Tmp}{v:V}(hF:FrR X lv nm s.n s.σ τ)(H:Wd X0 X h lv nm w0 w)(hd:∀d',d=some d'->d'<s.n)(hv:repv X lv nm v x)(c:Nat):
  AtY X0 w0 ({ s with h:=h,lv:=lv,c:=c }.put d v) nm (x8 X w) ((mk s.n τ).put d x) w:=by
 cases d with
|none=>exact⟨X,τ,rfl,hF,H,rfl⟩
|some d=>exact⟨X,up τ d x,eR _ _ _ _,hF.put (hd d rfl) hv,H,rfl⟩
theorem FZ{n:Nat}{o:Op}{d:Option Tmp}(h:f0 n o d=true)(hs:dV o=false):∃d',d=some d'/\d'<n:=by
 cases d with
|none=>simp[f0,hs]at h
|some d=>
  simp only[f0,A9,A8]at h
  exact⟨d,rfl,h.1⟩
theorem TN{n:Nat}{o:Op}{d:Option Tmp}(h:f0 n o d=true)(hs:dV o=true)(hc:mN o=false):d=none:=by
 cases d with
|none=>rfl
|some d=>simp[f0,hs,hc]at h
theorem TO{n:Nat}{o:Op}{d:Option Tmp}(h:f0 n o d=true)(hc:mN o=true):∃d',d=some d'/\d'<n:=by
 cases d with
|none=>simp[f0,hc]at h
|some d=>
  simp only[f0,A9,A8]at h
  exact⟨d,rfl,h.1⟩
theorem Mp{o:Op}(h:tH P o=true):dV o=false:=by
 unfold dV
 split
 ·cases h
 ·cases h
 ·cases h
 rfl
theorem TP{s:T}{nm:Nat}{ty:TypeId}{op:Op}{v:V}(H:Wd X0 X s.h s.lv nm w0 w)(hF:FrR X s.lv nm s.n s.σ τ)(hc:mN op=true)(ho:x7 (O0 P s nm ty op) v h' lv'):
  FT P X0 X s.lv nm s.n τ w0 w ty op v h' lv':=by
 unfold mN at hc
 split at hc
 rotate_left 1
 ·cases hc
 rename_i xs ts
 simp only[O0]at ho
 split at ho<;>try exact(E5 ho).elim
 all_goals first|(rename_i O9 _ _;cases O9;done)|(rename_i O9 _ _ _;cases O9;done)|skip
 rename_i x y t u _ e1 e2
 obtain rfl:xs= #[x,y]:=by apply U2;simpa using e1
 obtain rfl:ts= #[t,u]:=by apply U2;simpa using e2
 have key:∀{r a N cap b o M q:Nat} {p:List Stp} {A:Option Addr} {src:List UInt8},R9 P t=true->Z0 P u=true->ev s.n τ x=.slice A N cap->(A=some ⟨b,o+B9 p+a,none⟩\/((∀b o sp,A=some ⟨b,o,sp⟩->sp=none)/\N=0))->X.ρ r 0=some (b,o,M)->(∀x∈p,x.ok)->N<=maxLen->av P s.σ u y=.bl q src->x7 (FI s r p a N src) v h' lv'->
   FT P X0 X s.lv nm s.n τ w0 w ty (.call ⟨.builtin .copy, #[x,y], #[t,u]⟩) v h' lv':=fun {r a N cap b o M q p A src} k1 k2 hxv hA hρ hp hN hy ho=>by
  unfold FI at ho
  split at ho
  ·rename_i m l hg
   obtain⟨h1,h2⟩:=I7 ho
   simp only[A9,lH,i6]at h1
   obtain⟨⟨⟨⟨z1,z2⟩,z3⟩,z4⟩,z5⟩:=h1
   obtain⟨rfl,rfl,rfl⟩:=I6 h2
   obtain⟨X',w',rv,g1,g2,g3,g4⟩:=Mf (ty:=ty) H hF k1 k2 hxv hA hρ hp hN hy z1 z2 z3 z4 hg z5
   exact⟨X',w',rv,g1,g2,g3.nz,g4⟩
  exact(E5 ho).elim
 unfold SC at ho
 split at ho
 ·rename_i r p a N q src hx hy
  obtain⟨h1,h2⟩:=I7 ho
  rw[A9]at h1
  have hv:=B5 (P:=P) H.c2 hF t x
  rw[hx]at hv
  obtain⟨_,hp,b,o,M,cap,q1,q2,q3,q4⟩:=hv
  exact key h1.1 h1.2 (by simpa using q2) (.inl rfl) q1 hp zO hy h2
 ·rename_i r q src hx hy
  split at ho
  ·rename_i m l hm
   obtain⟨h1,h2⟩:=I7 ho
   rw[A9]at h1
   have hv:=B5 (P:=P) H.c2 hF t x
   rw[hx]at hv
   have j5:(H7 s.h r 0).mem=true:=by unfold H7;rw[hm];rfl
   obtain⟨_,_,_,b,o,a,cap,z1,z2,z3,z4,_,zs,z5⟩:=tL H hv (show bB s.h r 1=some m by unfold bB;rw[show H7 s.h r 0=.bs m l by unfold H7;rw[hm]];rfl)
   refine key (p:=[]) (a:=0) h1.1 h1.2 z2 ?_ z1 (fun x hx=>by simp at hx) zO hy h2
   rcases z5 with⟨h3,h4⟩|⟨_,h3,_⟩
   ·exact .inr ⟨zs,h3⟩
   exact .inl (by simpa [B9] using h3)
  exact(E5 ho).elim
 exact(E5 ho).elim
theorem TQ{s:T}{nm:Nat}{ty:TypeId}{op:Op}{v:V}(H:Wd X0 X s.h s.lv nm w0 w)(hF:FrR X s.lv nm s.n s.σ τ)(I0:dV op=true)(hnc:mN op=false)(ho:x7 (O0 P s nm ty op) v h' lv'):
  v=.un/\BA P X0 X s.lv nm s.n τ w0 w ty op h' lv'/\lv'=s.lv:=by
 have I0:∃t x y,op=.store t x y:=by
  unfold dV at I0
  split at I0
  ·exact⟨_,_,_,rfl⟩
  ·cases hnc
  ·exact(E5 ho).elim
  cases I0
 obtain⟨t,x,y,rfl⟩:=I0
 simp only[O0]at ho
 split at ho
 ·rename_i r z y' i v' a p hf
  obtain⟨h1,h2⟩:=I7 ho
  simp only[A9]at h1
  obtain⟨⟨⟨⟨⟨⟨⟨k1,k2⟩,k3⟩,k4⟩,k5⟩,k6⟩,k7⟩,k8⟩:=h1
  obtain⟨h3,rfl,rfl,rfl⟩:=f7 h2
  obtain⟨n',e1,e2⟩:=TJ hf
  rw[e1]at e2
  obtain⟨X',w',g1,g2,g3⟩:BA P X0 X s.lv nm s.n τ w0 w ty _ _ s.lv:=Lw H hF e1 (jJ (B5 H.c2 hF t y)) e2 (of_decide_eq_true h3) k1 k2 k3 k4 (A5 k5) k6 (A5 k7) (by
   split at k8
   ·rename_i k hk;rw[hk,A5 k8]
   cases k8)
  exact⟨rfl,⟨X',w',g1,g2,g3.nz⟩,rfl⟩
 cases hx:av P s.σ 0 x<;>rw[hx]at ho<;>simp only[RZ]at ho<;>try exact(E5 ho).elim
 rename_i r j p
 obtain⟨h1,h2⟩:=I7 ho
 simp only[A9,lH]at h1
 obtain⟨⟨⟨⟨⟨⟨k1,k2⟩,k3⟩,k4⟩,k5⟩,k6⟩,k7⟩:=h1
 obtain⟨rfl,rfl,rfl⟩:=I6 h2
 obtain⟨X',w',g1,g2,g3⟩:BA P X0 X s.lv nm s.n τ w0 w ty _ _ s.lv:=Jt H hF hx (jJ (B5 H.c2 hF t y)) k1 k2 k3 k4 k5 (A5 k6) (by
  split at k7
  ·rename_i k hk;rw[hk,A5 k7]
  cases k7)
 exact⟨rfl,⟨X',w',g1,g2,g3.nz⟩,rfl⟩
theorem TR{s:T}{all:Array Oper}{o:Oper}{r:List Oper}{k:List K}{v:V}(hg:o.guard=none)(ho:x7 (O0 P s (s.c+64*i) o.type o.op) v h' lv')(hd:f0 s.n o.op o.dst=true)
  (h:Run P X0 w0 Q ⟨.ops all (i+1) r::k,{ s with h:=h',lv:=lv' }.put o.dst v⟩):Run P X0 w0 Q ⟨.ops all i (o::r)::k,s⟩:=by
 rintro Y a w ⟨X,τ,rfl,hF,H,rfl⟩
 show wpList P all (D4 P Q k) (o::r) _ w
 simp only[C1]at hF H
 refine BE hg ?_;have hc:({ s with h:=h',lv:=lv' }.put o.dst v).c=s.c:=by cases o.dst<;>rfl
 cases hs:dV o.op
 ·obtain⟨d,O4,kF⟩:=FZ hd hs
  obtain⟨X',w',rv,g1,g2,g3,g4,_⟩:=FV H hF hs ho
  have hr:(execOp (mk s.n τ).eval o).run P w=.ok (.value rv) w':=by
   have:=g1 d o.pos o.after o.guard
   rw[W7]
   obtain⟨dst,op,ty,pos,aft,g⟩:=o
   simp only at O4 this
   subst O4
   exact this
  refine tV hr (h.to ?_);have:=tW (s:=s) (hF.mono g2 (by omega:s.c+64*i<=s.c+64*i+64)) g3 (d:=o.dst) (fun d' e=>by rw[O4]at e;cases e;exact kF) g4
  simp only[C1,hc]
  rw[show s.c+64*(i+1)=s.c+64*i+64 by omega]
  exact this
 cases oC:mN o.op
 case true=>
  obtain⟨d,O4,kF⟩:=TO hd oC
  obtain⟨X',w',rv,g1,g2,g3,g4⟩:=TP H hF oC ho
  have hr:(execOp (mk s.n τ).eval o).run P w=.ok (.value rv) w':=by
   have:=g1 d o.pos o.after o.guard
   rw[W7]
   obtain⟨dst,op,ty,pos,aft,g⟩:=o
   simp only at O4 this
   subst O4
   exact this
  refine tV hr (h.to ?_);have:=tW (s:=s) (hF.mono g2 (by omega:s.c+64*i<=s.c+64*i+64)) g3 (d:=o.dst) (fun d' e=>by rw[O4]at e;cases e;exact kF) g4
  simp only[C1,hc]
  rw[show s.c+64*(i+1)=s.c+64*i+64 by omega]
  exact this
 obtain⟨e1,⟨X',w',g1,g2,g3⟩,e2⟩:=TQ H hF hs oC ho
 have O4:=TN hd hs oC
 have hr:(execOp (mk s.n τ).eval o).run P w=.ok .skip w':=by
  have:=g1 o.pos o.after o.guard
  rw[W7]
  obtain⟨dst,op,ty,pos,aft,g⟩:=o
  simp only at O4 this
  subst O4
  exact this
 refine FY hr (h.to ?_);have:=tW (s:=s) (hF.mono g2 (by omega:s.c+64*i<=s.c+64*i+64)) g3 (d:=o.dst) (fun d' e=>by rw[O4]at e;cases e) (v:=v) (x:=undef) (by rw[e1];trivial)
 simp only[C1,hc]
 rw[show s.c+64*(i+1)=s.c+64*i+64 by omega]
 exact this
theorem GA:repv X lv c .nd undef:=⟨#[],rfl,rfl,fun k hk=>absurd hk (S4 k)⟩
theorem GB{s:T}{nm:Nat}{all:Array Oper}{d:Nat}{p:Bool}(hF:FrR X s.lv nm s.n s.σ τ)(h1:(all[j]?).bind (·.dst)=some d)(hd:d<s.n)(hv:pN (s.σ d)=some p):yielded all (mk s.n τ).tmps j=some p:=by
 have:=xQ (hF d) hv
 have hb:blt d s.n=true:=by rw[A8];exact hd
 simp only[ev,hb,cond_true]at this
 exact DN all j d h1 p hb this
theorem TS{s:T}{nm:Nat}{all:Array Oper}{d:Nat}{g:Nat->V}(hF:FrR X s.lv nm s.n s.σ τ)(h1:(all[j]?).bind (·.dst)=some d)(hd:d<s.n)(hv:s.σ d=.tu 0 g):yielded all (mk s.n τ).tmps j=none:=by
 have h2:=hF d
 rw[hv]at h2
 obtain⟨C,h2,_⟩:=h2
 have hb:blt d s.n=true:=by rw[A8];exact hd
 have h3:(mk s.n τ).tmps.getD d undef=ev s.n τ (.tmp d):=sM ..
 rw[h2]at h3
 unfold yielded
 rw[h1]
 simp only[DA]
 cases h4:(mk s.n τ).tmps[d]? with
|none=>rfl
|some y=>
  have:(mk s.n τ).tmps.getD d undef=y:=by
   rw[Array.getD_eq_getD_getElem?, h4];rfl
  rw[this]at h3
  subst h3
  rfl
theorem Mq{all:Array Oper}{o:Oper}{r:List Oper}{a:Act}{b:Bool}(hg:o.guard=some (j,b))(hy:yielded all a.tmps j=none)(h:wpList P all Q r (a.put o.dst undef) w):wpList P all Q (o::r) a w:=by
 unfold wpList
 rw[if_neg (by unfold Region.wanted;rw[hg];simp[hy])]
 exact h
theorem TT{σ:Fr}{op:Op}{f:FuncId}{l:List V}(ho:FM P σ op=some (f,l)):∃fn cal args W0 m g,op=.call ⟨.value cal,args,W0⟩/\P.funcs[f]? =some fn/\fn.body.isSome=true/\(fn.name == "runtime.NumGoroutine")=false/\fn.params.size=args.size/\l=List.zipWith (fun t x=>(av P σ t x).nb) fn.params.toList args.toList++(List.range m).map g/\
  (∀k,k<m->tG (g k)=true)/\∀X lv nm n τ,FrR X lv nm n σ τ->∃cs:List Value,ev n τ cal=.func (.func f) #[] cs.toArray/\cs.length=m/\∀k,k<m->∃x,cs[k]? =some x/\rep X (g k) lv nm [x]:=by
 have key:∀{f':FuncId} {args:Array Operand} {m:Nat} {g:Nat->V},FL P σ f' args m g=some (f,l)->∃fn,f'=f/\P.funcs[f]? =some fn/\fn.body.isSome=true/\(fn.name == "runtime.NumGoroutine")=false/\fn.params.size=args.size/\l=List.zipWith (fun t x=>(av P σ t x).nb) fn.params.toList args.toList++(List.range m).map g/\∀k,k<m->tG (g k)=true:=fun {f' args m g} ho=>by
  unfold FL at ho
  split at ho
  ·rename_i fn hf
   obtain⟨h1,h2⟩:=M7 ho (by simp)
   simp only[A9,lH]at h1
   cases h2
   exact⟨fn,rfl,hf,h1.1.1.1,h1.1.1.2,A5 h1.1.2,rfl,x5 h1.2⟩
  cases ho
 unfold FM at ho
 split at ho
 ·rename_i g args W0
  obtain⟨fn,rfl,q⟩:=key ho
  exact⟨fn,_,args,W0,0,_,rfl,q.1,q.2.1,q.2.2.1,q.2.2.2.1,q.2.2.2.2.1,q.2.2.2.2.2,fun X lv nm n τ _=>⟨[],by simp[ev],rfl,fun k hk=>by omega⟩⟩
 ·rename_i d args W0
  split at ho
  ·rename_i f' m g hd
   obtain⟨fn,rfl,q⟩:=key ho
   refine⟨fn,_,args,W0,m,g,rfl,q.1,q.2.1,q.2.2.1,q.2.2.2.1,q.2.2.2.2.1,q.2.2.2.2.2,fun X lv nm n τ hF=>?_⟩
   have:=hF d
   rw[hd]at this
   obtain⟨vs,e1,e2,e3⟩:=this
   exact⟨vs,by simpa using e1,e2,e3⟩
  cases ho
 cases ho
theorem Mr{nm:Nat}{v:V}(hc:tG v=true)(h:rep X v lv nm [x]):repv X lv nm v x:=by
 cases v<;>first|exact h|cases hc
theorem TU{s:T}{nm:Nat}{g:Nat->V}{l:List V}(h2:2<=nm)(hF:FrR X s.lv nm s.n s.σ τ)(e5:fn.params.size=args.size)(e6:l=List.zipWith (fun t x=>(av P s.σ t x).nb) fn.params.toList args.toList++(List.range m).map g)
  (e7:∀k,k<m->tG (g k)=true)(c2:cs.length=m)(c3:∀k,k<m->∃x,cs[k]? =some x/\rep X (g k) s.lv nm [x]):
  (args.toList.map (ev s.n τ)++cs).length=l.length/\∀(i:Nat) v x,l[i]? =some v->(args.toList.map (ev s.n τ)++cs)[i]? =some x->repv X s.lv nm v x:=by
 have hz:(List.zipWith (fun t x=>(av P s.σ t x).nb) fn.params.toList args.toList).length=args.size:=by simp[e5]
 refine⟨by rw[e6];simp[e5,c2],fun i v x hv hx=>?_⟩
 rw[e6]at hv
 by_cases hi:i<args.size
 ·rw[N5 (by rw[hz];exact hi),List.getElem?_zipWith]at hv
  rw[N5 (by simpa using hi),Y6]at hx
  obtain⟨y,hy,rfl⟩:=eL.1 hx
  rw[hy]at hv
  cases ht:fn.params.toList[i]? with
 |none=>rw[ht]at hv;cases hv
 |some t=>rw[ht]at hv;cases hv;exact jJ (B5 h2 hF t y)
 rw[L7 (by rw[hz];omega),hz,Y6]at hv
 rw[L7 (by simp;omega)]at hx
 simp only[J7,u6]at hx
 obtain⟨k,hk,rfl⟩:=eL.1 hv
 have hkm:i-args.size<m/\k=i-args.size:=by
  by_cases hm:i-args.size<m
  ·rw[JF hm]at hk;cases hk;exact⟨hm,rfl⟩
  rw[V6 (by simp;omega)]at hk;cases hk
 obtain⟨y,y1,y2⟩:=c3 _ hkm.1
 rw[y1]at hx;cases hx
 rw[hkm.2]
 exact Mr (e7 _ hkm.1) y2
theorem Ms{s:T}{nm n:Nat}(H:Wd X0 X s.h s.lv nm w0 w)(hF:FrR X s.lv nm n s.σ τ){op:Op}{q:Bool}(hq:LI P s op=some (m,q)):
  ∃p,(p=true->m=0)/\∀(d:Nat) (pos:String) (aft:Array Edge) (g:Option (Nat×Bool)) (ty:TypeId),(execOp (ev n τ) ⟨some d,op,ty,pos,aft,g⟩).run P w=.ok (.value (.bool (p==q))) w:=by
 have sl:∀{t x},FN s.h (av P s.σ t x)=some m->∃a cap,ev n τ x=.slice a m cap/\(a.isNone=true->m=0):=fun {t x} hn=>by
  have hv:=B5 (P:=P) H.c2 hF t x
  cases hx:av P s.σ t x<;>rw[hx]at hn hv<;>simp only[FN,F2,reduceCtorEq]at hn
  case bl t' l=>
   subst hn
   obtain⟨a,cap,e1,e2,e3,e4,e5,e6⟩:=hv
   refine⟨a,cap,by simpa using e1,fun ha=>?_⟩
   rcases e6 with⟨_,h⟩|⟨b,o,h,_⟩
   ·omega
   rw[h]at ha;cases ha
  case sl t' z k g=>
   subst hn
   obtain⟨_,a,cap,e1,e2,e3,e4,e5,e6⟩:=hv
   refine⟨a,cap,by simpa using e1,fun ha=>?_⟩
   rcases e6 with⟨_,h⟩|⟨b,o,h,_⟩
   ·omega
   rw[h]at ha;cases ha
  case os r z=>
   obtain⟨_,_,_,b,o,a,cap,_,e1,e2,e3,_,_,e4⟩:=tL H hv hn
   refine⟨a,cap,e1,fun ha=>?_⟩
   rcases e4 with⟨h,_⟩|⟨_,h,_⟩
   ·exact h
   rw[h]at ha;cases ha
 unfold LI at hq
 split at hq
 ·rename_i t x yt
  obtain⟨h1,h2⟩:=M7 hq (by simp)
  simp only[A9,lH]at h1
  obtain⟨e,hu⟩:=pQ h1.1
  split at h2
  ·rename_i k hk
   cases h2
   obtain⟨a,cap,e1,e2⟩:=sl hk
   refine⟨a.isNone,e2,fun d pos aft g ty=>?_⟩
   rw[show(a.isNone==true)=a.isNone by cases a<;>rfl]
   exact Lh hu h1.2 e1 rfl
  cases h2
 ·rename_i t x yt
  obtain⟨h1,h2⟩:=M7 hq (by simp)
  simp only[A9,lH]at h1
  obtain⟨e,hu⟩:=pQ h1.1
  split at h2
  ·rename_i k hk
   cases h2
   obtain⟨a,cap,e1,e2⟩:=sl hk
   refine⟨a.isNone,e2,fun d pos aft g ty=>?_⟩
   rw[show(a.isNone==false)= !a.isNone by cases a<;>rfl]
   exact Li hu h1.2 e1 rfl
  cases h2
 cases hq
theorem pR{b:Bool}{E:Ev}(h:LZ P X0 w0 Q (bif b then E else .bad m)):b=true/\LZ P X0 w0 Q E:=by
 cases b
 ·exact h.elim
 exact⟨rfl,h⟩
theorem xV{s:T}{nm:Nat}{d:Option Tmp}{v:V}{Y:Pm}{a:Act}{all:Array Oper}{L:Array Bool}{f:Nat}{k:List K}(ha:AtY X0 w0 ({ s with h:=h,lv:=lv,c:=nm }.put d v) nm Y a w):
  AtY X0 w0 ({ s with h:=h,lv:=lv,c:=nm }.put d v) (C1 ({ s with h:=h,lv:=lv,c:=nm }.put d v) (.dr all L f::k)) Y a w:=by cases d<;>exact ha
theorem MA{s:T}{nm:Nat}{all:Array Oper}{o:Oper}(hF:FrR X s.lv nm s.n s.σ τ)(h:kT all s o=.yes):Region.wanted o (yielded all (mk s.n τ).tmps)=true:=by
 unfold kT at h
 unfold Region.wanted
 split at h
 ·rename_i hg;rw[hg]
 rename_i j b hg
 rw[hg]
 split at h
 ·rename_i d hd
  cases hb:blt d s.n<;>rw[hb]at h
  ·cases h
  simp only[cond_true]at h
  split at h
  ·rename_i p hp
   cases hpb:(p==b)<;>rw[hpb]at h
   ·cases h
   have:=GB hF hd (by rw[<-A8];exact hb) (by rw[hp];rfl)
   simp only[this]
   have e:p=b:=by simpa using hpb
   subst e;simp
  all_goals cases h
 cases h
theorem TV{s:T}{nm:Nat}{all:Array Oper}{o:Oper}(hF:FrR X s.lv nm s.n s.σ τ)(h:kT all s o=.no):Region.wanted o (yielded all (mk s.n τ).tmps)=false:=by
 unfold kT at h
 unfold Region.wanted
 split at h
 ·cases h
 rename_i j b hg
 rw[hg]
 split at h
 ·rename_i d hd
  cases hb:blt d s.n<;>rw[hb]at h
  ·cases h
  simp only[cond_true]at h
  split at h
  ·rename_i p hp
   cases hpb:(p==b)<;>rw[hpb]at h
   ·have:=GB hF hd (by rw[<-A8];exact hb) (by rw[hp];rfl)
    simp only[this]
    cases p<;>cases b<;>simp_all
   cases h
  ·cases h
  ·rename_i g hp
   have:=TS hF hd (by rw[<-A8];exact hb) hp
   simp only[this];rfl
  cases h
 cases h
theorem TW{s:T}{nm:Nat}{all:Array Oper}{o:Oper}{d:Nat}{p:Bool}(hF:FrR X s.lv nm s.n s.σ τ)(H:Wd X0 X s.h s.lv nm w0 w)(h:kT all s o=.br d p):∀q,p=q->AtY X0 w0 (s.put (some d) (.bc q)) nm (x8 X w) (mk s.n τ) w:=by
 intro q hq
 have hp:s.σ d=.b p:=by
  unfold kT at h
  split at h
  ·cases h
  split at h
  ·rename_i d' _
   cases hb:blt d' s.n<;>rw[hb]at h
   ·cases h
   simp only[cond_true]at h
   split at h
   ·rename_i p' hp'
    cases hpb:(p'==_)<;>rw[hpb]at h<;>cases h
   ·rename_i p' hp';cases h;exact hp'
   ·cases h
   cases h
  cases h
 refine⟨X,τ,rfl,fun t=>?_,H,rfl⟩
 show repv X s.lv _ (cS s.σ d (.bc q) t) _
 unfold cS
 cases hb:beq t d
 ·exact hF t
 have:=A5 hb
 subst this
 have h1:=hF t
 rw[hp,hq]at h1
 exact h1
theorem M8(hQ:mS Q):∀(fuel:Nat) (k:List K) (s:T),LZ P X0 w0 Q (go P fuel k s)->Run P X0 w0 Q ⟨k,s⟩
|0,k,s,h=>h.elim
|fuel+1,[],s,h=>fun Y a w ha=>h a w ha.at
|fuel+1,.bl id::k,s,h=>fun Y a w ha=>by
  have:=M8 hQ fuel k s h Y a w (ha.up (by
   show s.c<=C1 s k
   unfold C1;split<;>omega))
  have q:=tM this
  exact q
|fuel+1,.lp R::k,s,h=>fun Y a w ha=>h a w ha.at
|fuel+1,.ops all i []::k,s,h=>fun Y a w ha=>by
  have:=M8 hQ fuel k { s with c:=s.c+64*i} h Y a w (by
   refine AtY.up (s:={ s with c:=s.c+64*i }) (nm:=s.c+64*i) ?_ (by
    show s.c+64*i<=C1 _ k
    unfold C1;split<;>simp)
   exact ha)
  have q:=tM this
  exact q
|fuel+1,.ops all i (o::r)::k,s,h=>by
  simp only[go]at h
  split at h
  ·rename_i j b hg
   split at h
   ·rename_i d hd
    split at h
    ·rename_i p hp
     cases hc:(blt d s.n&&d8 s.n o.dst)
     ·rw[hc]at h;exact h.elim
     rw[hc]at h
     simp only[cond_true]at h
     rw[A9,A8]at hc
     cases hb:(p==b)
     ·rw[hb]at h
      simp only[cond_false]at h
      rintro Y a w ⟨X,τ,rfl,hF,H,rfl⟩
      refine Mo hg (GB hF hd hc.1 (by rw[hp];rfl)) hb ?_;refine(M8 hQ fuel _ _ h).to ?_;have:=tW (s:=s) hF H (d:=o.dst) (v:=.nd) (x:=undef) (fun d' e=>by have:=hc.2;rw[e]at this;simpa [d8,A8] using this) GA
      have O9:(s.put o.dst .nd).c=s.c:=by cases o.dst<;>rfl
      refine At.up this ?_
      simp only[C1,O9];omega
     rw[hb]at h
     simp only[cond_true]at h
     rintro Y a w ⟨X,τ,rfl,hF,H,rfl⟩
     have e:p=b:=by simpa using hb
     subst e
     refine Mn hg (GB hF hd hc.1 (by rw[hp];rfl)) ?_;exact(M8 hQ fuel _ _ h).to ⟨X,τ,rfl,hF,H⟩
    ·rename_i p hp
     rintro Y a w ⟨X,τ,rfl,hF,H,rfl⟩
     have rO:∀q,p=q->AtY X0 w0 (s.put (some d) (.bc q)) (s.c+64*i) (x8 X w) (mk s.n τ) w:=fun q hq=>by
      refine⟨X,τ,rfl,fun t=>?_,H,rfl⟩
      show repv X s.lv _ (cS s.σ d (.bc q) t) _
      unfold cS
      cases hb:beq t d
      ·exact hF t
      have:=A5 hb
      subst this
      have h1:=hF t
      rw[hp,hq]at h1
      exact h1
     cases p
     ·exact h.2 rfl _ _ _ (rO false rfl)
     exact h.1 rfl _ _ _ (rO true rfl)
    ·rename_i g hp
     cases hc:(blt d s.n&&d8 s.n o.dst)
     ·rw[hc]at h;exact h.elim
     rw[hc]at h
     simp only[cond_true]at h
     rw[A9,A8]at hc
     rintro Y a w ⟨X,τ,rfl,hF,H,rfl⟩
     refine Mq hg (TS hF hd hc.1 hp) ?_;refine(M8 hQ fuel _ _ h).to ?_;have:=tW (s:=s) hF H (d:=o.dst) (v:=.nd) (x:=undef) (fun d' e=>by have:=hc.2;rw[e]at this;simpa [d8,A8] using this) GA
     have O9:(s.put o.dst .nd).c=s.c:=by cases o.dst<;>rfl
     refine At.up this ?_
     simp only[C1,O9];omega
    exact h.elim
   exact h.elim
  rename_i hg
  split at h
  ·rename_i f l ho
   cases hd:d8 s.n o.dst
   ·rw[hd]at h;exact h.elim
   rw[hd]at h
   rintro Y a w ⟨X,τ,rfl,hF,H,rfl⟩
   obtain⟨fn,cal,args,W0,m,g0,e1,e2,e3,e4,e5,e6,e7,e8⟩:=TT ho
   obtain⟨cs,c1,c2,c3⟩:=e8 _ _ _ _ _ hF
   obtain⟨a1,a2⟩:=TU H.c2 hF e5 e6 e7 c2 c3
   have hn:fn.body≠none:=by cases hh:fn.body<;>simp_all
   have K3:fn.name≠ "runtime.NumGoroutine" :=by intro e;simp[e]at e4
   have ea:args.map (ev s.n τ)=(args.toList.map (ev s.n τ)).toArray:=by apply U2;simp
   have I1:(execOp (mk s.n τ).eval o).run P w=.ok (.enter f (args.toList.map (ev s.n τ)++cs).toArray) w:=by
    rw[W7]
    obtain⟨dst,op,ty,pos,aft,g⟩:=o
    simp only at e1
    subst e1
    simp[execOp,resolve,c1,Deferred.ofValue,invoke,callFunc,e2,K3,hn,ea]
   refine BE hg ?_
   unfold Oper.wp
   rw[I1,Oper.upon_enter]
   have hr:=h X τ w (args.toList.map (ev s.n τ)++cs) hF H a1 a2 (by cases hdd:o.dst with|none=>trivial|some d=>rw[hdd]at hd;simpa [d8,A8] using hd)
   unfold Ret at hr
   refine x9 hr fun e w' he=>?_
   obtain⟨v,rfl,hv⟩:=he
   exact hv
  split at h
  ·rename_i m q hnq
   cases hd:f0 s.n o.op o.dst
   ·rw[hd]at h;exact h.elim
   rw[hd]at h
   rintro Y a w ⟨X,τ,rfl,hF,H,rfl⟩
   obtain⟨p,e1,e2⟩:=Ms H hF hnq
   have I0:dV o.op=false:=by cases z7:o.op<;>rw[z7]at hnq<;>first|rfl|cases hnq
   obtain⟨d,O4,kF⟩:=FZ hd I0
   refine BE hg (tV (rv:=.bool (p==q)) (w':=w) ?_ ?_)
   ·have:=e2 d o.pos o.after o.guard o.type
    rw[W7]
    obtain⟨dst,op,ty,pos,aft,g⟩:=o
    simp only at O4 this
    subst O4
    exact this
   have key:∀b:Bool,(p==q)=b->Run P X0 w0 Q ⟨.ops all (i+1) r::k,s.put o.dst (.bc b)⟩->wpList P all (D4 P Q k) r ((mk s.n τ).put o.dst (.bool (p==q))) w:=fun b hb hr=>by
    rw[hb]
    refine hr.to ?_;have:=tW (s:=s) hF H (d:=o.dst) (v:=.bc b) (x:=.bool b) (fun d' e=>by rw[O4]at e;cases e;exact kF) rfl
    have O9:(s.put o.dst (.bc b)).c=s.c:=by cases o.dst<;>rfl
    refine At.up this ?_
    simp only[C1,O9];omega
   cases p
   ·refine key _ ?_ h.2
    cases q<;>rfl
   refine key _ ?_ (h.1 (by rw[e1 rfl];rfl))
   cases q<;>rfl
  split at h
  ·rename_i v h' lv' ho
   cases hd:f0 s.n o.op o.dst
   ·rw[hd]at h;exact h.elim
   rw[hd]at h
   exact TR hg (.inl ho) hd (M8 hQ fuel _ _ h)
  ·rename_i p v h' lv' ho
   cases hd:f0 s.n o.op o.dst
   ·rw[hd]at h;exact h.elim
   rw[hd]at h
   obtain⟨rfl,h2⟩:=h
   exact TR hg (.inr ho) hd h2
  cases hd:d8 s.n o.dst
  ·rw[hd]at h;exact h.elim
  rw[hd]at h
  rintro Y a w ⟨X,τ,rfl,hF,H,rfl⟩
  rcases h X τ w hF H (fun d' e=>by rw[e]at hd;simpa [d8,A8] using hd) with⟨v,w',h1,h2⟩|⟨w',h1,h2⟩
  ·exact BE hg (tV h1 h2)
  exact BE hg (FY h1 h2)
|fuel+1,.dr all L f::k,s,h=>by
  intro Y a w ha
  show V1 P .any all (D4 P Q k) f L Y a w
  simp only[go]at h
  split at h
  ·rename_i hr
   exact Io hr (tM (M8 hQ fuel k s h Y a w (ha.up (by
    show s.c<=C1 s k
    unfold C1;split<;>omega))))
  rename_i i0 rs hr
  split at h
  ·exact h.elim
  rename_i f
  split at h
  ·split at h
   ·refine RW hr (by simp) fun i hi=>?_
    rw[O8]at hi
    subst hi
    exact M8 hQ fuel _ s h Y a w ha
   refine RW hr (by simp) fun i hi=>?_
   exact h _ (J6.2 ⟨i,hi,rfl⟩) Y a w ha
  rename_i i hfi
  have nP:=List.mem_of_find?_eq_some hfi
  have M4:=List.find?_some hfi
  split at h
  ·exact h.elim
  rename_i o ho
  simp only[SF,A9,ho]at M4
  obtain⟨⟨⟨d1,d2⟩,d3⟩,d4⟩:=M4
  have first:∀(b:Bool) (v:Value),(b=false->AU .any all L i=true)->YieldsIf P all (Sy (Y.pk b)) o v a->Sy Y.y w->Sy Y.z w->V1 P .any all (D4 P Q k) f (L.setIfInBounds i true) Y (a.put o.dst v) w->V1 P .any all (D4 P Q k) (f+1) L Y a w:=fun b v hb hy hS hZ hA=>
   Im (b:=b) ho (Region.noSelect_spec d1) (fun c a w hp=>by rw[tQ]at hp ⊢;exact hQ _ _ _ _ _ hp) f L Y a w (Region.free_spec ho d2) (fun e j oj hj hl=>Ij (hb e) hj hl) (by rw[hr];exact nP) hy hS hZ hA
  obtain⟨X,τ,rfl,hF,H,rfl⟩:=ha
  split at h
  ·exact h.elim
  ·rename_i d p hg
   have rO:=TW hF H hg
   cases p
   ·exact h.2 rfl _ _ _ (rO false rfl)
   exact h.1 rfl _ _ _ (rO true rfl)
  ·rename_i hg
   obtain⟨h1,h2⟩:=pR h
   refine first true undef (fun e=>by cases e) (.inr ⟨TV hF hg,rfl⟩) H.sy (H.sy.mono (AR X w)) ?_
   have:=jK (s:=s) hF H (d:=o.dst) (v:=.nd) (x:=undef) (fun d' e=>by rw[e]at h1;simpa [d8,A8] using h1) GA s.c
   exact M8 hQ fuel _ _ h2 _ _ _ (xV this)
  rename_i hg
  rw[hg]at d4
  have pure:∀{v h' lv'},x7 (O0 P s s.c o.type o.op) v h' lv'->f0 s.n o.op o.dst=true->Run P X0 w0 Q ⟨.dr all (L.setIfInBounds i true) f::k,{ s with h:=h',lv:=lv',c:=s.c+64 }.put o.dst v⟩->V1 P .any all (D4 P Q k) (f+1) L (x8 X w) (mk s.n τ) w:=fun {v h' lv'} v7 hd I1=>by
   have I0:dV o.op=false:=by
    exact Mp d4
   obtain⟨d,O4,kF⟩:=FZ hd I0
   obtain⟨X',w',rv,g1,g2,g3,g4,g5,g6⟩:=FV H hF I0 v7
   obtain⟨q1,q2,q4⟩:=g6 d4
   subst q1
   have hyes:∃b,(b=false->AU .any all L i=true)/\YieldsIf P all (Sy ((x8 X w').pk b)) o rv (mk s.n τ):=by
    cases hw:AU .any all L i with
   |true=>
     refine⟨false,fun _=>rfl,.inl ⟨MA hF hg,fun u hu=>?_⟩⟩
     have:=q4 u hu d o.pos o.after o.guard
     rw[W7]
     obtain⟨dst,op,ty,pos,aft,g⟩:=o
     simp only at O4 this
     subst O4
     exact this
   |false=>
     rw[hw,Bool.false_or]at d3
     simp only[SE,ho,hg]at d3
     split at d3
     ·rename_i v2 h2 Q1 ho2
      refine⟨true,fun e=>(by cases e),.inl ⟨MA hF hg,fun u hu=>?_⟩⟩
      obtain⟨X2,w2,rv2,_,_,_,_,_,k6⟩:=FV (s:={ s with h:=fun _ _=>.un }) H.zz (hF.mono (TK X s.lv s.c) (B2 _)) I0 (.inl ho2)
      obtain⟨_,_,k7⟩:=k6 d4
      have hu2:=k7 u (TM hu) d o.pos o.after o.guard
      have kG:=k7 w' (TM (H.sy.mono (AR X w'))) d o.pos o.after o.guard
      have rP:=q4 w' H.sy d o.pos o.after o.guard
      rw[rP]at kG
      cases kG
      rw[W7]
      obtain⟨dst,op,ty,pos,aft,g⟩:=o
      simp only at O4 hu2
      subst O4
      exact hu2
     cases d3
   obtain⟨b,P8,U5⟩:=hyes
   refine first b rv P8 U5 H.sy (H.sy.mono (AR X w')) ?_
   have:=jK (s:=s) (hF.mono g2 (by simp only[C1];omega)) g3 (d:=o.dst) (fun d' e=>by rw[O4]at e;cases e;exact kF) g4 (s.c+64)
   exact RV (Y2:=x8 X' w') (show C8 X' w'=C8 X w' from funext fun b=>funext fun i=>q2 b i) (FB g2.fz) (I1 _ _ _ (xV this))
  split at h
  ·rename_i v h' lv' z7
   obtain⟨h1,h2⟩:=pR h
   exact pure (.inl z7) h1 (M8 hQ fuel _ _ h2)
  ·rename_i p v h' lv' z7
   obtain⟨h1,h2⟩:=pR h
   obtain⟨rfl,h3⟩:=h2
   exact pure (.inr z7) h1 h3
  exact h.elim
|fuel+1,.d1 all L f i::k,s,h=>by
  intro Y a w ha
  show wpOp P all (D4 P Q k) i (fun a' w'=>∃Y',Nxt (x6 all i) Y Y' w'/\V1 P .any all (D4 P Q k) f (L.setIfInBounds i true) Y' a' w') a w
  simp only[go]at h
  split at h
  ·exact h.elim
  rename_i o ho
  obtain⟨X,τ,rfl,hF,H,rfl⟩:=ha
  simp only[C1]at hF H
  split at h
  ·exact h.elim
  ·rename_i d p hg
   have rO:=TW hF H hg
   cases p
   ·exact h.2 rfl _ _ _ (rO false rfl)
   exact h.1 rfl _ _ _ (rO true rfl)
  ·rename_i hg
   obtain⟨h1,h2⟩:=pR h
   refine Iq ho (TV hF hg) ⟨_,.rfl' H.sy (H.sy.mono (AR X w)),?_⟩;have:=jK (s:=s) hF H (d:=o.dst) (v:=.nd) (x:=undef) (fun d' e=>by rw[e]at h1;simpa [d8,A8] using h1) GA s.c
   exact M8 hQ fuel _ _ h2 _ _ _ (xV this)
  rename_i hg
  refine Ip ho (MA hF hg) ?_
  split at h
  ·rename_i f' l hcall
   obtain⟨h1,h2⟩:=pR h
   rw[A9]at h1
   obtain⟨h1,hsf⟩:=h1
   have hsf:kS f'=x6 all i:=(beq_iff_eq.1 hsf).symm
   obtain⟨fn,cal,args,W0,m,g0,e1,e2,e3,e4,e5,e6,e7,e8⟩:=TT hcall
   obtain⟨cs,c1,c2,c3⟩:=e8 _ _ _ _ _ hF
   obtain⟨a1,a2⟩:=TU H.c2 hF e5 e6 e7 c2 c3
   have hn:fn.body≠none:=by cases hh:fn.body<;>simp_all
   have K3:fn.name≠ "runtime.NumGoroutine" :=by intro e;simp[e]at e4
   have ea:args.map (ev s.n τ)=(args.toList.map (ev s.n τ)).toArray:=by apply U2;simp
   have I1:(execOp (mk s.n τ).eval o).run P w=.ok (.enter f' (args.toList.map (ev s.n τ)++cs).toArray) w:=by
    rw[W7]
    obtain⟨dst,op,ty,pos,aft,g⟩:=o
    simp only at e1
    subst e1
    simp[execOp,resolve,c1,Deferred.ofValue,invoke,callFunc,e2,K3,hn,ea]
   unfold Oper.wp
   rw[I1,Oper.upon_enter]
   have hr:=h2 X τ w (args.toList.map (ev s.n τ)++cs) hF H a1 a2 (by cases hdd:o.dst with|none=>trivial|some d=>rw[hdd]at h1;simpa [d8,A8] using h1)
   unfold Ret at hr
   refine x9 hr fun e w' he=>?_
   obtain⟨v,rfl,Y',z1,hv⟩:=he
   exact⟨Y',hsf▸z1,hv⟩
  have eff:∀{v h' lv'},x7 (O0 P s s.c o.type o.op) v h' lv'->f0 s.n o.op o.dst=true->Run P X0 w0 Q ⟨.dr all (L.setIfInBounds i true) f::k,{ s with h:=h',lv:=lv',c:=s.c+64 }.put o.dst v⟩->
    Oper.wp P o (mk s.n τ) w (fun a' w'=>∃Y',Nxt (x6 all i) (x8 X w) Y' w'/\V1 P .any all (D4 P Q k) f (L.setIfInBounds i true) Y' a' w') (D4 P Q k):=fun {v h' lv'} v7 hd I1=>by
   cases hs:dV o.op
   ·obtain⟨d,O4,kF⟩:=FZ hd hs
    obtain⟨X',w',rv,g1,g2,g3,g4,g5,_⟩:=FV H hF hs v7
    have hr:(execOp (mk s.n τ).eval o).run P w=.ok (.value rv) w':=by
     have:=g1 d o.pos o.after o.guard
     rw[W7]
     obtain⟨dst,op,ty,pos,aft,g⟩:=o
     simp only at O4 this
     subst O4
     exact this
    refine tV hr ⟨_,mR g3 g2.fz fun _=>g5,?_⟩;have:=jK (s:=s) (hF.mono g2 (by omega:s.c<=s.c+64)) g3 (d:=o.dst) (fun d' e=>by rw[O4]at e;cases e;exact kF) g4 (s.c+64)
    exact I1 _ _ _ (xV this)
   cases oC:mN o.op
   case true=>
    obtain⟨d,O4,kF⟩:=TO hd oC
    obtain⟨X',w',rv,g1,g2,g3,g4⟩:=TP H hF oC v7
    have hr:(execOp (mk s.n τ).eval o).run P w=.ok (.value rv) w':=by
     have:=g1 d o.pos o.after o.guard
     rw[W7]
     obtain⟨dst,op,ty,pos,aft,g⟩:=o
     simp only at O4 this
     subst O4
     exact this
    refine tV hr ⟨_,mR g3 g2.fz fun e=>(by unfold x6 at e;rw[ho]at e;simp only at e;rw[hs]at e;cases e),?_⟩;have:=jK (s:=s) (hF.mono g2 (by omega:s.c<=s.c+64)) g3 (d:=o.dst) (fun d' e=>by rw[O4]at e;cases e;exact kF) g4 (s.c+64)
    exact I1 _ _ _ (xV this)
   obtain⟨e1,⟨X',w',g1,g2,g3⟩,e2⟩:=TQ H hF hs oC v7
   have O4:=TN hd hs oC
   have hr:(execOp (mk s.n τ).eval o).run P w=.ok .skip w':=by
    have:=g1 o.pos o.after o.guard
    rw[W7]
    obtain⟨dst,op,ty,pos,aft,g⟩:=o
    simp only at O4 this
    subst O4
    exact this
   refine FY hr ⟨_,mR g3 g2.fz fun e=>(by unfold x6 at e;rw[ho]at e;simp only at e;rw[hs]at e;cases e),?_⟩;have:=jK (s:=s) (hF.mono g2 (by omega:s.c<=s.c+64)) g3 (d:=o.dst) (fun d' e=>by rw[O4]at e;cases e) (v:=v) (x:=undef) (by rw[e1];trivial) (s.c+64)
   exact I1 _ _ _ (xV this)
  split at h
  ·rename_i v h' lv' z7
   obtain⟨h1,h2⟩:=pR h
   exact eff (.inl z7) h1 (M8 hQ fuel _ _ h2)
  ·rename_i p v h' lv' z7
   obtain⟨h1,h2⟩:=pR h
   obtain⟨rfl,h3⟩:=h2
   exact eff (.inr z7) h1 h3
  cases hd:d8 s.n o.dst
  ·rw[hd]at h;exact h.elim
  rw[hd]at h
  rcases h X τ w hF H (fun d' e=>by rw[e]at hd;simpa [d8,A8] using hd) with⟨v,w',h1,Y',z1,h2⟩|⟨w',h1,Y',z1,h2⟩
  ·exact tV h1 ⟨Y',⟨fun _=>z1.y rfl,z1.z,z1.sy,z1.sz⟩,h2⟩
  exact FY h1 ⟨Y',⟨fun _=>z1.y rfl,z1.z,z1.sy,z1.sz⟩,h2⟩
|fuel+1,.c x::k,s,h=>by
  have up:∀{nm:Nat} {k:List K} {Y:Pm} {a:Act} {w:World},AtY X0 w0 s s.c Y a w->AtY X0 w0 s (C1 s k) Y a w:=fun {nm k Y a w} ha=>ha.up (by unfold C1;split<;>omega)
  cases x<;>simp only[go]at h
  case skip=>exact fun Y a w ha=>M6 (tM (M8 hQ fuel k s h Y a w (up (nm:=0) ha)))
  case region id l d=>
   cases d
   ·intro Y a w ha
    have:=M8 hQ fuel _ s h Y a w ha
    have h2:wpList P l (D4 P Q k) l.toList a w:=this
    have e:l=l.toList.toArray:=by simp
    show(Code.region id l false).wp P _ a w
    rw[e]
    refine DM ?_
    rw[<-e];exact h2
   intro Y a w ha
   obtain⟨h1,h2⟩:=pR h
   have:=M8 hQ fuel _ s h2 Y a w.drew (by
    obtain⟨X,τ,e1,e2,e3,e4⟩:=ha
    exact⟨X,τ,e1,e2,e3.drew,e4⟩)
   exact wp_region_any h1 (RT _ _ _ _ _ this)
  case seq x y=>
   intro Y a w ha
   refine D8 ?_;have:=M8 hQ fuel _ s h Y a w ha
   rw[<-tO]
   exact this
  case cond c x y=>
   intro Y a w ha
   have hv:∀{p},pN (av P s.σ 0 c)=some p->(mk s.n ha.choose_spec.choose).eval c=.bool p:=fun {p} hp=>by
    obtain⟨h1,h2,h3,_⟩:=ha.choose_spec.choose_spec
    rw[mG]
    exact xQ (B5 h3.c2 h2 0 c) hp
   have ea:a=mk s.n ha.choose_spec.choose:=ha.choose_spec.choose_spec.1
   split at h
   ·rename_i hp
    have:=M8 hQ fuel _ s h Y a w ha
    exact wp_cond_true (ea▸hv (by rw[hp];rfl)) this
   ·rename_i hp
    have:=M8 hQ fuel _ s h Y a w ha
    exact wp_cond_false (ea▸hv (by rw[hp];rfl)) this
   ·rename_i p hp
    cases p
    ·exact wp_cond_false (ea▸hv (by rw[hp];rfl)) (h.2 rfl Y a w ha)
    exact wp_cond_true (ea▸hv (by rw[hp];rfl)) (h.1 rfl Y a w ha)
   exact h.elim
  case block id x=>
   intro Y a w ha
   refine PO ?_;have:=M8 hQ fuel _ s h Y a w ha
   rw[<-tP]
   exact this
  case loop b=>exact fun Y a w ha=>h a w ha.at
  case exit id=>
   intro Y a w ha
   refine W8 ?_
   split at h
   ·rename_i k' hk
    rw[tR hk]
    exact tM (M8 hQ fuel k' s h Y a w (up (nm:=0) ha))
   rename_i hk
   rw[tT hk]
   exact h a w ha.at
  case ret=>exact fun Y a w ha=>iV (by rw[tU];exact h a w ha.at)
  all_goals exact h.elim
end
def V.nml(c:Nat):V->Bool
|.bl t _|.sl t _ _ _=>blt t c
|.pr r _ _|.os r _|.vw r _ _ _=>blt r c
|.lb _=>false
|.fo _ y _ v=>y.nml c&&v.nml c
|.st n g|.tu n g|.fn _ n g=>V.mem.all n fun k=>(g k).nml c
|_=>true
def V.rn(f g':Nat->Nat):V->V
|.bl t l=>.bl (f t) l
|.sl t z n g=>.sl (f t) z n g
|.pr r j p=>bif blt 1 (g' r)&&beq j 0 then .pr (g' r) 0 p else .uk 1
|.os r z=>bif blt 1 (g' r) then .os (g' r) z else .uk 1
|.vw r p a n=>bif blt 1 (g' r) then .vw (g' r) p a n else .uk 1
|.lb l=>.bl 1 l
|.fo z y m v=>.fo z (y.rn f g') m (v.rn f g')
|.st n g=>bif V.mem.all n (fun k=>(g k).nml 2) then .st n g else .st n (pK n fun k=>(g k).rn f g')
|.tu n g=>.tu n fun k=>(g k).rn f g'
|.fn q n g=>.fn q n (pK n fun k=>(g k).rn f g')
|x=>x
section
theorem rep.nest(hf:∀b i x,X.G b i=.fz x->X'.G b i=.fz x):∀{v:V} {cs:List Value},rep X v [] 2 cs->rep X' v [] 2 cs:=by
 intro v
 induction v with
|pr r j p=>intro cs h;exact absurd h.1 zO
|os r z=>
  rintro cs ⟨h1,_,_,_,_,⟨_,_,_,_,_,h4,_⟩,_⟩
  omega
|mp b n t=>intro cs h;exact absurd h.2.2 zO
|vw r p a n=>intro cs h;exact absurd h.1 zO
|lb l=>intro cs h;exact absurd h.1 zO
|fo z b i v N3 Q6=>rintro cs ⟨h1,⟨es,h2,h3⟩,h4⟩;exact⟨h1,⟨es,h2,N3 h3⟩,Q6 h4⟩
|st n g ih=>intro cs h;exact d7 h fun k cs _ hk=>ih k hk
|ar z n g ih=>intro cs h;exact⟨h.1,fun k hk=>⟨ih k (h.2 k hk).1,(h.2 k hk).2⟩⟩
|bl t l=>
  rintro cs ⟨a,cap,h1,h2,h3,h4,h5,h6⟩
  exact⟨a,cap,h1,h2,h3,h4,h5,h6.imp id fun⟨b,o,q1,q2,_⟩=>⟨b,o,q1,q2.mono hf,fun ht=>by simp at ht⟩⟩
|sl t z n g ih=>
  rintro cs ⟨h0,a,cap,h1,h2,h3,h4,h5,h6⟩
  exact⟨h0,a,cap,h1,h2,h3,h4,h5,h6.imp id fun⟨b,o,q1,q2,_⟩=>⟨b,o,q1,fun i hi=>by
   obtain⟨es,r1,r2,r3,r4⟩:=q2 i hi
   exact⟨es,ih i r1,r2,r3,r4.mono hf⟩,fun ht=>by simp at ht⟩⟩
|pz v ih=>
  rintro cs ⟨b,o,es,q1,q2,q3,q4⟩
  exact⟨b,o,es,q1,ih q2,q3,q4.mono hf⟩
|fn f n g ih=>
  rintro cs ⟨vs,h1,h2,h3⟩
  exact⟨vs,h1,h2,fun k hk=>by obtain⟨x,q1,q2⟩:=h3 k hk;exact⟨x,q1,ih k q2⟩⟩
|_=>intro cs h;exact h
structure RenT (X X':Cx) (lv lv':List Nat) (c c':Nat) (f g':Nat->Nat):Prop where
 ρ:∀r p,2<=g' r->X.ρ r 0=some p->X'.ρ (g' r) 0=some p
 gl:∀r,r<c->2<=g' r->g' r<c'/\(g' r∈lv'->r∈lv/\∀b i,X.G b i=.tp r->X'.G b i=.tp (g' r))
 fz:∀b i x,X.G b i=.fz x->X'.G b i=.fz x
 lt:∀t,t<c->f t<c'
 one:∀t,t<c->f t=1->t=1
 two:2<c'/\∀t,t∈lv'->2<=t
 tp:∀t,t<c->f t∈lv'->t∈lv/\∀b i,X.G b i=.tp t->X'.G b i=.tp (f t)
 zero:f 0=0
theorem Mt{f:Nat->Nat}(R:RenT X X' lv lv' c c' f g'):∀{v:V} {cs:List Value},v.nml 2=true->rep X v lv c cs->rep X' v lv' c' cs:=by
 intro v
 have two:∀{t n z:Nat} {W W':Nat->Nat->Prop} {cs:List Value},t<2->(∀b o,W b o->W' b o)->SlR X.G lv c t n z W cs->SlR X'.G lv' c' t n z W' cs:=fun {t n z W W' cs} ht hW ⟨a,cap,h1,h2,h3,h4,h5,h6⟩=>
  ⟨a,cap,h1,h2,h3,by have:=R.two.1;omega,h5,h6.imp id fun⟨b,o,q1,q2,q3⟩=>⟨b,o,q1,hW _ _ q2,fun hm=>by have:=R.two.2 t hm;omega⟩⟩
 induction v with
|pr r j p=>intro cs hn h;simp only[V.nml,A8]at hn;exact absurd h.1 zO
|os r z=>intro cs hn h;simp only[V.nml,A8]at hn;exact absurd h.1 zO
|vw r p a n=>intro cs hn h;simp only[V.nml,A8]at hn;exact absurd h.1 zO
|lb l=>intro cs hn h;cases hn
|fo z b i v N3 Q6=>
  rintro cs hn ⟨h1,⟨es,h2,h3⟩,h4⟩
  simp only[V.nml,A9]at hn
  exact⟨h1,⟨es,h2,N3 hn.1 h3⟩,Q6 hn.2 h4⟩
|st n g ih=>intro cs hn h;exact d7 h fun k cs hk hr=>ih k (x5 hn k hk) hr
|ar z n g ih=>intro cs _ h;exact⟨h.1,fun k hk=>⟨rep.nest R.fz (h.2 k hk).1,(h.2 k hk).2⟩⟩
|bl t l=>intro cs hn h;simp only[V.nml,A8]at hn;exact two hn (fun b o=>FzAt.mono R.fz) h
|sl t z n g ih=>
  intro cs hn h
  simp only[V.nml,A8]at hn
  exact⟨h.1,two hn (fun b o q2 i hi=>by
   obtain⟨es,r1,r2,r3,r4⟩:=q2 i hi
   exact⟨es,rep.nest R.fz r1,r2,r3,r4.mono R.fz⟩) h.2⟩
|pz v ih=>
  rintro cs _ ⟨b,o,es,q1,q2,q3,q4⟩
  exact⟨b,o,es,q1,rep.nest R.fz q2,q3,q4.mono R.fz⟩
|mp b n t=>intro cs _ h;exact⟨h.1,h.2.1.imp fun _ q=>⟨R.fz _ _ _ q.1,q.2⟩,R.two.1⟩
|fn q n g ih=>
  rintro cs hn ⟨vs,h1,h2,h3⟩
  exact⟨vs,h1,h2,fun k hk=>by obtain⟨x,q1,q2⟩:=h3 k hk;exact⟨x,q1,ih k (x5 hn k hk) q2⟩⟩
|_=>intro cs _ h;exact h
theorem SlR.rn{f:Nat->Nat}(R:RenT X X' lv lv' c c' f g'){t n z:Nat}{W W':Nat->Nat->Prop}(hW:∀b o,W b o->W' b o)(h:SlR X.G lv c t n z W cs):SlR X'.G lv' c' (f t) n z W' cs:=by
 obtain⟨a,cap,h1,h2,h3,h4,h5,h6⟩:=h
 exact⟨a,cap,h1,h2,h3,R.lt t h4,fun e=>h5 (R.one t h4 e),h6.imp (fun⟨e,q⟩=>⟨e.imp id fun e=>by rw[e];exact R.zero,q⟩) fun⟨b,o,q1,q2,q3⟩=>⟨b,o,q1,hW _ _ q2,fun ht i hi G9=>(R.tp t h4 ht).2 _ _ (q3 (R.tp t h4 ht).1 i hi G9)⟩⟩
theorem aF{f:Nat->Nat}(R:RenT X X' lv lv' c c' f g'):∀{v:V} {cs:List Value},rep X v lv c cs->rep X' (v.rn f g') lv' c' cs:=by
 intro v
 induction v with
|pr r j p=>
  rintro cs ⟨⟨e1,e2⟩,b,o,N,q1,q2,q3⟩
  simp only[V.rn]
  cases hb:(blt 1 (g' r)&&beq j 0)
  ·subst q2;exact⟨rfl,fun x hx=>by simp at hx;subst hx;rfl⟩
  rw[A9,A8]at hb
  have hj:=A5 hb.2
  subst hj
  exact⟨⟨zO,(R.gl r e2 zO).1⟩,b,o,N,R.ρ r _ zO q1,q2,q3⟩
|os r z=>
  rintro cs ⟨e1,e2,b,n,q1,q2,q3⟩
  simp only[V.rn]
  cases hb:blt 1 (g' r)
  ·obtain⟨_,_,rfl,_⟩:=q2;exact⟨rfl,fun x hx=>by simp at hx;subst hx;rfl⟩
  rw[A8]at hb
  obtain⟨a,cap,p1,p2,p3,p4,p5,p6⟩:=q2
  obtain⟨g1,g2⟩:=R.gl r p4 zO
  exact⟨zO,e2,b,n,R.ρ r _ zO q1,⟨a,cap,p1,p2,p3,g1,fun e=>by omega,p6.imp (fun⟨e,q⟩=>⟨.inl (e.resolve_right zO),q⟩) fun⟨b,o,s1,s2,s3⟩=>⟨b,o,s1,s2,fun ht i hi G9=>(g2 ht).2 _ _ (s3 (g2 ht).1 i hi G9)⟩⟩,fun e hr=>q3 e (g2 hr).1⟩
|vw r p a n=>
  rintro cs ⟨⟨e1,e2⟩,e3,b,o,N,cap,q1,q2,q3⟩
  simp only[V.rn]
  cases hb:blt 1 (g' r)
  ·subst q2;exact⟨rfl,fun x hx=>by simp at hx;subst hx;rfl⟩
  rw[A8]at hb
  exact⟨⟨zO,(R.gl r e2 zO).1⟩,e3,b,o,N,cap,R.ρ r _ zO q1,q2,q3⟩
|lb l=>
  rintro cs ⟨_,a,cap,h1,h2,h3,h4,h5,h6⟩
  refine⟨a,cap,h1,h2,h3,by have:=R.two.1;omega,h5,h6.imp id fun⟨b,o,q1,q2,_⟩=>⟨b,o,q1,q2.2.2.mono R.fz,fun ht=>?_⟩⟩
  have:=R.two.2 1 ht;omega
|fo z b i v N3 Q6=>rintro cs ⟨h1,⟨es,h2,h3⟩,h4⟩;exact⟨h1,⟨es,h2,N3 h3⟩,Q6 h4⟩
|st n g ih=>
  intro cs h
  simp only[V.rn]
  cases hb:V.mem.all n (fun k=>(g k).nml 2)
  ·exact d7 h fun k cs hk hr=>by rw[jH hk];exact ih k hr
  exact Mt R hb h
|ar z n g ih=>intro cs h;exact⟨h.1,fun k hk=>⟨rep.nest R.fz (h.2 k hk).1,(h.2 k hk).2⟩⟩
|bl t l=>intro cs h;exact SlR.rn R (fun b o=>FzAt.mono R.fz) h
|sl t z n g ih=>
  intro cs h
  exact⟨h.1,SlR.rn R (fun b o q2 i hi=>by
   obtain⟨es,r1,r2,r3,r4⟩:=q2 i hi
   exact⟨es,rep.nest R.fz r1,r2,r3,r4.mono R.fz⟩) h.2⟩
|pz v ih=>
  rintro cs ⟨b,o,es,q1,q2,q3,q4⟩
  exact⟨b,o,es,q1,rep.nest R.fz q2,q3,q4.mono R.fz⟩
|mp b n t=>intro cs h;exact⟨h.1,h.2.1.imp fun _ q=>⟨R.fz _ _ _ q.1,q.2⟩,R.two.1⟩
|fn q n g ih=>
  rintro cs ⟨vs,h1,h2,h3⟩
  exact⟨vs,h1,h2,fun k hk=>by obtain⟨x,q1,q2⟩:=h3 k hk;exact⟨x,q1,by rw[jH hk];exact ih k q2⟩⟩
|_=>intro cs h;exact h
theorem gS{f:Nat->Nat}(R:RenT X X' lv lv' c c' f g'):∀{v:V} {x:Value},repv X lv c v x->repv X' lv' c' (v.rn f g') x:=by
 intro v
 induction v with
|tu n g ih=>
  rintro x ⟨C,h1,h2,h3⟩
  exact⟨C,h1,h2,fun k hk=>by obtain⟨y,q1,q2⟩:=h3 k hk;exact⟨y,q1,ih k q2⟩⟩
|st n g ih=>
  rintro x ⟨C,h1,h2⟩
  have:=aF R h2
  simp only[V.rn]at this ⊢
  cases hb:V.mem.all n (fun k=>(g k).nml 2)<;>rw[hb]at this<;>exact⟨C,h1,this⟩
|ar|bs=>rintro x ⟨C,h1,h2⟩;exact⟨C,h1,aF R h2⟩
|un=>intro _ _;trivial
|pr r j p=>
  intro x h
  have:=aF (v:=.pr r j p) R (cs:=[x]) h
  simp only[V.rn]at this ⊢
  cases hb:(blt 1 (g' r)&&beq j 0)<;>rw[hb]at this<;>exact this
|vw r p a n=>
  intro x h
  have:=aF (v:=.vw r p a n) R (cs:=[x]) h
  simp only[V.rn]at this ⊢
  cases hb:blt 1 (g' r)<;>rw[hb]at this<;>exact this
|os r z=>
  intro x h
  have:=aF (v:=.os r z) R (cs:=[x]) h
  simp only[V.rn]at this ⊢
  cases hb:blt 1 (g' r)<;>rw[hb]at this<;>exact this
|_=>intro x h;exact aF (v:=_) R h
def V.one1:V->Bool
|.i _ _|.b _|.bc _|.s _|.bl _ _|.sl _ _ _ _|.np|.pr _ _ _|.pz _|.lit _|.os _ _|.fn _ _ _|.vw _ _ _ _|.lb _|.mp _ _ _=>true
|.uk n=>beq n 1
|_=>false
def V.wk(f g':Nat->Nat):V->V->V
|.bl t l,.bl t' _=>.bl (bif beq t 1 then t' else f t) l
|.lb l,.bl t' _=>.bl t' l
|.sl t z n g,.sl t' _ _ _=>.sl (bif beq t 1 then t' else f t) z n g
|.st n g,.st n' q=>bif beq n n' then .st n fun k=>(g k).wk f g' (q k) else (V.st n g).rn f g'
|.tu n g,.tu n' q=>bif beq n n' then .tu n fun k=>(g k).wk f g' (q k) else (V.tu n g).rn f g'
|.fo z y m v,.fo _ y' _ v'=>.fo z (y.wk f g' y') m (v.wk f g' v')
|v,.uk n=>bif v.one1&&beq n 1 then .uk 1 else v.rn f g'
|v,_=>v.rn f g'
theorem GC{v:V}(h1:v.one1=true)(h:rep X v lv c cs):rep X' (.uk 1) lv' c' cs:=by
 have hm:v.mem=true:=by cases v<;>first|rfl|cases h1
 have hs:v.sz=1:=by
  cases v
  case uk n=>exact A5 h1
  all_goals first|rfl|cases h1
 exact⟨by rw[X3 hm h,hs],r8 hm h⟩
theorem SlR.wk{G':Nat->Nat->Ow}{f:Nat->Nat}{t t' n z:Nat}{W W':Nat->Nat->Prop}(h0:f 0=0)(h1:∀t,t<c->f t<c')(h2:∀t,t<c->f t=1->t=1)(h3:∀t,t<c->f t∈lv'->t∈lv/\∀b i,G b i=.tp t->G' b i=.tp (f t))(ht':t'<c')(hW:∀b o,W b o->W' b o)
  (h:SlR G lv c t n z W cs):SlR G' lv' c' (bif beq t 1 then t' else f t) n z W' cs:=by
 obtain⟨a,cap,q1,q2,q3,q4,q5,q6⟩:=h
 cases hb:beq t 1
 ·exact⟨a,cap,q1,q2,q3,h1 t q4,fun e=>q5 (h2 t q4 e),q6.imp (fun⟨e,q⟩=>⟨e.imp id fun e=>by rw[e];exact h0,q⟩) fun⟨b,o,r1,r2,r3⟩=>⟨b,o,r1,hW _ _ r2,fun hm i hi G9=>(h3 t q4 hm).2 _ _ (r3 (h3 t q4 hm).1 i hi G9)⟩⟩
 have:=A5 hb
 have v8:=q5 this
 exact⟨a,cap,q1,q2,q3,ht',fun _=>v8,q6.imp (fun⟨e,q⟩=>⟨.inl (e.resolve_right fun e=>by omega),q⟩) fun⟨b,o,r1,r2,r3⟩=>⟨b,o,r1,hW _ _ r2,fun _ i hi G9=>by rw[v8]at G9;omega⟩⟩
theorem pS{f:Nat->Nat}(R:RenT X X' lv lv' c c' f g'):∀{v p:V} {cs:List Value},p.nml c'=true->rep X v lv c cs->rep X' (v.wk f g' p) lv' c' cs:=by
 intro v
 have uk:∀{v:V} {n:Nat} {cs:List Value},rep X v lv c cs->rep X' (bif v.one1&&beq n 1 then .uk 1 else v.rn f g') lv' c' cs:=fun {v n cs} h=>by
  cases hb:(v.one1&&beq n 1)
  ·exact aF R h
  rw[A9]at hb;exact GC hb.1 h
 induction v with
|bl t l=>
  intro p cs hn h
  cases p
  case bl t' l'=>
   simp only[V.nml,A8]at hn
   exact SlR.wk R.zero R.lt R.one R.tp hn (fun b o=>FzAt.mono R.fz) h
  case uk=>exact uk h
  all_goals exact aF R h
|sl t z n g ih=>
  intro p cs hn h
  cases p
  case sl t' z' n' g'=>
   simp only[V.nml,A8]at hn
   exact⟨h.1,SlR.wk R.zero R.lt R.one R.tp hn (fun b o q2 i hi=>by
    obtain⟨es,r1,r2,r3,r4⟩:=q2 i hi
    exact⟨es,rep.nest R.fz r1,r2,r3,r4.mono R.fz⟩) h.2⟩
  case uk=>exact uk h
  all_goals exact aF R h
|st n g ih=>
  intro p cs hn h
  cases p
  case st n' g'=>
   simp only[V.wk]
   cases hb:beq n n'
   ·exact aF R h
   have:=A5 hb
   subst this
   exact d7 h fun k cs hk hr=>ih k (x5 hn k hk) hr
  all_goals exact aF R h
|fo z b i v N3 Q6=>
  intro p cs hn h
  cases p
  case fo z' b' i' v'=>
   simp only[V.nml,A9]at hn
   obtain⟨h1,⟨es,h2,h3⟩,h4⟩:=h
   exact⟨h1,⟨es,h2,N3 hn.1 h3⟩,Q6 hn.2 h4⟩
  all_goals exact aF R h
|lb l=>
  intro p cs hn h
  cases p
  case bl t' l'=>
   simp only[V.nml,A8]at hn
   exact SlR.wk R.zero R.lt R.one R.tp hn (fun b o q=>q.2.2.mono R.fz) h.2
  case uk=>exact uk h
  all_goals exact aF R h
|tu=>intro p cs _ h;exact h.elim
|_=>
  intro p cs _ h
  cases p
  case uk=>exact uk h
  all_goals exact aF R h
theorem TX{f:Nat->Nat}(R:RenT X X' lv lv' c c' f g'):∀{v p:V} {x:Value},p.nml c'=true->repv X lv c v x->repv X' lv' c' (v.wk f g' p) x:=by
 intro v
 have uk:∀{v:V} {n:Nat} {x:Value},repv X lv c v x->repv X' lv' c' (bif v.one1&&beq n 1 then .uk 1 else v.rn f g') x:=fun {v n x} h=>by
  cases hb:(v.one1&&beq n 1)
  ·exact gS R h
  rw[A9]at hb
  have h1:rep X v lv c [x]:=by cases v<;>first|exact h|(cases hb.1;done)
  exact GC (v:=v) hb.1 h1
 induction v with
|st n g=>
  intro p x hn h
  obtain⟨C,h1,h2⟩:=h
  have:=pS R (p:=p) hn h2
  cases p
  case st n' g'=>
   simp only[V.wk]at this ⊢
   cases hb:beq n n'
   ·exact gS (v:=.st n g) R ⟨C,h1,h2⟩
   rw[hb]at this;exact⟨C,h1,this⟩
  all_goals exact gS (v:=.st n g) R ⟨C,h1,h2⟩
|ar=>intro p x hn h;obtain⟨C,h1,h2⟩:=h;have:=pS R (p:=p) hn h2;cases p<;>exact⟨C,h1,this⟩
|bs=>intro p x hn h;obtain⟨C,h1,h2⟩:=h;have:=pS R (p:=p) hn h2;cases p<;>exact⟨C,h1,this⟩
|tu n g ih=>
  intro p x hn h
  cases p
  case tu n' g'=>
   simp only[V.wk]
   cases hb:beq n n'
   ·exact gS (v:=.tu n g) R h
   have:=A5 hb
   subst this
   obtain⟨C,h1,h2,h3⟩:=h
   exact⟨C,h1,h2,fun k hk=>by obtain⟨y,q1,q2⟩:=h3 k hk;exact⟨y,q1,ih k (x5 hn k hk) q2⟩⟩
  all_goals exact gS (v:=.tu n g) R h
|un=>intro p _ _ _;cases p<;>trivial
|bl t l=>intro p x hn h;cases p<;>first|exact pS R (p:=_) hn h|exact uk h
|lb l=>intro p x hn h;cases p<;>first|exact pS R (p:=_) hn h|exact uk h
|sl t z n g=>intro p x hn h;cases p<;>first|exact pS R (p:=_) hn h|exact uk h
|fo z b i w=>intro p x hn h;have:=pS R (v:=.fo z b i w) (p:=p) (cs:=[x]) hn h;cases p<;>exact this
|_=>
  intro p x hn h
  cases p
  case uk=>exact uk h
  all_goals exact gS (v:=_) R h
theorem BF{n:Nat}{f g:Nat->Bool}(h:∀i,i<n->f i=g i):V.mem.all n f=V.mem.all n g:=by
 induction n with
|zero=>rfl
|succ n ih=>rw[V.mem.all,V.mem.all,ih fun i hi=>h i zO,h n zO]
theorem mU{f:Nat->Nat}:∀v:V,(v.rn f g').mem=v.mem/\(v.rn f g').sz=v.sz:=by
 intro v
 induction v with
|st n g ih=>
  simp only[V.rn]
  cases V.mem.all n (fun k=>(g k).nml 2)
  ·exact⟨BF fun k hk=>by rw[jH hk];exact(ih k).1,FO fun k hk=>by rw[jH hk];exact(ih k).2⟩
  exact⟨rfl,rfl⟩
|pr r j p=>simp only[V.rn];cases (blt 1 (g' r)&&beq j 0)<;>exact⟨rfl,rfl⟩
|os r z=>simp only[V.rn];cases blt 1 (g' r)<;>exact⟨rfl,rfl⟩
|vw r p a n=>simp only[V.rn];cases blt 1 (g' r)<;>exact⟨rfl,rfl⟩
|fo z b i v N3 Q6=>exact⟨by simp only[V.rn,V.mem];rw[N3.1,Q6.1,Q6.2],N3.2⟩
|_=>exact⟨rfl,rfl⟩
abbrev h0:Nat->Nat->V:=fun _ _=>.un
def lk:List (Nat×V)->Nat->V
|[],_=>.un
|(a,v)::l,t=>bif beq t a then v else lk l t
def S6(l:List (Nat×V)):Nat->Nat->V:=fun r j=>match j with|0=>lk l r|_=>.un
structure Ok0 (X:Cx) (k:Nat):Prop where
 ρ:∀r j,X.ρ r j=none
 κ:X.κ=k
 Φ:k=0->∀G ρ lv,X.Φ G ρ lv
def SatM(P:Program)(m:Bool)(f:FuncId)(ins:List V)(lvi:List Nat)(R:V->List (Nat×V)->List Nat->Prop):Prop:=
 ∀(X:Cx) (w:World) (vs:List Value),vs.length=ins.length->(∀(i:Nat) v x,ins[i]? =some v->vs[i]? =some x->repv X lvi 16 v x)->Ok0 X 0->Wd X X h0 lvi 16 w w->(m=true->X.wr=true)->
  Ret P f vs w fun v w'=>∃X' ho A0 out,R out ho A0/\repv X' A0 64 out v/\Wd X X' (S6 ho) A0 64 w w'
abbrev mW(P:Program)(f:FuncId)(ins:List V)(lvi:List Nat)(R:V->List (Nat×V)->List Nat->Prop):Prop:=SatM P false f ins lvi R
abbrev Sat(P:Program)(f:FuncId)(ins:List V)(lvi:List Nat)(R:V->List Nat->Prop):Prop:=mW P f ins lvi fun out ho A0=>ho=[]/\R out A0
theorem SatM.mono{m:Bool}{f:FuncId}{ins:List V}{lvi:List Nat}{R':V->List (Nat×V)->List Nat->Prop}(h:SatM P m f ins lvi R)(hr:∀v h l,R v h l->R' v h l):SatM P m f ins lvi R':=fun X w vs a b c d q=>
 (h X w vs a b c d q).mono fun _ _ ⟨X',ho,A0,out,q1,q2⟩=>⟨X',ho,A0,out,hr _ _ _ q1,q2⟩
theorem Sat.mono{f:FuncId}{ins:List V}{lvi:List Nat}{R R':V->List Nat->Prop}(h:Sat P f ins lvi R)(hr:∀v l,R v l->R' v l):Sat P f ins lvi R':=SatM.mono h fun v _ l q=>⟨q.1,hr v l q.2⟩
def Cx.pass(X:Cx)(w:World)(f:Nat->Nat)(lv':List Nat):Cx:=⟨fun b i=>match X.G b i with
|.fz x=>.fz x
|.tp t=>bif lv'.elem (f t) then .tp (f t) else .no
|_=>.no,fun _ _=>none,fun _ _ _=>True,0,w.heap.size,X.wr⟩
theorem Mu{f:Nat->Nat}:Ok0 (X.pass w f lv') 0:=⟨fun _ _=>rfl,rfl,fun _ _ _ _=>trivial⟩
theorem Mv{f:Nat->Nat}(H:Wd X0 X h lv c w0 w)(hl:∀t,t∈lv'->2<=t/\t<c')(hc:2<=c'):Wd (X.pass w f lv') (X.pass w f lv') h0 lv' c' w w:=by
 refine { kb:=zS _ _,tape:=rfl,fz0:=fun _ _ _ h=>h,no0:=fun _ _ _ h=>.inl h,mp0:=fun _ _ _ h=>h,ρ0:=fun _ _ _ h=>h,ex:=fun b i hn=>?_,fz:=fun b i x hx=>?_,tp:=fun b i t hx=>?_,rt:=fun r j b o N h=>(by cases h),c2:=hc,lvc:=hl,ρc:=fun r j p h=>(by cases h),inv:=trivial,imo:=fun _ _ _ _ _ _ _ _=>trivial,νe:=rfl,gz:=H.gz1 fun b i x h=>by simp only[Cx.pass,h],we:=rfl,ν0:=B2 _,νs:=B2 _,nf:=fun b hb _ C T fr he=>(by have:b<w.heap.size:=(Z4.1 he).1;simp only[Cx.pass]at hb;omega),κc:=L8 _}
 ·refine H.ex b i fun e=>hn ?_
  simp only[Cx.pass,e]
 ·simp only[Cx.pass]at hx
  cases hg:X.G b i with
 |fz y=>rw[hg]at hx;simp only at hx;cases hx;exact(H.fz b i x hg).move (fun b i x h=>by simp only[Cx.pass,h]) rfl fun _ _ h=>h
 |tp t=>
   rw[hg]at hx;simp only at hx
   cases he:lv'.elem (f t)<;>rw[he]at hx<;>cases hx
 |_=>rw[hg]at hx;cases hx
 simp only[Cx.pass]at hx
 cases hg:X.G b i with
 |tp t'=>exact H.tp b i t' hg
 |_=>rw[hg]at hx;cases hx
def g0:Nat->Nat:=fun _=>0
theorem Mw{f:Nat->Nat}(H:Wd X0 X h lv c w0 w)(h1:∀t,t<c->f t<c')(h2:∀t,t<c->f t=1->t=1)(h3:∀t,t<c->f t∈lv'->t∈lv)(h4:2<c'/\∀t,t∈lv'->2<=t)(h5:f 0=0):RenT X (X.pass w f lv') lv lv' c c' f g0:=
 ⟨fun r p hr hx=>absurd hr (by simp[g0]),fun r _ hr=>absurd hr (by simp[g0]),fun b i x hx=>by simp only[Cx.pass,hx],h1,h2,h4,fun t ht hf=>⟨h3 t ht hf,fun b i hx=>by simp only[Cx.pass,hx];rw[show lv'.elem (f t)=true by simpa using hf];rfl⟩,h5⟩
def ov(n o:Ow):Ow:=match n with|.fz x=>bif x.oneCell' then o else .fz x|_=>o
theorem BG{n o:Ow}(h:∀x,n=.fz x->x.oneCell'=true):ov n o=o:=by
 unfold ov;split
 ·rename_i x;rw[h x rfl];rfl
 rfl
theorem xX{n o:Ow}(h:n=.fz x)(h1:x.oneCell'=false):ov n o=.fz x:=by subst h;simp only[ov,h1,cond_false]
theorem pT(n o:Ow):(∃x,n=.fz x/\x.oneCell'=false/\ov n o=.fz x)\/((∀x,n=.fz x->x.oneCell'=true)/\ov n o=o):=by
 cases n with
|fz x=>
  cases hx:x.oneCell'
  ·exact .inl ⟨x,rfl,hx,xX rfl hx⟩
  have:∀y,Ow.fz x=.fz y->y.oneCell'=true:=fun y e=>by cases e;exact hx
  exact .inr ⟨this,BG this⟩
|_=>exact .inr ⟨fun x e=>(by cases e),rfl⟩
def Cx.back(X:Cx)(w:World)(f:Nat->Nat)(lvi:List Nat)(X':Cx)(nm:Nat):Cx:=⟨fun b i=>ov (X'.G b i) <|
 let new:Ow:=match X'.G b i with|.fz x=>.fz x|.tp t=>.tp (nm+t)|.rt r j k=>.rt (nm+r) j k|.no=>.no
 match X.G b i with
|.fz x=>.fz x
|.rt r j k=>.rt r j k
|.tp t=>bif lvi.elem (f t) then new else .tp t
|.no=>if b<w.heap.size then .no else new,fun r j=>bif blt r nm then X.ρ r j else bif blt 1 (r-nm) then X'.ρ (r-nm) j else none,X.Φ,X.κ,X.ν,X.wr⟩
def fB(nm t:Nat):Nat:=bif blt t 2 then t else nm+t
def hB(h:Nat->Nat->V)(nm:Nat)(ho:List (Nat×V)):Nat->Nat->V:=fun r j=>bif blt r nm then h r j else (S6 ho (r-nm) j).rn (fB nm) (fB nm)
theorem RtR.rn{f:Nat->Nat}(R:RenT X X' lv lv' c c' f f){r' b:Nat}{v:V}(hL:∀cs,R4 X w r j b o cs->R4 X' w' r' j b o cs)(h:RtR X lv c w r j b o N v):RtR X' lv' c' w' r' j b o N (v.rn f f):=by
 cases v with
|ro v=>obtain⟨cs,h1,h2,h3,h4⟩:=h;exact⟨cs,rep.nest R.fz h1,h2,h3,h4.mono R.fz⟩
|un=>trivial
|tu=>obtain⟨cs,h1,_⟩:=h;exact h1.elim
|_=>
  obtain⟨cs,h1,h2,h3,h4⟩:=h
  exact dU ((mU (f:=f) (g':=f) _).1.trans h2) (aF R h1) h3 (hL cs h4)
theorem MB{a b:World}{m:MemPlace->Prop}(h:a.keptBut b m){x:Nat}(hx:x<a.heap.size){C:Array Value}{T:TypeId}{fr:Nat×Nat}(hb:b.heap[x]? =some (.cells C T fr)):∃C0,a.heap[x]? =some (.cells C0 T fr)/\C0.size=C.size:=by
 have:=h.2.2 x hx
 cases ha:a.heap[x]? with
|none=>rw[Array.getElem?_eq_none_iff]at ha;omega
|some o=>
  rw[ha,hb]at this
  cases o<;>simp_all
theorem BH{a b:World}{m:MemPlace->Prop}(h:a.keptBut b m){x:Nat}(hx:x<a.heap.size):b.frozen? (ad x i)=a.frozen? (ad x i):=by
 have:=h.2.2 x hx
 unfold World.frozen?
 cases ha:a.heap[x]? with
|none=>rw[Array.getElem?_eq_none_iff]at ha;omega
|some o=>
  cases hb:b.heap[x]? with
 |none=>
   rw[ha,hb]at this
   cases o<;>simp at this
 |some o'=>
   rw[ha,hb]at this
   cases o<;>cases o'<;>simp_all
theorem Mx{a b:World}{m:MemPlace->Prop}(h:a.keptBut b m){x:Nat}(hm:¬ m (.map x)){es:Array MapEntry}{F8:Nat}(ha:a.heap[x]? =some (.map es F8)):b.heap[x]? =some (.map es F8):=by
 have:=h.2.2 x (Z4.1 ha).1
 rw[ha]at this
 cases hb:b.heap[x]? with
|none=>rw[hb]at this;simp at this
|some o=>
  rw[hb]at this
  cases o<;>simp_all
theorem TY{a b:World}{m:MemPlace->Prop}(h:a.keptBut b m){x:Nat}(hc:(a.cell? (ad x i)).isSome=true){es:Array MapEntry}{F8:Nat}(hb:b.heap[x]? =some (.map es F8)):False:=by
 unfold World.cell? at hc
 cases ha:a.heap[x]? with
|none=>simp[ha]at hc
|some o=>
  have:=h.2.2 x (Z4.1 ha).1
  rw[ha,hb]at this
  rw[ha]at hc
  cases o<;>simp_all
theorem My{f:Nat->Nat}{lvi A0:List Nat}{ho:List (Nat×V)}{nm:Nat}(H:Wd X0 X h lv nm w0 w)(H':Wd (X.pass w f lvi) X' (S6 ho) A0 64 w w')(j4:∀t,t∈lv'->(t∈lv/\lvi.elem (f t)=false)\/∃t',t'∈A0/\t=nm+t'):
 X.le (X.back w f lvi X' nm) lv lv' nm/\Wd X0 (X.back w f lvi X' nm) (hB h nm ho) lv' (nm+64) w0 w'/\RenT X' (X.back w f lvi X' nm) A0 lv' 64 (nm+64) (fB nm) (fB nm)/\Yle (C8 X w) (C8 (X.back w f lvi X' nm) w'):=by
 have kI:∀b i,(∀x,X.G b i≠ .fz x)->(∀t,X.G b i=.tp t->lvi.elem (f t)=false)->(X.pass w f lvi).G b i=.no:=fun b i h1 h2=>by
  simp only[Cx.pass]
  cases hg:X.G b i with
 |fz x=>exact absurd hg (h1 x)
 |tp t=>simp only[h2 t hg];rfl
 |_=>rfl
 have same:∀b i,b<w.heap.size->(∀x,X.G b i≠ .fz x)->(∀t,X.G b i=.tp t->lvi.elem (f t)=false)->w'.cell? (ad b i)=w.cell? (ad b i)/\w'.frozen? (ad b i)=w.frozen? (ad b i):=fun b i hb h1 h2=>by
  refine⟨H'.kb.cell hb ?_,BH H'.kb hb⟩
  rintro(⟨r,j,k,hg⟩|⟨t,hg⟩)<;>rw[kI b i h1 h2]at hg<;>cases hg
 have nomt:∀b i,(w.cell? (ad b i)).isSome=true->∀x,X'.G b i=.fz x->x.oneCell'=true:=fun b i hc x hx=>by
  rcases(H'.fz b i x hx).o with h|⟨t,rfl⟩
  ·exact h
  exfalso
  obtain⟨es,F8,h1,_⟩:=(H'.fz b i _ hx).m t rfl
  exact TY H'.kb hc h1
 have mtag1:∀b i x,X'.G b i=.fz x->x.oneCell'=false->∃t,x=N9 t:=fun b i x hx h=>by
  rcases(H'.fz b i x hx).o with h'|h'
  ·rw[h]at h';cases h'
  exact h'
 have fz1:∀b i x,X.G b i=.fz x->X'.G b i=.fz x:=fun b i x hg=>H'.fz0 b i x (by simp only[Cx.pass,hg])
 have B1:X.le (X.back w f lvi X' nm) lv lv' nm:=by
  refine⟨fun b i x hx=>?_,fun b i t ht hlt hx=>?_,fun t ht hlt=>?_,fun r j p _ hlt h=>by simp only[Cx.back];rw[show blt r nm=true by rw[A8];exact hlt];exact h,rfl⟩
  ·rcases pT (X'.G b i) (let new:Ow:=match X'.G b i with|.fz x=>.fz x|.tp t=>.tp (nm+t)|.rt r j k=>.rt (nm+r) j k|.no=>.no
    match X.G b i with|.fz x=>.fz x|.rt r j k=>.rt r j k|.tp t=>bif lvi.elem (f t) then new else .tp t|.no=>if b<w.heap.size then .no else new) with⟨y,h1,h2,h3⟩|⟨_,h3⟩
   ·rw[fz1 b i x hx]at h1;cases h1;exact h3
   refine Eq.trans h3 ?_
   simp only[hx]
  ·rcases j4 t ht with⟨_,h2⟩|⟨t',_,rfl⟩
   ·simp only[Cx.back,BG (nomt b i (H.tp b i t hx).1),hx,h2];rfl
   omega
  rcases j4 t ht with⟨h1,_⟩|⟨t',_,rfl⟩
  ·exact h1
  omega
 have inv:∀b i,X'.G b i≠ .no->(∃y,X.G b i=.fz y)\/(∃t,X.G b i=.tp t/\lvi.elem (f t)=true)\/(X.G b i=.no/\¬ b<w.heap.size)\/(∃x,X'.G b i=.fz x/\x.oneCell'=false):=fun b i hown=>by
  cases hg:X.G b i with
 |fz y=>exact .inl ⟨y,rfl⟩
 |tp t=>
   cases he:lvi.elem (f t)
   ·have hn:=kI b i (fun x=>by rw[hg];simp) (fun t' e=>by rw[hg]at e;cases e;exact he)
    rcases H'.no0 b i (H.ex b i (by rw[hg];simp)) hn with h|⟨t,h⟩
    ·exact absurd h hown
    exact .inr (.inr (.inr ⟨_,h,rfl⟩))
   exact .inr (.inl ⟨t,rfl,he⟩)
 |rt r j k=>
   have hn:=kI b i (fun x=>by rw[hg];simp) (fun t' e=>by rw[hg]at e;cases e)
   rcases H'.no0 b i (H.ex b i (by rw[hg];simp)) hn with h|⟨t,h⟩
   ·exact absurd h hown
   exact .inr (.inr (.inr ⟨_,h,rfl⟩))
 |no=>
   by_cases hb:b<w.heap.size
   ·have hn:=kI b i (fun x=>by rw[hg];simp) (fun t' e=>by rw[hg]at e;cases e)
    rcases H'.no0 b i hb hn with h|⟨t,h⟩
    ·exact absurd h hown
    exact .inr (.inr (.inr ⟨_,h,rfl⟩))
   exact .inr (.inr (.inl ⟨rfl,hb⟩))
 have new:∀b i,(∃t,X.G b i=.tp t/\lvi.elem (f t)=true)\/(X.G b i=.no/\¬ b<w.heap.size)->(X.back w f lvi X' nm).G b i=(match X'.G b i with|.fz x=>.fz x|.tp t=>.tp (nm+t)|.rt r j k=>.rt (nm+r) j k|.no=>.no):=fun b i hh=>by
  have key:∀n o:Ow,(∀x,n=.fz x->o=.fz x)->ov n o=o:=fun n o h=>by
   rcases pT n o with⟨x,h1,_,h3⟩|⟨_,h3⟩
   ·rw[h3,h x h1]
   exact h3
  rcases hh with⟨t,hg,he⟩|⟨hg,hb⟩
  ·simp only[Cx.back,hg,he,cond_true]
   exact key _ _ fun x h=>by rw[h]
  simp only[Cx.back,hg,hb,if_false]
  exact key _ _ fun x h=>by rw[h]
 have dZ:∀{a b:Nat},a<b->blt a b=true:=fun h=>by rw[A8];exact h
 have jL:∀{a b:Nat},blt a b=false->b<=a:=fun {a b} h=>zI fun hl=>by rw[dZ hl]at h;cases h
 have fbc:∀t,t<64->fB nm t<nm+64:=fun t ht=>by
  unfold fB
  cases hb:blt t 2
  ·simp only[cond_false];omega
  rw[A8]at hb;simp only[cond_true];have:=H.c2;omega
 have fbtp:∀t,t<64->fB nm t∈lv'->t∈A0/\∀b i,X'.G b i=.tp t->(X.back w f lvi X' nm).G b i=.tp (fB nm t):=fun t ht hf=>by
  unfold fB at hf ⊢
  cases hb:blt t 2<;>rw[hb]at hf
  ·simp only[cond_false]at hf
   have lS:t∈A0:=by
    rcases j4 _ hf with⟨h1,_⟩|⟨t',h1,h2⟩
    ·have:=H.lvc _ h1;omega
    have:t'=t:=by omega
    subst this;exact h1
   refine⟨lS,fun b i hx=>?_⟩
   simp only[cond_false]
   rcases inv b i (by rw[hx];simp) with⟨y,hg⟩|hh|hh|hh
   ·have:(X.pass w f lvi).G b i=.fz y:=by simp only[Cx.pass,hg]
    have h2:=H'.fz0 b i y this
    rw[hx]at h2;cases h2
   ·rw[new b i (.inl hh),hx]
   ·rw[new b i (.inr hh),hx]
   obtain⟨_,e,_⟩:=hh;rw[hx]at e;cases e
  simp only[cond_true]at hf
  rw[A8]at hb
  exfalso
  rcases j4 _ hf with⟨h1,_⟩|⟨t',h1,h2⟩
  ·have:=H.lvc _ h1;omega
  have:=H.c2;omega
 have ren:RenT X' (X.back w f lvi X' nm) A0 lv' 64 (nm+64) (fB nm) (fB nm):=by
  refine⟨fun r p h2 hr=>?_,fun r hlt h2=>⟨fbc r hlt,fun hm=>fbtp r hlt hm⟩,fun b i x hx=>?_,fbc,fun t ht h1=>?_,⟨by have:=H.c2;omega,fun t ht=>?_⟩,fbtp,rfl⟩
  ·unfold fB at h2 ⊢
   cases hb:blt r 2<;>rw[hb]at h2
   ·have U6:=jL hb
    show(bif blt (nm+r) nm then X.ρ (nm+r) 0 else bif blt 1 (nm+r-nm) then X'.ρ (nm+r-nm) 0 else none)=some p
    rw[show blt (nm+r) nm=false by (cases h:blt (nm+r) nm;rfl;rw[A8]at h;omega),show nm+r-nm=r by omega,dZ (show 1<r by omega)]
    exact hr
   simp only[cond_true]at h2;rw[A8]at hb;omega
  ·rcases inv b i (by rw[hx];simp) with⟨y,hg⟩|hh|hh|hh
   ·have:(X.pass w f lvi).G b i=.fz y:=by simp only[Cx.pass,hg]
    have h2:=H'.fz0 b i y this
    rw[hx]at h2;cases h2
    exact B1.fz _ _ _ hg
   ·rw[new b i (.inl hh),hx]
   ·rw[new b i (.inr hh),hx]
   obtain⟨_,e,h1⟩:=hh;rw[hx]at e;cases e;exact xX hx h1
  ·unfold fB at h1
   cases hb:blt t 2<;>rw[hb]at h1
   ·simp only[cond_false]at h1;have:=H.c2;omega
   exact h1
  rcases j4 t ht with⟨h1,_⟩|⟨t',h1,rfl⟩
  ·exact(H.lvc t h1).1
  have:=H.c2;omega
 have mt0:∀b t,b<w.heap.size->(X.pass w f lvi).G b 0=.fz (N9 t)->X.G b 0=.fz (N9 t):=fun b t _ h=>by
  simp only[Cx.pass]at h
  cases hg:X.G b 0<;>rw[hg]at h<;>simp only at h
  ·cases h
  ·exact h
  ·cases h
  rename_i t'
  cases he:lvi.elem (f t')<;>rw[he]at h<;>cases h
 have oD:∀b i x,(X.back w f lvi X' nm).G b i=.fz x->X'.G b i=.fz x:=fun b i x hx=>by
  rcases pT (X'.G b i) (let new:Ow:=match X'.G b i with|.fz x=>.fz x|.tp t=>.tp (nm+t)|.rt r j k=>.rt (nm+r) j k|.no=>.no
   match X.G b i with|.fz x=>.fz x|.rt r j k=>.rt r j k|.tp t=>bif lvi.elem (f t) then new else .tp t|.no=>if b<w.heap.size then .no else new) with⟨y,h1,h2,h3⟩|⟨_,h3⟩
  ·rw[show(X.back w f lvi X' nm).G b i=.fz y from h3]at hx
   cases hx;exact h1
  have hx:=h3.symm.trans hx
  have nw:(match X'.G b i with|.fz x=>Ow.fz x|.tp t=>.tp (nm+t)|.rt r j k=>.rt (nm+r) j k|.no=>.no)=.fz x->X'.G b i=.fz x:=fun h=>by
   cases oE:X'.G b i<;>rw[oE]at h<;>simp only at h<;>first|exact h|cases h
  cases hg:X.G b i with
  |fz y=>rw[hg]at hx;cases hx;exact fz1 b i x hg
  |rt r j k=>rw[hg]at hx;cases hx
  |tp t=>
   rw[hg]at hx;simp only at hx
   cases he:lvi.elem (f t)<;>rw[he]at hx
   ·cases hx
   exact nw hx
  |no=>
   rw[hg]at hx;simp only at hx
   split at hx
   ·cases hx
   exact nw hx
 refine⟨B1,?_,ren,fun b i x hx=>?_⟩
 rotate_left 1
 ·have hb:=H.ex b i (xG hx)
  unfold C8 at hx ⊢
  cases hg:X.G b i with
 |fz y=>rw[hg]at hx;rw[B1.fz _ _ _ hg];exact hx
 |rt r j k=>
   rw[hg]at hx
   have hx:(bif beq j 0 then w.cell? (ad b i) else none)=some x:=hx
   have hc:(w.cell? (ad b i)).isSome=true:=by
    cases hj:beq j 0<;>rw[hj]at hx
    ·cases hx
    simp only[cond_true]at hx;rw[hx];rfl
   simp only[Cx.back,BG (nomt b i hc),hg]
   rw[(same b i hb (fun x=>by rw[hg];simp) (fun t e=>by rw[hg]at e;cases e)).1]
   exact hx
 |_=>rw[hg]at hx;cases hx
 refine { kb:=?_,tape:=H'.tape.trans H.tape,fz0:=fun b i x hx=>B1.fz _ _ _ (H.fz0 b i x hx),no0:=fun b i hb hn=>?_,mp0:=fun b t hb hx=>(by
 have:=X7 hb H.size
 exact H.mp0 b t hb (mt0 b t this (H'.mp0 b t this (oD b 0 _ hx)))),ρ0:=fun r j p hp=>(by simp only[Cx.back];rw[dZ (H.ρc _ _ _ (H.ρ0 r j p hp))];exact H.ρ0 r j p hp),ex:=fun b i hn=>?_,fz:=fun b i x hx=>?_,tp:=fun b i t hx=>?_,rt:=fun r j b o N hr=>?_,c2:=by have:=H.c2;omega,lvc:=fun t ht=>?_,ρc:=fun r j p hp=>?_,inv:=H.inv' B1,imo:=H.imo,νe:=H.νe,gz:=H.gz,we:=H.we,ν0:=H.ν0,νs:=J2 H.νs H'.size,nf:=fun b hb ⟨i,hi⟩ C T fr he=>(by
 by_cases hlt:b<w.heap.size
 ·obtain⟨C0,e1,e2⟩:=MB H'.kb hlt he
  rw[<-e2]
  refine H.nf b hb ⟨i,fun e=>hi ?_⟩ C0 T fr e1
  rcases pT (X'.G b i) .no with⟨y,h1,h2,h3⟩|⟨h1,h3⟩
  ·exfalso
   obtain⟨t,rfl⟩:=mtag1 b i y h1 h2
   obtain⟨es,F8,h4,_⟩:=(H'.fz b i _ h1).m t rfl
   rw[h4]at he;cases he
  simp only[Cx.back,e,if_pos hlt];exact h3
 ·refine H'.nf b (by simp only[Cx.pass];omega) ⟨i,fun e=>hi ?_⟩ C T fr he
  have hg:X.G b i=.no:=by
   cases hg:X.G b i with
  |no=>rfl
  |_=>exact absurd (H.ex b i (by rw[hg];simp)) hlt
  rw[new b i (.inr ⟨hg,hlt⟩),e]),κc:=by have:=H.κc;omega}
 ·refine tA H.kb H'.kb (fun x i hx hm=>?_) (fun x hx ⟨hw,t,hm⟩=>⟨H.we.symm.trans hw,t,H.mp0 x t hx (mt0 x t (X7 hx H.size) hm)⟩)
  have bV:∀e,X0.G x i=e->e≠ .no/\(∀y,e≠ .fz y):=fun e he=>by
   constructor
   ·rintro rfl
    rcases H.no0 x i hx he with hg|⟨t0,hg⟩
    ·have:=kI x i (fun y=>by rw[hg];simp) (fun t e=>by rw[hg]at e;cases e)
     rcases hm with⟨r,j,k,h⟩|⟨t,h⟩<;>rw[this]at h<;>cases h
    have:(X.pass w f lvi).G x i=.fz (N9 t0):=by simp only[Cx.pass,hg]
    rcases hm with⟨r,j,k,h⟩|⟨t,h⟩<;>rw[this]at h<;>cases h
   rintro y rfl
   have hg:=H.fz0 x i y he
   have:(X.pass w f lvi).G x i=.fz y:=by simp only[Cx.pass,hg]
   rcases hm with⟨r,j,k,h⟩|⟨t,h⟩<;>rw[this]at h<;>cases h
  cases Q7:X0.G x i with
 |no=>exact absurd rfl (bV _ Q7).1
 |fz y=>exact absurd rfl ((bV _ Q7).2 y)
 |rt r j k=>exact .inl ⟨r,j,k,Q7⟩
 |tp t=>exact .inr ⟨t,Q7⟩
 ·have:b<w.heap.size:=X7 hb H.size
  rcases H.no0 b i hb hn with hg|⟨t,hg⟩
  ·rcases pT (X'.G b i) .no with⟨y,h1,h2,h3⟩|⟨_,h3⟩
   ·obtain⟨t,rfl⟩:=mtag1 b i y h1 h2
    exact .inr ⟨t,by simp only[Cx.back,hg,if_pos this];exact h3⟩
   exact .inl (by simp only[Cx.back,hg,if_pos this];exact h3)
  exact .inr ⟨t,B1.fz _ _ _ hg⟩
 ·by_cases hb:b<w.heap.size
  ·exact X7 hb H'.size
  refine H'.ex b i fun e=>hn ?_
  have hg:X.G b i=.no:=by
   cases hg:X.G b i with
  |no=>rfl
  |_=>exact absurd (H.ex b i (by rw[hg];simp)) hb
  rw[new b i (.inr ⟨hg,hb⟩),e]
 ·exact(H'.fz b i x (oD b i x hx)).move ren.fz rfl fun _ _ h=>h
 ·cases hg:X.G b i with
 |fz y=>rw[B1.fz _ _ _ hg]at hx;cases hx
 |rt r j k=>
   rcases pT (X'.G b i) (.rt r j k) with⟨y,h1,h2,h3⟩|⟨_,h3⟩<;>(simp only[Cx.back,hg]at hx;rw[h3]at hx;cases hx)
 |tp t0=>
   cases he:lvi.elem (f t0)
   ·obtain⟨s1,s2⟩:=same b i (H.ex b i (by rw[hg];simp)) (fun x=>by rw[hg];simp) (fun t' e=>by rw[hg]at e;cases e;exact he)
    rw[s1,s2];exact H.tp b i t0 hg
   rw[new b i (.inl ⟨t0,hg,he⟩)]at hx
   cases oE:X'.G b i<;>rw[oE]at hx<;>simp only at hx<;>cases hx
   exact H'.tp b i _ oE
 |no=>
   by_cases hb:b<w.heap.size
   ·rcases pT (X'.G b i) .no with⟨y,h1,h2,h3⟩|⟨_,h3⟩<;>(simp only[Cx.back,hg,if_pos hb]at hx;rw[h3]at hx;cases hx)
   rw[new b i (.inr ⟨hg,hb⟩)]at hx
   cases oE:X'.G b i<;>rw[oE]at hx<;>simp only at hx<;>cases hx
   exact H'.tp b i _ oE
 ·simp only[Cx.back]at hr
  cases hb:blt r nm
  ·rw[hb]at hr
   simp only[cond_false]at hr
   obtain⟨h1,h2⟩:=M7 hr (by simp)
   rw[A8]at h1
   have U6:=jL hb
   have:=(H'.rt (r-nm) j b o N h2).rn ren (r':=r) (w':=w') fun cs hL k x hk=>by
    obtain⟨q1,q2,q3⟩:=hL k x hk
    refine⟨?_,q2,q3⟩
    rcases inv b (o+k) (by rw[q1];simp) with⟨y,hg⟩|hh|hh|hh
    ·have:(X.pass w f lvi).G b (o+k)=.fz y:=by simp only[Cx.pass,hg]
     have h2:=H'.fz0 b _ y this
     rw[q1]at h2;cases h2
    ·rw[new b _ (.inl hh),q1];simp only;rw[show nm+(r-nm)=r by omega]
    ·rw[new b _ (.inr hh),q1];simp only;rw[show nm+(r-nm)=r by omega]
    obtain⟨_,e,_⟩:=hh;rw[q1]at e;cases e
   unfold hB
   rw[hb]
   exact this
  rw[hb]at hr
  simp only[cond_true]at hr
  unfold hB
  rw[hb]
  refine(H.rt r j b o N hr).mono B1 zO fun _ cs _ hL _ k x hk=>?_
  obtain⟨q1,q2,q3⟩:=hL k x hk
  obtain⟨s1,s2⟩:=same b (o+k) (H.ex b _ (by rw[q1];simp)) (fun x=>by rw[q1];simp) (fun t' e=>by rw[q1]at e;cases e)
  exact⟨by simp only[Cx.back,BG (nomt b (o+k) (by rw[q2];rfl)),q1],by rw[s1];exact q2,q3.to fun j=>BH H'.kb (H.ex b _ (by rw[q1];simp))⟩
 ·rcases j4 t ht with⟨h1,_⟩|⟨t',h1,rfl⟩
  ·have:=H.lvc t h1;omega
  have:=H'.lvc t' h1;omega
 simp only[Cx.back]at hp
 cases hb:blt r nm
 ·rw[hb]at hp
  simp only[cond_false]at hp
  obtain⟨h1,h2⟩:=M7 hp (by simp)
  have:=H'.ρc _ _ _ h2;omega
 rw[A8]at hb;omega
end
section
variable {k:List K} {s:T}
theorem Mz(hQ:mS Q){p:Bool}{A B:Cf}(e:go P N k s=.br p A B)(ha:p=true->Run P X0 w0 Q A)(hb:p=false->Run P X0 w0 Q B):Run P X0 w0 Q ⟨k,s⟩:=M8 hQ N k s (by rw[e];exact⟨ha,hb⟩)
theorem Na(hQ:mS Q){p:Bool}{A:Cf}(e:go P N k s=.chk p A)(hp:p=true)(ha:Run P X0 w0 Q A):Run P X0 w0 Q ⟨k,s⟩:=M8 hQ N k s (by rw[e];exact⟨hp,ha⟩)
def D2:List (Nat×Nat)->Nat->Nat
|[],t=>bif blt t 2 then t else 0
|(a,b)::l,t=>bif beq t a then b else D2 l t
def fG(lv:List Nat)(c':Nat)(ren:List (Nat×Nat)):Bool:=ren.all fun q=>lv.elem q.1&&blt 1 q.1&&blt 1 q.2&&blt q.2 c'
theorem TZ{lv:List Nat}{c':Nat}:∀{ren:List (Nat×Nat)},fG lv c' ren=true->D2 ren 0=0
|[],_=>rfl
|(a,b)::l,h=>by
  have h:=P5.1 h
  have h1:=h (a,b) (X9 ..)
  simp only[A9,A8]at h1
  simp only[D2]
  rw[show beq 0 a=false from by cases a;omega;rfl]
  exact TZ (P5.2 fun q hq=>h q (R5 _ hq))
theorem UA{lv:List Nat}{c':Nat}(hc:2<=c'):∀{ren:List (Nat×Nat)},fG lv c' ren=true->∀t,D2 ren t<c'/\(D2 ren t=1->t=1)/\(2<=D2 ren t->t∈lv/\t∈ren.map (·.1)/\D2 ren t∈ren.map (·.2))/\(t∈ren.map (·.1)->2<=D2 ren t)
|[],_,t=>by
  simp only[D2]
  cases hb:blt t 2
  ·simp only[cond_false];exact⟨zO,zO,zO,by simp⟩
  rw[A8]at hb;simp only[cond_true];exact⟨zO,id,zO,by simp⟩
|(a,b)::l,h,t=>by
  have h':fG lv c' l=true:=by unfold fG at h ⊢;rw[vB,A9]at h;exact h.2
  have h1:(lv.elem a&&blt 1 a&&blt 1 b&&blt b c')=true:=by unfold fG at h;rw[vB,A9]at h;exact h.1
  simp only[A9,A8]at h1
  obtain⟨⟨⟨h2,h3⟩,h4⟩,h5⟩:=h1
  obtain⟨q1,q2,q3,q4⟩:=UA hc h' t
  simp only[D2]
  cases hb:beq t a
  ·simp only[cond_false]
   refine⟨q1,q2,fun h=>?_,fun hm=>?_⟩
   ·obtain⟨r1,r2,r3⟩:=q3 h
    exact⟨r1,R5 _ r2,R5 _ r3⟩
   rcases K8.1 hm with e|hm
   ·simp only at e;subst e;rw[P6]at hb;cases hb
   exact q4 hm
  have:=A5 hb
  subst this
  simp only[cond_true]
  exact⟨h5,zO,fun _=>⟨by simpa using h2,by simp,by simp⟩,fun _=>by omega⟩
def V.nu(nm:Nat)(v:V):V:=v.rn (fB nm) (fB nm)
def GD(lv:List Nat)(ren:List (Nat×Nat))(A0:List Nat)(nm:Nat):List Nat:=lv.filter (fun t=> !(ren.map (·.1)).elem t)++A0.map (nm+·)
theorem Nb(hQ:mS Q){l:List Cf}(e:go P N k s=.alt l)(h:∀A,A∈l->Run P X0 w0 Q A):Run P X0 w0 Q ⟨k,s⟩:=M8 hQ N k s (by rw[e];exact h)
theorem Nc(hQ:mS Q){m:Bool}(hm:m=true->X0.wr=true){f:FuncId}{l ins:List V}{lvi:List Nat}{d:Option Tmp}{nm:Nat}{A:Cf}(ren:List (Nat×Nat))(e:go P N k s=.call f l d nm A)(hl:(l.map (V.rn (D2 ren) g0),fG A.s.lv 16 ren&&beq (C1 A.s A.k) (nm+64),ren.map (·.2))=(ins,true,lvi))(hs:SatM P m f ins lvi R)
  (h:∀out ho A0,R out ho A0->Run P X0 w0 Q ⟨A.k,{ A.s with h:=hB A.s.h nm ho,lv:=GD A.s.lv ren A0 nm }.put d (out.nu nm)⟩):Run P X0 w0 Q ⟨k,s⟩:=by
 refine M8 hQ N k s ?_
 rw[e]
 intro X τ w vs hF H D7 oF hd
 simp only[G6,A9]at hl
 obtain⟨rfl,⟨j6,hk⟩,rfl⟩:=hl
 have hk:=A5 hk
 have sp:=UA (Nat.le_of_ble_eq_true rfl:2<=16) j6
 have hlvi:∀t,t∈ren.map (·.2)->2<=t/\t<16:=fun t ht=>by
  obtain⟨q,hq,rfl⟩:=J6.1 ht
  have:=P5.1 j6 q hq
  simp only[A9,A8]at this
  exact⟨this.1.2,this.2⟩
 have R0:RenT X (X.pass w (D2 ren) (ren.map (·.2))) A.s.lv (ren.map (·.2)) nm 16 (D2 ren) g0:=Mw H (fun t _=>(sp t).1) (fun t _=>(sp t).2.1) (fun t _ hm=>((sp t).2.2.1 (hlvi _ hm).1).1) ⟨zO,fun t ht=>(hlvi t ht).1⟩ (TZ j6)
 have hret:=hs (X.pass w (D2 ren) (ren.map (·.2))) w vs (by simpa using D7) (fun i v x hv hx=>by
  rw[Y6]at hv
  obtain⟨v0,z8,rfl⟩:=eL.1 hv
  exact gS R0 (oF i v0 x z8 hx)) Mu (Mv H hlvi zO) fun e=>H.we.trans (hm e)
 refine hret.mono fun v w' ⟨X',ho,A0,out,q1,q2,q3⟩=>?_
 have j4:∀t,t∈GD A.s.lv ren A0 nm->(t∈A.s.lv/\(ren.map (·.2)).elem (D2 ren t)=false)\/∃t',t'∈A0/\t=nm+t':=fun t ht=>by
  rcases S3.1 ht with ht|ht
  ·rw[zP]at ht
   refine .inl ⟨ht.1,?_⟩;have hn:¬ t∈ren.map (·.1):=by have:=ht.2;simpa using this
   cases hb:(ren.map (·.2)).elem (D2 ren t)
   ·rfl
   exact absurd ((sp t).2.2.1 (hlvi _ (by simpa using hb)).1).2.1 hn
  obtain⟨t',h1,rfl⟩:=J6.1 ht
  exact .inr ⟨t',h1,rfl⟩
 obtain⟨c1,c2,c3,c4⟩:=My H q3 j4
 refine xU (mR c2 c1.fz fun _=>c4) (h out ho A0 q1 _ _ _ ?_);have:=jK (s:=A.s) (hF.mono c1 (by omega:nm<=nm+64)) c2 (d:=d) (fun d' e=>by subst e;exact hd) (gS c3 q2) A.s.c
 have O9:C1 ({ A.s with h:=hB A.s.h nm ho,lv:=GD A.s.lv ren A0 nm }.put d (out.nu nm)) A.k=nm+64:=by
  rw[<-hk];cases d<;>rfl
 rw[O9]
 exact this
def BI(X0:Cx)(w0:World)(R:V->List (Nat×V)->List Nat->Prop)(v:Value)(w':World):Prop:=∃X' ho A0 out,R out ho A0/\repv X' A0 64 out v/\Wd X0 X' (S6 ho) A0 64 w0 w'
def Fin(P:Program)(fn:Func)(X0:Cx)(w0:World)(R:V->List (Nat×V)->List Nat->Prop):Exit->Act->World->Prop:=bodyPost P fn fun e w'=>∃v,e=.returned v/\BI X0 w0 R v w'
def T0(ins:List V)(lvi:List Nat)(n:Nat):T:=⟨fun t=>ins.getD t .un,h0,lvi,16,n⟩
theorem Nd{m:Bool}{f:FuncId}{fn:Func}{c:Code}{n:Nat}{ins:List V}{lvi:List Nat}(hf:P.funcs[f]? =some fn)(hb:fn.body=some c)(hn:fn.ntmps=n)(B1:Nat.ble ins.length n=true)
  (h:∀X0 w0,Ok0 X0 0->(m=true->X0.wr=true)->Run P X0 w0 (Fin P fn X0 w0 R) ⟨[.c c],T0 ins lvi n⟩):SatM P m f ins lvi R:=by
 intro X w vs D7 oF hρ H hm
 rw[i6]at B1
 refine T7 hf hb hn zO ((h X w hρ hm).to ⟨X,_,rfl,fun t=>?_,H⟩)
 simp only[T0,ev]
 by_cases ht:t<ins.length
 ·have:blt t n=true:=by rw[A8];omega
  rw[this]
  simp only[cond_true]
  rw[List.getD,B6 ht,List.getD,B6 zO]
  exact oF t _ _ (B6 ht) (B6 zO)
 rw[List.getD,V6 zO];trivial
def BJ(P:Program)(s:T):ResultVar->Option V
|.tmp t=>some (s.σ t).nb
|.cell a t=>match tC P s t (s.σ a) with|.ok v _ _=>some v.nb|_=>none
def dX(P:Program)(s:T):List ResultVar->Option (List V)
|[]=>some []
|r::rs=>match BJ P s r,dX P s rs with|some v,some l=>some (v::l)|_,_=>none
def pU:List V->V
|[v]=>v
|l=>.tu l.length fun i=>l.getD i .un
def pV(tmps:Array Value):ResultVar->Sem Value
|.tmp t=>pure (tmps.getD t undef)
|.cell a t=>do loadVar t (<-asAddr (tmps.getD a undef))
theorem Nf{nm:Nat}{t:TypeId}{v:V}(H:Wd X0 X s.h s.lv nm w0 w)(hv:repv X s.lv nm v x)(ho:tC P s t v=.ok v' h' lv'):∃b o rv,x=.pointer (some (ad b o))/\(Instr.loadAt t x).run P w=.ok rv w/\repv X s.lv nm v' rv:=by
 cases v<;>simp only[tC]at ho<;>first|(cases ho;done)|skip
 case pr r j p=>
  obtain⟨h1,h2⟩:=M7 ho (by simp)
  cases h2
  simp only[A9]at h1
  obtain⟨⟨⟨⟨k1,k2⟩,k3⟩,k4⟩,k5⟩:=h1
  obtain⟨b,o,N,e1,e2,e3⟩:=gQ hv
  obtain⟨cs,q1,q2,q3,q4⟩:=AZ H e1 k2 (A5 k5)
  obtain⟨r1,r2,r3⟩:=dS (Q1 H) H.c2 k1 e3 q2 q1
  subst e2
  obtain⟨rv,g1,g2⟩:=LQ (P:=P) (t:=t) (b:=b) (o:=o+B9 p) r2 k3 r3
  exact⟨b,_,rv,rfl,g1 w (fun k x hk=>by
   rw[t7]at hk
   split at hk
   ·rw[Q5]at hk
    rw[O7];exact q4 w H.sy _ _ hk
   cases hk),g2⟩
 case pz v=>
  obtain⟨h1,h2⟩:=M7 ho (by simp)
  cases h2
  rw[A9]at h1
  obtain⟨b,o,es,e1,e2,e3,e4⟩:=FQ hv
  subst e1
  obtain⟨rv,g1,g2⟩:=LQ (P:=P) (t:=t) (b:=b) (o:=o) h1.2 h1.1 (e2.out (Q1 H) H.c2)
  exact⟨b,o,rv,rfl,g1 w (fun k x hk=>H.cell (e4 k x hk) (r8 h1.2 e2 x (E3 hk))),g2⟩
theorem Ng{nm:Nat}(H:Wd X0 X s.h s.lv nm w0 w)(hF:FrR X s.lv nm s.n s.σ τ){r:ResultVar}{v:V}(hr:BJ P s r=some v):∃x,(pV (mk s.n τ).tmps r).run P w=.ok x w/\repv X s.lv nm v x:=by
 cases r with
|tmp t=>
  simp only[BJ,F2]at hr
  subst hr
  refine⟨ev s.n τ (.tmp t),?_,jJ (hF t)⟩
  have h1:(mk s.n τ).tmps.getD t undef=ev s.n τ (.tmp t):=sM ..
  simp[pV,h1]
|cell a t=>
  simp only[BJ]at hr
  cases ho:tC P s t (s.σ a) with
 |ok v0 h' lv'=>
   rw[ho]at hr
   simp only[F2]at hr
   subst hr
   obtain⟨b,o,rv,e1,e2,e3⟩:=Nf H (hF a) ho
   refine⟨rv,?_,jJ e3⟩
   have h1:(mk s.n τ).tmps.getD a undef=ev s.n τ (.tmp a):=sM ..
   rw[e1]at e2
   simp only[Instr.loadAt,Instr.sureAddr,D0,iE,F6]at e2
   simp[pV,h1,e1,asAddr,e2]
 |chk=>rw[ho]at hr;cases hr
 |bad=>rw[ho]at hr;cases hr
theorem MC{X:Cx}{nm:Nat}{τ:Nat->Value}{w:World}(H:Wd X0 X s.h s.lv nm w0 w)(hF:FrR X s.lv nm s.n s.σ τ):∀{rs:List ResultVar} {l:List V},dX P s rs=some l->∃vs:List Value,vs.length=l.length/\(∀(i:Nat) v,l[i]? =some v->∃x,vs[i]? =some x/\repv X s.lv nm v x)/\
  ∀L0,(rs.foldlM (fun L0 r=>do let v <-pV (mk s.n τ).tmps r;pure (L0.push v)) L0:Sem (Array Value)).run P w=.ok (L0++vs.toArray) w
|[],l,h=>by simp only[dX,F2]at h;subst h;exact⟨[],rfl,fun i a h=>by simp at h,fun L0=>by simp⟩
|r::rs,l,h=>by
  simp only[dX]at h
  cases h1:BJ P s r with
 |none=>rw[h1]at h;cases h
 |some v=>
   cases h2:dX P s rs with
  |none=>rw[h1,h2]at h;cases h
  |some l'=>
    rw[h1,h2]at h
    simp only[F2]at h
    subst h
    obtain⟨x,q1,q2⟩:=Ng H hF h1
    obtain⟨vs,r1,r2,r3⟩:=MC H hF h2
    refine⟨x::vs,by simp[r1],fun i a' hi=>?_,fun L0=>?_⟩
    ·cases i with
    |zero=>simp at hi;subst hi;exact⟨x,rfl,q2⟩
    |succ i=>simpa using r2 i a' (by simpa using hi)
    rw[List.foldlM_cons,D0,D0,q1]
    simp only[F6,iE]
    rw[r3]
    congr 1
    simp
theorem GE:mS (Fin P fn X0 w0 R):=fun _ _ d _ _ h=>by cases d<;>exact h
end
inductive VEn:V->V->Prop
|rfl (v:V):VEn v v
|st (n:Nat) (g g':Nat->V) (h:∀i,i<n->VEn (g i) (g' i)):VEn (.st n g) (.st n g')
|bl (l:List UInt8):VEn (.bl 1 l) (.bl 0 l)
|sl (z n:Nat) (g:Nat->V):VEn (.sl 1 z n g) (.sl 0 z n g)
theorem VEn.rep{v:V}(h:VEn v v'):∀{cs:List Value},Go.Proofs.YtgohjiegkhfpmaaGreatDoor.rep X v [] 2 cs->Go.Proofs.YtgohjiegkhfpmaaGreatDoor.rep X v' [] 2 cs:=by
 have z:∀{n z:Nat} {W:Nat->Nat->Prop} {cs:List Value},SlR X.G [] 2 1 n z W cs->SlR X.G [] 2 0 n z W cs:=fun {n z W cs} ⟨a,cap,q1,q2,q3,q4,q5,q6⟩=>⟨a,cap,q1,q2,q3,zO,fun e=>by omega,q6.imp (fun⟨_,q⟩=>⟨.inr (Eq.refl _),q⟩) fun⟨b,o,r1,r2,_⟩=>⟨b,o,r1,r2,fun ht=>by simp at ht⟩⟩
 induction h with
|rfl=>intro cs h;exact h
|st n g g' h ih=>intro cs hr;exact d7 hr fun k cs hk hr=>ih k hk hr
|bl l=>intro cs hr;exact z hr
|sl _ n g=>intro cs hr;exact⟨hr.1,z hr.2⟩
theorem VEn.mem{v:V}(h:VEn v v'):v.mem=v'.mem:=by
 induction h with
|st n g g' h ih=>exact BF ih
|_=>rfl
inductive VEq:V->V->Prop
|rfl (v:V):VEq v v
|sl (t z n:Nat) (g g':Nat->V) (h:∀i,i<n->g i=g' i):VEq (.sl t z n g) (.sl t z n g')
|st (n:Nat) (g g':Nat->V) (h:∀i,i<n->VEq (g i) (g' i)):VEq (.st n g) (.st n g')
|ar (z n:Nat) (g g':Nat->V) (h:∀i,i<n->g i=g' i):VEq (.ar z n g) (.ar z n g')
|tu (n:Nat) (g g':Nat->V) (h:∀i,i<n->VEq (g i) (g' i)):VEq (.tu n g) (.tu n g')
|sn (t z n:Nat) (g g':Nat->V) (h:∀i,i<n->VEn (g i) (g' i)):VEq (.sl t z n g) (.sl t z n g')
|bc (p:Bool):VEq (.bc p) (.b p)
|an (z n:Nat) (g g':Nat->V) (h:∀i,i<n->VEn (g i) (g' i)):VEq (.ar z n g) (.ar z n g')
|fl (z n:Nat) (g g':Nat->V) (h:∀i,i<n->g i=g' i):VEq (.sl 1 z n g) (.sl 0 z n g')
|fb (l:List UInt8):VEq (.bl 1 l) (.bl 0 l)
theorem VEq.of_eq{v:V}(h:v=v'):VEq v v':=h▸.rfl v
section
theorem VEq.rep{v:V}(h:VEq v v'):∀{cs:List Value},Go.Proofs.YtgohjiegkhfpmaaGreatDoor.rep X v lv c cs->Go.Proofs.YtgohjiegkhfpmaaGreatDoor.rep X v' lv c cs:=by
 have Z:∀{n z:Nat} {W W':Nat->Nat->Prop} {cs:List Value},(∀b o,W b o->W' b o)->SlR X.G lv c 1 n z W cs->SlR X.G lv c 0 n z W' cs:=fun {n z W W' cs} hw ⟨a,cap,q1,q2,q3,q4,q5,q6⟩=>⟨a,cap,q1,q2,q3,zO,fun e=>by omega,q6.imp (fun⟨_,q⟩=>⟨.inr (Eq.refl _),q⟩) fun⟨b,o,r1,r2,_⟩=>⟨b,o,r1,hw b o r2,fun _ i h1 h2=>by rw[q5 (Eq.refl _)]at h2;exact absurd h2 zO⟩⟩
 induction h with
|rfl=>intro cs h;exact h
|fl z n g g' h=>rintro cs ⟨h0,hr⟩;exact⟨h0,Z (fun b o r2 i hi=>by rw[<-h i hi];exact r2 i hi) hr⟩
|fb l=>intro cs hr;exact Z (fun b o h=>h) hr
|sl t z n g g' h=>
  rintro cs ⟨h0,a,cap,q1,q2,q3,q4,q5,q6⟩
  exact⟨h0,a,cap,q1,q2,q3,q4,q5,q6.imp id fun⟨b,o,r1,r2,r3⟩=>⟨b,o,r1,fun i hi=>by rw[<-h i hi];exact r2 i hi,r3⟩⟩
|st n g g' h ih=>intro cs hr;exact d7 hr fun k cs hk hr=>ih k hk hr
|sn t z n g g' h=>
  rintro cs ⟨h0,a,cap,q1,q2,q3,q4,q5,q6⟩
  exact⟨h0,a,cap,q1,q2,q3,q4,q5,q6.imp id fun⟨b,o,r1,r2,r3⟩=>⟨b,o,r1,fun i hi=>by
   obtain⟨es,s1,s2,s3,s4⟩:=r2 i hi
   exact⟨es,(h i hi).rep s1,s2,(h i hi).mem▸s3,s4⟩,r3⟩⟩
|tu n g g' h ih=>intro cs hr;exact hr.elim
|ar z n g g' h=>rintro cs ⟨q1,q2⟩;exact⟨q1,fun k hk=>by rw[<-h k hk];exact q2 k hk⟩
|bc p=>intro cs hr;exact hr
|an z n g g' h=>rintro cs ⟨q1,q2⟩;exact⟨q1,fun k hk=>⟨(h k hk).rep (q2 k hk).1,(h k hk).mem▸(q2 k hk).2⟩⟩
theorem VEq.repv{v:V}(h:VEq v v'):∀{x:Value},Go.Proofs.YtgohjiegkhfpmaaGreatDoor.repv X lv c v x->Go.Proofs.YtgohjiegkhfpmaaGreatDoor.repv X lv c v' x:=by
 induction h with(intro x hr)
|rfl=>exact hr
|tu n g g' h ih=>obtain⟨C,h1,h2,h3⟩:=hr;exact⟨C,h1,h2,fun k hk=>by obtain⟨y,q1,q2⟩:=h3 k hk;exact⟨y,q1,ih k hk q2⟩⟩
|sl t z n g g' h=>exact VEq.rep (.sl t z n g g' h) hr
|sn t z n g g' h=>exact VEq.rep (.sn t z n g g' h) hr
|st n g g' h=>obtain⟨C,h1,h2⟩:=hr;exact⟨C,h1,VEq.rep (.st n g g' h) h2⟩
|ar z n g g' h=>obtain⟨C,h1,h2⟩:=hr;exact⟨C,h1,VEq.rep (.ar z n g g' h) h2⟩
|an z n g g' h=>obtain⟨C,h1,h2⟩:=hr;exact⟨C,h1,VEq.rep (.an z n g g' h) h2⟩
|bc p=>exact hr
|fl z n g g' h=>exact VEq.rep (.fl z n g g' h) hr
|fb l=>exact VEq.rep (.fb l) hr
theorem VEq.mem{v:V}(h:VEq v v'):v.mem=v'.mem:=by
 induction h with
|rfl=>rfl
|sl=>rfl
|ar=>rfl
|tu=>rfl
|sn=>rfl
|fl=>rfl
|fb=>rfl
|bc=>rfl
|an=>rfl
|st n g g' h ih=>exact BF ih
theorem Nh{v:V}(h:v.one1=true):v.mem=true/\v.sz=1:=by
 cases v
 case uk n=>exact⟨rfl,A5 h⟩
 all_goals first|exact⟨rfl,rfl⟩|cases h
theorem Ni{f:Nat->Nat}:∀{v p:V},(v.wk f g' p).mem=v.mem/\(v.wk f g' p).sz=v.sz:=by
 intro v
 have uk:∀{v:V} {n:Nat},(bif v.one1&&beq n 1 then V.uk 1 else v.rn f g').mem=v.mem/\(bif v.one1&&beq n 1 then V.uk 1 else v.rn f g').sz=v.sz:=fun {v n}=>by
  cases hb:(v.one1&&beq n 1)
  ·exact mU v
  rw[A9]at hb
  have:=Nh hb.1
  exact⟨this.1.symm,this.2.symm⟩
 induction v with
|st n g ih=>
  intro p
  cases p
  case st n' g'=>
   simp only[V.wk]
   cases beq n n'
   ·exact mU _
   exact⟨BF fun k _=>(ih k).1,FO fun k _=>(ih k).2⟩
  all_goals exact mU _
|bl t l=>intro p;cases p<;>first|exact⟨rfl,rfl⟩|exact uk
|lb l=>intro p;cases p<;>first|exact⟨rfl,rfl⟩|exact uk
|sl t z n g=>intro p;cases p<;>first|exact⟨rfl,rfl⟩|exact uk
|tu n g=>
  intro p
  cases p
  case tu n' g'=>simp only[V.wk];cases beq n n'<;>exact⟨rfl,rfl⟩
  all_goals exact⟨rfl,rfl⟩
|fo z b i v N3 Q6=>
  intro p
  cases p
  case fo z' b' i' v'=>exact⟨by simp only[V.wk,V.mem];rw[(N3 (p:=b')).1,(Q6 (p:=v')).1,(Q6 (p:=v')).2],(N3 (p:=b')).2⟩
  all_goals exact mU _
|_=>intro p;cases p<;>first|exact uk|exact mU _
def St(sl hl:List (Nat×V))(lv:List Nat)(c n:Nat):T:=⟨lk sl,S6 hl,lv,c,n⟩
def bC(l:List (Nat×V))(t:Nat):Bool:=l.any fun q=>beq t q.1
def kU :List (Nat×Nat)->Nat->Nat
|[],_=>0
|(a,b)::l,t=>bif beq t a then b else kU l t
def fK(κ:Nat)(ren:List (Nat×Nat))(t:Nat):Nat:=bif blt t κ||blt t 2 then t else kU ren t
def gK(κ:Nat)(ren:List (Nat×Nat))(hl:List (Nat×V))(r:Nat):Nat:=bif blt r κ then r else bif ren.any (fun q=>beq q.1 r) then kU ren r else bif bC hl r && !ren.any (fun q=>beq q.2 r) then r else 0
def M9 :List (Nat×Nat)->Nat->Nat
|[],_=>0
|(a,b)::l,t=>bif beq t b then a else M9 l t
def iK(κ:Nat)(ren:List (Nat×Nat))(hl:List (Nat×V))(u:Nat):Nat:=bif blt u κ then u else bif ren.any (fun q=>beq q.2 u) then M9 ren u else bif bC hl u then u else 0
def Cx.keep(X:Cx)(κ:Nat)(ren:List (Nat×Nat))(hl:List (Nat×V))(lv':List Nat):Cx:=⟨fun b i=>match X.G b i with
|.fz x=>.fz x
|.tp t=>bif lv'.elem (fK κ ren t) then .tp (fK κ ren t) else .no
|.rt r j k=>bif blt r κ then .rt r j k else bif blt 1 (gK κ ren hl r)&&beq j 0 then .rt (gK κ ren hl r) j k else .no
|.no=>.no,fun u j=>bif blt u κ then X.ρ u j else bif blt 1 (iK κ ren hl u)&&beq j 0 then X.ρ (iK κ ren hl u) j else none,X.Φ,X.κ,X.ν,X.wr⟩
def GF(f g':Nat->Nat):V->V->V
|.ro v,_=>.ro v
|v,p=>v.wk f g' p
def pW(f g':Nat->Nat)(σ:Nat->V):List (Nat×V)->Prop
|[]=>True
|(t,p)::l=>VEq ((σ t).wk f g' p).nz p/\pW f g' σ l
def cT(f g' i':Nat->Nat)(h:Nat->Nat->V):List (Nat×V)->Prop
|[]=>True
|(r,p)::l=>VEq (GF f g' (h (i' r) 0) p).nz p/\cT f g' i' h l
def cU(κ:Nat)(s:T)(ren:List (Nat×Nat))(sl hl:List (Nat×V))(lv:List Nat)(c:Nat):Bool:=
 (sl.all (fun q=>q.2.nml c)&&hl.all (fun q=>q.2.nml c&&blt q.1 c&&blt 1 q.1&&(blt q.1 κ||beq (gK κ ren hl (iK κ ren hl q.1)) q.1&&blt 1 (iK κ ren hl q.1)&&Nat.ble κ (iK κ ren hl q.1))&&(blt q.1 κ||blt (gK κ ren hl q.1) 2||beq (iK κ ren hl (gK κ ren hl q.1)) q.1)))
  && (ren.all (fun q=>blt 1 q.1&&blt 1 q.2&&blt q.2 c&&Nat.ble κ q.2&&Nat.ble κ q.1&&(!lv.elem q.2||s.lv.elem q.1)&&beq (kU ren q.1) q.2&&beq (M9 ren q.2) q.1)&&(Nat.ble 3 c&&Nat.ble κ c&&lv.all (fun t=>blt 1 t&&blt t c&&(!blt t κ||s.lv.elem t)&&(!bC hl t||blt t κ||ren.any fun q=>beq q.2 t))))
structure Fit (κ:Nat) (s:T) (ren:List (Nat×Nat)) (sl hl:List (Nat×V)) (lv:List Nat) (c:Nat):Prop where
 chk:cU κ s ren sl hl lv c=true
 eS:pW (fK κ ren) (gK κ ren hl) s.σ sl
 eH:cT (fK κ ren) (gK κ ren hl) (iK κ ren hl) s.h hl
theorem UB{σ:Nat->V}{f g':Nat->Nat}{c:Nat}:∀{sl:List (Nat×V)} {t:Nat},sl.all (fun q=>q.2.nml c)=true->pW f g' σ sl->lk sl t=.un\/∃p,lk sl t=p/\p.nml c=true/\VEq ((σ t).wk f g' p).nz p
|[],t,_,_=>.inl rfl
|(a,v)::l,t,h1,h2=>by
  simp only[vB,A9]at h1
  simp only[lk]
  cases hb:beq t a
  ·exact UB h1.2 h2.2
  have:=A5 hb
  subst this
  exact .inr ⟨v,rfl,h1.1,h2.1⟩
theorem xY{h:Nat->Nat->V}{f g' i':Nat->Nat}:∀{hl:List (Nat×V)} {r:Nat},cT f g' i' h hl->bC hl r=true->(∃q∈hl,q=(r,lk hl r))/\VEq (GF f g' (h (i' r) 0) (lk hl r)).nz (lk hl r)
|[],r,_,h=>by cases h
|(a,v)::l,r,h2,h3=>by
  simp only[lk]
  cases hb:beq r a
  ·have h3':bC l r=true:=by
    unfold bC at h3 ⊢
    rw[List.any_cons,hb]at h3
    simpa using h3
   obtain⟨⟨q,q1,q2⟩,q3⟩:=xY h2.2 h3'
   exact⟨⟨q,R5 _ q1,q2⟩,q3⟩
  have:=A5 hb
  subst this
  exact⟨⟨_,X9 ..,rfl⟩,h2.1⟩
theorem UC:∀{hl:List (Nat×V)} {r:Nat},bC hl r=false->lk hl r=.un
|[],r,_=>rfl
|(a,v)::l,r,h=>by
  unfold bC at h
  rw[List.any_cons,Bool.or_eq_false_iff]at h
  simp only[lk,h.1]
  exact UC h.2
theorem UD{ren:List (Nat×Nat)}{t:Nat}(h:kU ren t≠0):∃q∈ren,q.1=t/\kU ren t=q.2:=by
 induction ren with
|nil=>exact absurd rfl h
|cons q l ih=>
  obtain⟨a,b⟩:=q
  simp only[kU]at h ⊢
  cases hb:beq t a
  ·rw[hb]at h
   obtain⟨q,q1,q2,q3⟩:=ih h
   exact⟨q,R5 _ q1,q2,q3⟩
  exact⟨(a,b),X9 ..,(A5 hb).symm,rfl⟩
theorem MD{X:Cx}{κ:Nat}{s:T}{ren:List (Nat×Nat)}{sl hl:List (Nat×V)}{lv:List Nat}{c:Nat}(hX:Ok0 X0 κ)(hck:cU κ s ren sl hl lv c'=true)(heH:cT (fK κ ren) (gK κ ren hl) (iK κ ren hl) s.h hl)(H:Wd X0 X s.h s.lv c w0 w):sl.all (fun q=>q.2.nml c')=true/\RenT X (X.keep κ ren hl lv) s.lv lv c c' (fK κ ren) (gK κ ren hl)/\Wd X0 (X.keep κ ren hl lv) (S6 hl) lv c' w0 w:=by
 simp only[cU,A9]at hck
 obtain⟨⟨k1,k2⟩,k3,⟨k4,k4'⟩,k5⟩:=hck
 rw[i6]at k4 k4'
 have k4s:=k4
 replace k4:=Nat.le_of_succ_le k4
 have j6:∀q,q∈ren->2<=q.2/\q.2<c'/\κ<=q.2/\κ<=q.1/\(q.2∈lv->q.1∈s.lv)/\kU ren q.1=q.2/\M9 ren q.2=q.1/\2<=q.1:=fun q hq=>by
  have:=P5.1 k3 q hq
  simp only[A9,A8,i6]at this
  obtain⟨⟨⟨⟨⟨⟨⟨q0,q1⟩,q2⟩,q3⟩,q4⟩,q5⟩,q6⟩,q7⟩:=this
  refine⟨q1,q2,q3,q4,fun hm=>?_,A5 q6,A5 q7,q0⟩
  have hm':lv.elem q.2=true:=by simpa using hm
  rw[hm']at q5
  simpa using q5
 have fW:∀t,t∈lv->2<=t/\t<c'/\(t<κ->t∈s.lv)/\(bC hl t=true->κ<=t->∃q∈ren,q.2=t):=fun t ht=>by
  have:=P5.1 k5 t ht
  simp only[A9,A8]at this
  obtain⟨⟨⟨q1,q2⟩,q3⟩,q4⟩:=this
  refine⟨q1,q2,fun hlt=>?_,fun hk U6=>?_⟩
  ·have:blt t κ=true:=by rw[A8];exact hlt
   rw[this]at q3;simpa using q3
  have:blt t κ=false:=by cases hb:blt t κ;rfl;rw[A8]at hb;omega
  rw[this,hk]at q4
  simp only[Bool.not_true,Bool.false_or,vI]at q4
  obtain⟨q,hq,he⟩:=q4
  exact⟨q,hq,A5 he⟩
 have jR:∀{a b:Nat},blt a b=false->b<=a:=fun {a b} h=>zI fun hl=>by rw[<-A8,h]at hl;cases hl
 have sp:∀t,fK κ ren t<c'\/c'<=t:=fun t=>by
  unfold fK
  cases hb:(blt t κ||blt t 2)
  ·simp only[cond_false]
   by_cases h0:kU ren t=0
   ·rw[h0];exact .inl zO
   obtain⟨q,q1,q2,q3⟩:=UD h0
   rw[q3];exact .inl (j6 q q1).2.1
  simp only[cond_true];omega
 have fcase:∀t,fK κ ren t=t/\(t<κ\/t<2)\/fK κ ren t=0/\2<=t/\κ<=t\/∃q∈ren,q.1=t/\fK κ ren t=q.2/\2<=t/\κ<=t:=fun t=>by
  unfold fK
  cases hb:(blt t κ||blt t 2)
  ·rw[Bool.or_eq_false_iff]at hb
   have e1:=jR hb.1
   have e2:=jR hb.2
   simp only[cond_false]
   by_cases h0:kU ren t=0
   ·exact .inr (.inl ⟨h0,e2,e1⟩)
   obtain⟨q,q1,q2,q3⟩:=UD h0
   exact .inr (.inr ⟨q,q1,q2,q3,e2,e1⟩)
  rw[DH,A8,A8]at hb
  exact .inl ⟨rfl,hb⟩
 have ftp:∀t,t<c->fK κ ren t∈lv->t∈s.lv:=fun t ht hm=>by
  rcases fcase t with⟨e,h⟩|⟨e,h⟩|⟨q,q1,q2,q3,_⟩
  ·rw[e]at hm
   rcases h with h|h
   ·exact(fW t hm).2.2.1 h
   have:=(fW t hm).1;omega
  ·rw[e]at hm;have:=(fW _ hm).1;omega
  rw[q3]at hm;have:=(j6 q q1).2.2.2.2.1 hm;rwa [q2]at this
 have gcase:∀r,(r<κ/\gK κ ren hl r=r)\/(κ<=r/\gK κ ren hl r=0)\/(κ<=r/\∃q∈ren,q.1=r/\gK κ ren hl r=q.2)\/(κ<=r/\gK κ ren hl r=r/\bC hl r=true/\∀q∈ren,q.2≠r):=fun r=>by
  unfold gK
  cases hb:blt r κ
  ·have U6:=jR hb
   simp only[cond_false]
   cases ha:ren.any (fun q=>beq q.1 r)
   ·simp only[cond_false]
    cases hk:(bC hl r && !ren.any (fun q=>beq q.2 r))
    ·exact .inr (.inl ⟨U6,rfl⟩)
    simp only[A9,lH]at hk
    refine .inr (.inr (.inr ⟨U6,rfl,hk.1,fun q hq he=>?_⟩));have:=hk.2
    rw[List.any_eq_false]at this
    exact this q hq (by rw[he];exact P6 r)
   simp only[cond_true]
   rw[vI]at ha
   obtain⟨q,q1,q2⟩:=ha
   have q2:=A5 q2
   exact .inr (.inr (.inl ⟨U6,q,q1,q2,by rw[<-q2];exact(j6 q q1).2.2.2.2.2.1⟩))
  rw[A8]at hb;exact .inl ⟨hb,rfl⟩
 have ik_q:∀q,q∈ren->iK κ ren hl q.2=q.1:=fun q hq=>by
  unfold iK
  have h1:blt q.2 κ=false:=by cases hb:blt q.2 κ;rfl;rw[A8]at hb;have:=(j6 q hq).2.2.1;omega
  have h2:ren.any (fun p=>beq p.2 q.2)=true:=vI.2 ⟨q,hq,P6 _⟩
  rw[h1,h2]
  exact(j6 q hq).2.2.2.2.2.2.1
 have ik_k:∀r,κ<=r->bC hl r=true->(∀q∈ren,q.2≠r)->iK κ ren hl r=r:=fun r U6 hk hn=>by
  unfold iK
  have h1:blt r κ=false:=by cases hb:blt r κ;rfl;rw[A8]at hb;omega
  have h2:ren.any (fun p=>beq p.2 r)=false:=by
   rw[List.any_eq_false]
   intro q hq he
   exact hn q hq (A5 he)
  rw[h1,h2,hk];rfl
 have gi:∀r,2<=gK κ ren hl r->κ<=r->iK κ ren hl (gK κ ren hl r)=r/\κ<=gK κ ren hl r:=fun r h2 U6=>by
  rcases gcase r with⟨h,_⟩|⟨_,h⟩|⟨_,q,q1,q2,q3⟩|⟨_,h,hk,hn⟩
  ·omega
  ·omega
  ·rw[q3,ik_q q q1];exact⟨q2,(j6 q q1).2.2.1⟩
  rw[h];exact⟨ik_k r U6 hk hn,U6⟩
 have icase:∀u,κ<=u->2<=iK κ ren hl u->κ<=iK κ ren hl u/\gK κ ren hl (iK κ ren hl u)=u/\u<c':=fun u U6 h2=>by
  unfold iK at h2 ⊢
  have h1:blt u κ=false:=by cases hb:blt u κ;rfl;rw[A8]at hb;omega
  rw[h1]at h2 ⊢
  simp only[cond_false]at h2 ⊢
  cases ha:ren.any (fun p=>beq p.2 u)
  ·rw[ha]at h2
   simp only[cond_false]at h2 ⊢
   cases hk:bC hl u
   ·rw[hk]at h2;simp at h2
   rw[hk]at h2
   simp only[cond_true]at h2 ⊢
   have hn:∀q∈ren,q.2≠u:=fun q hq he=>by
    rw[List.any_eq_false]at ha
    exact ha q hq (by rw[he];exact P6 u)
   obtain⟨⟨q,q1,q2⟩,_⟩:=xY heH hk
   have:=P5.1 k2 q q1
   rw[q2]at this
   simp only[A9,DH,A8,i6]at this
   obtain⟨⟨⟨⟨_,c1⟩,c2⟩,c3⟩,c4⟩:=this
   refine⟨U6,?_,c1⟩
   rcases c3 with c3|c3
   ·omega
   have e:=A5 c3.1.1
   rwa [ik_k u U6 hk hn]at e
  simp only[cond_true]
  rw[vI]at ha
  obtain⟨q,q1,q2⟩:=ha
  have q2:=A5 q2
  subst q2
  obtain⟨r1,r2,r3,r4,r5,r6,r7,_⟩:=j6 q q1
  rw[r7]
  refine⟨r4,?_,r2⟩
  unfold gK
  have h1:blt q.1 κ=false:=by cases hb:blt q.1 κ;rfl;rw[A8]at hb;omega
  have h2:ren.any (fun p=>beq p.1 q.1)=true:=vI.2 ⟨q,q1,P6 _⟩
  rw[h1,h2]
  exact r6
 have dG:∀t,t<c->fK κ ren t<c':=fun t _=>by
  rcases fcase t with⟨e,h⟩|⟨e,h⟩|⟨q,q1,q2,q3,_⟩
  ·rw[e];omega
  ·rw[e];omega
  rw[q3];exact(j6 q q1).2.1
 have wG:∀b i t,X.G b i=.tp t->fK κ ren t∈lv->(X.keep κ ren hl lv).G b i=.tp (fK κ ren t):=fun b i t hx hm=>by
  simp only[Cx.keep,hx]
  rw[show lv.elem (fK κ ren t)=true by simpa using hm];rfl
 have bltf:∀{u:Nat},κ<=u->blt u κ=false:=fun {u} h=>by cases hb:blt u κ;rfl;rw[A8]at hb;omega
 have blt1:∀{u:Nat},2<=u->blt 1 u=true:=fun {u} h=>by rw[A8];omega
 have R0:RenT X (X.keep κ ren hl lv) s.lv lv c c' (fK κ ren) (gK κ ren hl):=by
  refine⟨fun r p h2 hr=>?_,fun r hlt h2=>⟨?_,fun hm=>?_⟩,fun b i x hx=>by simp only[Cx.keep,hx],dG,fun t _ h1=>?_,⟨k4s,fun t ht=>(fW t ht).1⟩,fun t ht hm=>⟨ftp t ht hm,fun b i hx=>wG b i t hx hm⟩,by unfold fK;cases blt 0 κ<;>rfl⟩
  ·by_cases U6:κ<=r
   ·obtain⟨e,hg⟩:=gi r h2 U6
    have dH:2<=r:=by
     rcases gcase r with⟨h,_⟩|⟨_,h⟩|⟨_,q,q1,q2,q3⟩|⟨_,h,hk,hn⟩
     ·omega
     ·omega
     ·rw[<-q2];exact(j6 q q1).2.2.2.2.2.2.2
     omega
    show(bif blt (gK κ ren hl r) κ then X.ρ (gK κ ren hl r) 0 else bif blt 1 (iK κ ren hl (gK κ ren hl r))&&beq 0 0 then X.ρ (iK κ ren hl (gK κ ren hl r)) 0 else none)=some p
    rw[bltf hg,e,blt1 dH];exact hr
   have hlr:r<κ:=by omega
   have e:gK κ ren hl r=r:=by rcases gcase r with⟨_,h⟩|⟨h,_⟩|⟨h,_⟩|⟨h,_⟩<;>first|exact h|omega
   rw[e]
   show(bif blt r κ then X.ρ r 0 else _)=some p
   rw[show blt r κ=true by rw[A8];exact hlr];exact hr
  ·rcases gcase r with⟨h,e⟩|⟨_,e⟩|⟨_,q,q1,q2,q3⟩|⟨_,e,hk,hn⟩
   ·omega
   ·omega
   ·rw[q3];exact(j6 q q1).2.1
   obtain⟨⟨q,q1,q2⟩,_⟩:=xY heH hk
   have:=P5.1 k2 q q1
   rw[q2]at this
   simp only[A9,A8]at this
   rw[e];exact this.1.1.1.2
  ·have key:∀u,u=fK κ ren r->gK κ ren hl r=u->r∈s.lv/\∀b i,X.G b i=.tp r->(X.keep κ ren hl lv).G b i=.tp (gK κ ren hl r):=fun u hu hg=>by
    rw[hg]at hm
    rw[hu]at hm
    exact⟨ftp r hlt hm,fun b i hx=>by rw[wG b i r hx hm,hg,hu]⟩
   rcases gcase r with⟨h,e⟩|⟨_,e⟩|⟨h,q,q1,q2,q3⟩|⟨h,e,hk,hn⟩
   ·refine key r ?_ e
    unfold fK
    rw[show blt r κ=true by rw[A8];exact h];rfl
   ·omega
   ·refine key q.2 ?_ q3
    unfold fK
    have h2r:2<=r:=by rw[<-q2];exact(j6 q q1).2.2.2.2.2.2.2
    rw[bltf h,show blt r 2=false by (cases hb:blt r 2;rfl;rw[A8]at hb;omega), <-q2]
    exact(j6 q q1).2.2.2.2.2.1.symm
   rw[e]at hm
   obtain⟨q,q1,q2⟩:=(fW r hm).2.2.2 hk h
   exact absurd q2 (hn q q1)
  rcases fcase t with⟨e,h⟩|⟨e,h⟩|⟨q,q1,q2,q3,_⟩
  ·rw[<-e];exact h1
  ·omega
  have:=(j6 q q1).1;omega
 refine⟨k1,R0,?_⟩
 have gk:∀b i,(X.keep κ ren hl lv).G b i=.no\/(∃x,X.G b i=.fz x/\(X.keep κ ren hl lv).G b i=.fz x)\/(∃t,X.G b i=.tp t/\(X.keep κ ren hl lv).G b i=.tp (fK κ ren t))\/∃r j k r',X.G b i=.rt r j k/\(X.keep κ ren hl lv).G b i=.rt r' j k:=fun b i=>by
  simp only[Cx.keep]
  cases hg:X.G b i with
 |no=>exact .inl rfl
 |fz x=>exact .inr (.inl ⟨x,rfl,rfl⟩)
 |tp t=>
   simp only
   cases lv.elem (fK κ ren t)
   ·exact .inl rfl
   exact .inr (.inr (.inl ⟨t,rfl,rfl⟩))
 |rt r j k=>
   simp only
   cases blt r κ
   ·cases (blt 1 (gK κ ren hl r)&&beq j 0)
    ·exact .inl rfl
    exact .inr (.inr (.inr ⟨r,j,k,_,rfl,rfl⟩))
   exact .inr (.inr (.inr ⟨r,j,k,r,rfl,rfl⟩))
 refine { kb:=H.kb,tape:=H.tape,fz0:=fun b i x hx=>?_,no0:=fun b i hb hn=>?_,mp0:=fun b t hb hx=>(by
  rcases gk b 0 with h|⟨y,h,h2⟩|⟨t,_,h2⟩|⟨r,j,k,r',_,h2⟩
  ·rw[h]at hx;cases hx
  ·rw[h2]at hx;cases hx;exact H.mp0 b t hb h
  ·rw[h2]at hx;cases hx
  rw[h2]at hx;cases hx),ρ0:=fun r j p h=>(by rw[hX.ρ]at h;cases h),ex:=fun b i hn=>?_,fz:=fun b i x hx=>?_,tp:=fun b i t hx=>?_,rt:=fun r j b o N h=>?_,c2:=k4,lvc:=fun t ht=>⟨(fW t ht).1,(fW t ht).2.1⟩,ρc:=fun r j p h=>?_,inv:=?_,imo:=H.imo,νe:=H.νe,gz:=H.gz,we:=H.we,ν0:=H.ν0,νs:=H.νs,nf:=H.nf.sub fun b i _ hn=>.inl ⟨i,fun e=>hn (by simp only[Cx.keep,e])⟩,κc:=by rw[hX.κ];exact k4'}
 ·have:=H.fz0 b i x hx
  simp only[Cx.keep,this]
 ·rcases H.no0 b i hb hn with h|⟨t,h⟩
  ·exact .inl (by simp only[Cx.keep,h])
  exact .inr ⟨t,by simp only[Cx.keep,h]⟩
 ·rcases gk b i with h|⟨x,h,_⟩|⟨t,h,_⟩|⟨r,j,k,r',h,_⟩
  ·exact absurd h hn
  all_goals exact H.ex b i (by rw[h];simp)
 ·rcases gk b i with h|⟨y,h,h2⟩|⟨t,_,h2⟩|⟨r,j,k,r',_,h2⟩
  ·rw[h]at hx;cases hx
  ·rw[h2]at hx;cases hx;exact(H.fz b i x h).move R0.fz rfl fun _ _ h=>h
  ·rw[h2]at hx;cases hx
  rw[h2]at hx;cases hx
 ·rcases gk b i with h|⟨y,_,h2⟩|⟨t',h,_⟩|⟨r,j,k,r',_,h2⟩
  ·rw[h]at hx;cases hx
  ·rw[h2]at hx;cases hx
  ·exact H.tp b i t' h
  rw[h2]at hx;cases hx
 ·-- a block that is kept
  have hex:∃r0,X.ρ r0 j=some (b,o,N)/\(∀k,X.G b (o+k)=.rt r0 j k->(X.keep κ ren hl lv).G b (o+k)=.rt r j k)/\(bC hl r=true->j=0->VEq (GF (fK κ ren) (gK κ ren hl) (s.h r0 0) (lk hl r)).nz (lk hl r)):=by
   simp only[Cx.keep]at h
   cases hb:blt r κ
   ·rw[hb]at h
    simp only[cond_false]at h
    obtain⟨h1,h2⟩:=M7 h (by simp)
    rw[A9,A8]at h1
    have hj:=A5 h1.2
    subst hj
    obtain⟨i1,i2,i3⟩:=icase r (jR hb) h1.1
    refine⟨_,h2,fun k hk=>?_,fun hk _=>(xY heH hk).2⟩
    simp only[Cx.keep,hk,bltf i1,i2,cond_false]
    have h2r:2<=r:=by
     have q:=gcase (iK κ ren hl r)
     rw[i2]at q
     rcases q with⟨h,_⟩|⟨_,h⟩|⟨_,q,q1,q2,q3⟩|⟨_,h,hk,hn⟩
     ·omega
     ·have lL:r=0:=h
      subst lL
      exfalso
      have:=h1.1
      unfold iK at this
      rw[hb]at this
      simp only[cond_false]at this
      cases ha:ren.any (fun p=>beq p.2 0)<;>rw[ha]at this
      ·simp only[cond_false]at this
       cases hk:bC hl 0<;>rw[hk]at this<;>simp at this
      rw[vI]at ha
      obtain⟨q,q1,q2⟩:=ha
      have:=A5 q2
      have:=(j6 q q1).1
      omega
     ·rw[q3];exact(j6 q q1).1
     omega
    rw[blt1 h2r];rfl
   rw[hb]at h
   simp only[cond_true]at h
   refine⟨r,h,fun k hk=>by simp only[Cx.keep,hk,hb,cond_true],fun hk hj=>?_⟩
   have:=(xY heH hk).2
   have e:iK κ ren hl r=r:=by unfold iK;rw[hb];rfl
   rwa [e]at this
  obtain⟨r0,e1,e2,e3⟩:=hex
  show RtR _ _ _ _ r j b o N (S6 hl r j)
  cases j with
 |succ j=>trivial
 |zero=>
   show RtR _ _ _ _ r 0 b o N (lk hl r)
   cases hk:bC hl r with
  |false=>rw[UC hk];trivial
  |true=>
    have e3:=e3 hk rfl
    have hn:(lk hl r).nml c'=true:=by
     obtain⟨⟨q,q1,q2⟩,_⟩:=xY heH hk
     have:=P5.1 k2 q q1
     rw[q2]at this
     simp only[A9]at this
     exact this.1.1.1.1
    have hR:=H.rt r0 0 b o N e1
    have hlv2:∀cs,R4 X w r0 0 b o cs->R4 (X.keep κ ren hl lv) w r 0 b o cs:=fun cs hL k x hk=>by
     obtain⟨q1,q2,q3⟩:=hL k x hk
     exact⟨e2 k q1,q2,q3⟩
    cases hv:s.h r0 0
    case ro v=>
     rw[hv]at hR e3
     obtain⟨cs,q1,q2,q3,q4⟩:=hR
     have e4:VEq (.ro v) (lk hl r):=e3
     cases hp:lk hl r<;>rw[hp]at e4<;>cases e4
     exact⟨cs,rep.nest R0.fz q1,q2,q3,q4.mono R0.fz⟩
    case un=>
     rw[hv]at e3
     have e4:VEq .un (lk hl r):=by
      have:GF (fK κ ren) (gK κ ren hl) .un (lk hl r)=.un:=by cases lk hl r<;>rfl
      rw[this]at e3;exact e3
     cases hp:lk hl r<;>rw[hp]at e4<;>cases e4
     trivial
    all_goals
     rw[hv]at hR e3
     obtain⟨cs,q1,q2,q3,q4⟩:=hR
     have key:=e3.rep (pM (pS R0 hn q1))
     have hm:(lk hl r).mem=true:=by rw[<-e3.mem];exact FG (Ni.1.trans q2)
     cases hp:lk hl r
     case ro=>rw[hp]at hm;cases hm
     case un=>trivial
     all_goals
      rw[hp]at key hm
      exact⟨cs,key,hm,q3,hlv2 cs q4⟩
 ·simp only[Cx.keep]at h
  cases hb:blt r κ
  ·rw[hb]at h
   simp only[cond_false]at h
   obtain⟨h1,h2⟩:=M7 h (by simp)
   rw[A9,A8]at h1
   exact(icase r (jR hb) h1.1).2.2
  rw[A8]at hb;omega
 refine H.imo _ _ _ _ _ _ ⟨R0.fz,fun b i t ht hlt hx=>?_,fun t ht hlt=>(fW t ht).2.2.1 (by rw[hX.κ]at hlt;exact hlt),fun r j p _ hlt hr=>?_⟩ H.inv
 ·have e:fK κ ren t=t:=by
   unfold fK
   rw[show blt t κ=true by rw[A8];rw[hX.κ]at hlt;exact hlt];rfl
  have:=wG b i t hx (by rw[e];exact ht)
  rwa [e]at this
 show(bif blt r κ then X.ρ r j else _)=some p
 rw[show blt r κ=true by rw[A8];rw[hX.κ]at hlt;exact hlt];exact hr
theorem ME{κ:Nat}{s:T}{ren:List (Nat×Nat)}{sl hl:List (Nat×V)}{lv:List Nat}{c:Nat}{a:Act}(hX:Ok0 X0 κ)(hf:Fit κ s ren sl hl lv c')(h:At X0 w0 s c a w):At X0 w0 (St sl hl lv c' s.n) c' a w:=by
 obtain⟨X,τ,rfl,hF,H⟩:=h
 obtain⟨k1,R0,H'⟩:=MD hX hf.chk hf.eH H
 refine⟨X.keep κ ren hl lv,τ,rfl,fun t=>?_,H'⟩
 show repv _ _ _ (lk sl t) _
 rcases UB (t:=t) k1 hf.eS with h|⟨p,h1,h3,h4⟩
 ·rw[h];trivial
 rw[h1];exact h4.repv (FF (TX R0 h3 (hF t)))
theorem UE{κ:Nat}{k:List K}{s:T}{e:Exit}{s':T}{l:List V}{out:V}{ho:List (Nat×V)}{A0:List Nat}(ren:List (Nat×Nat))(hX:Ok0 X0 κ)(ev:go P N k s=.fin e s')(he:e=.ret\/e=.normal)(hr:dX P s' fn.results.toList=some l)
  (hck:cU κ s' ren [(0,out)] ho A0 64=true)(v7:VEq ((pU l).wk (fK κ ren) (gK κ ren ho) out).nz out)(hH:cT (fK κ ren) (gK κ ren ho) (iK κ ren ho) s'.h ho)(hR:R out ho A0):Run P X0 w0 (Fin P fn X0 w0 R) ⟨k,s⟩:=by
 refine M8 GE N k s ?_
 rw[ev]
 rintro a w ⟨X,τ,rfl,hF,H⟩
 obtain⟨vs,q1,q2,q3⟩:=MC (P:=P) H hF hr
 have h3:(fn.results.mapM (pV (mk s'.n τ).tmps)).run P w=.ok vs.toArray w:=by
  rw[Array.mapM_eq_foldlM, <-Array.foldlM_toList]
  simpa using q3 #[]
 have h4:results fn (mk s'.n τ).tmps=(do let vs <-fn.results.mapM (pV (mk s'.n τ).tmps);pure (if h:vs.size=1 then vs[0] else .tuple vs)):=by
  unfold results
  congr 1
 obtain⟨k1,R0,H'⟩:=MD hX hck hH H
 have K3:out.nml 64=true:=by simpa using k1
 have key:∀x,repv X s'.lv s'.c (pU l) x->BI X0 w0 R x w:=fun x hx=>⟨_,ho,A0,out,hR,v7.repv (FF (TX R0 K3 hx)),H'⟩
 suffices hh:(mk s'.n τ).defers=[]/\∃v,(results fn (mk s'.n τ).tmps).run P w=.ok v w/\∃v',Ending.returned v=.returned v'/\BI X0 w0 R v' w by
  rcases he with rfl|rfl<;>exact hh
 rcases l with _|⟨v1,_|⟨v2,l⟩⟩
 ·obtain rfl:vs=[]:=by simpa using q1
  refine⟨oT _ _,.tuple #[],?_,_,rfl,key _ ⟨#[],rfl,rfl,fun k hk=>by simp at hk⟩⟩
  rw[h4,D0,h3]
  simp
 ·obtain⟨x,rfl⟩:∃x,vs=[x]:=List.length_eq_one_iff.1 (by simpa using q1)
  obtain⟨x',e1,e2⟩:=q2 0 v1 rfl
  simp at e1;subst e1
  refine⟨oT _ _,x,?_,_,rfl,key x e2⟩
  rw[h4,D0,h3]
  simp
 refine⟨oT _ _,.tuple vs.toArray,?_,_,rfl,key _ ?_⟩
 ·rw[h4,D0,h3]
  have:¬ vs.length=1:=by simp at q1;omega
  simp[this]
 refine⟨vs.toArray,rfl,by simpa using q1,fun i hi=>?_⟩
 obtain⟨x,e1,e2⟩:=q2 i _ (B6 hi)
 exact⟨x,by simpa using e1,by simpa [List.getD,B6 hi] using e2⟩
theorem Nj{k:List K}{s:T}{e:Exit}{s':T}{l:List V}{out:V}{ho:List (Nat×V)}{A0:List Nat}(ren:List (Nat×Nat))(hX:Ok0 X0 0)(ev:go P N k s=.fin e s')(he:e=.ret\/e=.normal)(hr:dX P s' fn.results.toList=some l)
  (hck:cU 0 s' ren [(0,out)] ho A0 64=true)(v7:VEq ((pU l).wk (fK 0 ren) (gK 0 ren ho) out).nz out)(hH:cT (fK 0 ren) (gK 0 ren ho) (iK 0 ren ho) s'.h ho)(hR:R out ho A0):Run P X0 w0 (Fin P fn X0 w0 R) ⟨k,s⟩:=UE ren hX ev he hr hck v7 hH hR
end
def pX:T:=⟨fun _=>.un,fun _ _=>.un,[],2,0⟩
def Ev.tag:Ev->Nat
|.ext _ _ _=>9|.may _ _ _=>8|.fin _ _=>0|.br _ _ _=>1|.chk _ _=>2|.call _ _ _ _ _=>3|.loop _ _=>4|.alt _=>5|.round _ _=>6|.bad _=>7
def Ev.p:Ev->Bool
|.br p _ _|.chk p _|.may p _ _=>p
|_=>false
def Ev.a:Ev->Cf
|.br _ a _|.may _ a _|.chk _ a|.call _ _ _ _ a|.loop _ a|.ext _ _ a=>a
|_=>⟨[],pX⟩
def Ev.b:Ev->Cf
|.br _ _ b|.may _ _ b=>b
|_=>⟨[],pX⟩
def Ev.alts:Ev->List Cf
|.alt l=>l
|_=>[]
def Ev.f:Ev->FuncId
|.call f _ _ _ _=>f
|_=>0
def Ev.l:Ev->List V
|.call _ l _ _ _=>l
|_=>[]
def Ev.d:Ev->Option Tmp
|.call _ _ d _ _=>d
|_=>none
def Ev.nm:Ev->Nat
|.call _ _ _ n _=>n
|.ext _ n _=>n
|_=>0
def Ev.op:Ev->Oper
|.ext o _ _=>o
|_=>⟨none,.alloc 0,0, "", #[],none⟩
def Ev.code:Ev->Code
|.loop b _=>b
|_=>.skip
def Ev.s:Ev->T
|.fin _ s|.round _ s=>s
|_=>pX
def Ev.ended:Ev->Bool
|.fin .ret _|.fin .normal _=>true
|_=>false
structure Wk (P:Program) (X0:Cx) (w0:World) (Q:Exit->Act->World->Prop) (f:Cf):Prop where
 run:mS Q->Run P X0 w0 Q f
section
variable {κ:Nat}
def nx(P:Program)(cf:Cf):Ev:=go P 1000 cf.k cf.s
theorem tX(p:Bool)(e:((nx P cf).tag,(nx P cf).p)=(1,p))(ha:p=true->Wk P X0 w0 Q (nx P cf).a)(hb:p=false->Wk P X0 w0 Q (nx P cf).b):Wk P X0 w0 Q cf:=by
 cases hn:nx P cf<;>rw[hn]at e ha hb<;>simp only[Ev.tag,Ev.p,G6,reduceCtorEq,Nat.reduceEqDiff,false_and]at e
 obtain⟨_,rfl⟩:=e
 exact⟨fun hQ=>Mz hQ (N:=1000) hn (fun h=>(ha h).run hQ) (fun h=>(hb h).run hQ)⟩
theorem Nk(p:Bool)(e:((nx P cf).tag,(nx P cf).p)=(2,p))(hp:p=true)(ha:Wk P X0 w0 Q (nx P cf).a):Wk P X0 w0 Q cf:=by
 cases hn:nx P cf<;>rw[hn]at e ha<;>simp only[Ev.tag,Ev.p,G6,reduceCtorEq,Nat.reduceEqDiff,false_and]at e
 obtain⟨_,rfl⟩:=e
 exact⟨fun hQ=>Na hQ (N:=1000) hn hp (ha.run hQ)⟩
theorem L6(n:Nat)(e:((nx P cf).tag,(nx P cf).alts.length)=(5,n))(h:∀i,i<n->Wk P X0 w0 Q ((nx P cf).alts.getD i ⟨[],pX⟩)):Wk P X0 w0 Q cf:=by
 cases hn:nx P cf<;>rw[hn]at e h<;>simp only[Ev.tag,G6,reduceCtorEq,Nat.reduceEqDiff,false_and]at e
 rename_i l
 obtain⟨_,rfl⟩:=e
 refine⟨fun hQ=>Nb hQ (N:=1000) hn fun A hA=>?_⟩
 obtain⟨i,hi,rfl⟩:=JG hA
 have:=(h i hi).run hQ
 simpa [Ev.alts,List.getD,hi] using this
theorem Nl(p:Bool)(e:((nx P cf).tag,(nx P cf).p)=(8,p))(ha:p=true->Wk P X0 w0 Q (nx P cf).a)(hb:Wk P X0 w0 Q (nx P cf).b):Wk P X0 w0 Q cf:=by
 cases hn:nx P cf<;>rw[hn]at e ha hb<;>simp only[Ev.tag,Ev.p,G6,reduceCtorEq,Nat.reduceEqDiff,false_and]at e
 obtain⟨_,rfl⟩:=e
 exact⟨fun hQ=>M8 hQ 1000 _ _ (by rw[show go P 1000 cf.k cf.s=_ from hn];exact⟨fun h=>(ha h).run hQ,hb.run hQ⟩)⟩
def BK(e:Ev)(ren:List (Nat×Nat))(out:V)(ho:List (Nat×V))(A0:List Nat):Cf:=⟨e.a.k,{ e.a.s with h:=hB e.a.s.h e.nm ho,lv:=GD e.a.s.lv ren A0 e.nm }.put e.d (out.nu e.nm)⟩
abbrev aft(e:Ev)(ren:List (Nat×Nat))(out:V)(A0:List Nat):Cf:=BK e ren out [] A0
theorem UF{m:Bool}(hm:m=true->X0.wr=true){f:FuncId}{ins:List V}{lvi:List Nat}(ren:List (Nat×Nat))(hs:SatM P m f ins lvi R)
  (e:((nx P cf).tag,(nx P cf).f,(nx P cf).l.map (V.rn (D2 ren) g0),fG (nx P cf).a.s.lv 16 ren&&beq (C1 (nx P cf).a.s (nx P cf).a.k) ((nx P cf).nm+64),ren.map (·.2))=(3,f,ins,true,lvi))
  (h:∀out ho A0,R out ho A0->Wk P X0 w0 Q (BK (nx P cf) ren out ho A0)):Wk P X0 w0 Q cf:=by
 cases hn:nx P cf<;>rw[hn]at e h<;>simp only[Ev.tag,G6,reduceCtorEq,Nat.reduceEqDiff,false_and]at e
 obtain⟨_,rfl,e1,e2,e3⟩:=e
 exact⟨fun hQ=>Nc hQ hm (N:=1000) ren hn (by simp only[G6];exact⟨e1,e2,e3⟩) hs fun out ho A0 hR=>(h out ho A0 hR).run hQ⟩
theorem UG{f:FuncId}{ins:List V}{lvi:List Nat}(ren:List (Nat×Nat))(hs:mW P f ins lvi R)
  (e:((nx P cf).tag,(nx P cf).f,(nx P cf).l.map (V.rn (D2 ren) g0),fG (nx P cf).a.s.lv 16 ren&&beq (C1 (nx P cf).a.s (nx P cf).a.k) ((nx P cf).nm+64),ren.map (·.2))=(3,f,ins,true,lvi))
  (h:∀out ho A0,R out ho A0->Wk P X0 w0 Q (BK (nx P cf) ren out ho A0)):Wk P X0 w0 Q cf:=UF (fun h=>by cases h) ren hs e h
theorem UH{f:FuncId}{ins:List V}{lvi:List Nat}{R:V->List Nat->Prop}(ren:List (Nat×Nat))(hs:Sat P f ins lvi R)
  (e:((nx P cf).tag,(nx P cf).f,(nx P cf).l.map (V.rn (D2 ren) g0),fG (nx P cf).a.s.lv 16 ren&&beq (C1 (nx P cf).a.s (nx P cf).a.k) ((nx P cf).nm+64),ren.map (·.2))=(3,f,ins,true,lvi))
  (h:∀out A0,R out A0->Wk P X0 w0 Q (aft (nx P cf) ren out A0)):Wk P X0 w0 Q cf:=by
 refine UG ren hs e fun out ho A0 hR=>?_
 obtain⟨rfl,hR⟩:=hR
 exact h out A0 hR
theorem Nm(hX:Ok0 X0 0)(ren:List (Nat×Nat))(l:List V)(out:V)(ho:List (Nat×V))(A0:List Nat)
  (e:((nx P cf).ended,dX P (nx P cf).s fn.results.toList,cU 0 (nx P cf).s ren [(0,out)] ho A0 64)=(true,some l,true))(v7:VEq ((pU l).wk (fK 0 ren) (gK 0 ren ho) out).nz out)(hH:cT (fK 0 ren) (gK 0 ren ho) (iK 0 ren ho) (nx P cf).s.h ho)(hR:R out ho A0):Wk P X0 w0 (Fin P fn X0 w0 R) cf:=by
 simp only[G6]at e
 obtain⟨e1,e2,e3⟩:=e
 cases hn:nx P cf<;>rw[hn]at e1<;>first|(cases e1;done)|skip
 rename_i ex s'
 rw[hn]at e2 e3 hH
 have he:ex=.ret\/ex=.normal:=by cases ex<;>first|exact .inl rfl|exact .inr rfl|cases e1
 exact⟨fun _=>Nj (N:=1000) ren hX hn he e2 e3 v7 hH hR⟩
theorem UI(hX:Ok0 X0 κ)(ren:List (Nat×Nat))(l:List V)(out:V)(ho:List (Nat×V))(A0:List Nat)
  (e:((nx P cf).ended,dX P (nx P cf).s fn.results.toList,cU κ (nx P cf).s ren [(0,out)] ho A0 64)=(true,some l,true))(v7:VEq ((pU l).wk (fK κ ren) (gK κ ren ho) out).nz out)(hH:cT (fK κ ren) (gK κ ren ho) (iK κ ren ho) (nx P cf).s.h ho)(hR:R out ho A0):Wk P X0 w0 (Fin P fn X0 w0 R) cf:=by
 simp only[G6]at e
 obtain⟨e1,e2,e3⟩:=e
 cases hn:nx P cf<;>rw[hn]at e1<;>first|(cases e1;done)|skip
 rename_i ex s'
 rw[hn]at e2 e3 hH
 have he:ex=.ret\/ex=.normal:=by cases ex<;>first|exact .inl rfl|exact .inr rfl|cases e1
 exact⟨fun _=>UE (N:=1000) ren hX hn he e2 e3 v7 hH hR⟩
theorem Nn(hX:Ok0 X0 κ)(sl hl:ι->List (Nat×V))(I:ι->Prop)(μ:ι->Nat)(ren:List (Nat×Nat))(lv:List Nat)(c:Nat)(e:(nx P cf).tag=4)(i0:ι)(hf:Fit κ (nx P cf).a.s ren (sl i0) (hl i0) lv c)(hI:I i0)
  (h:∀i,I i->∀R:Act->World->Prop,(∀j,I j->μ j<μ i->∀a w,At X0 w0 (St (sl j) (hl j) lv c (nx P cf).a.s.n) c a w->R a w)->Wk P X0 w0 Q ⟨.c (nx P cf).code:: .lp R::(nx P cf).a.k,St (sl i) (hl i) lv c (nx P cf).a.s.n⟩):Wk P X0 w0 Q cf:=by
 classical
 cases hn:nx P cf<;>rw[hn]at e hf h<;>simp only[Ev.tag,Nat.reduceEqDiff]at e
 rename_i b A
 refine⟨fun hQ=>M8 hQ 1000 cf.k cf.s ?_⟩
 rw[show go P 1000 cf.k cf.s=.loop b A from hn]
 intro a w ha
 let J:Act->World->Prop:=fun a w=>∃i,I i/\At X0 w0 (St (sl i) (hl i) lv c A.s.n) c a w
 let p:Act->World->Nat->Prop:=fun a w m=>∃i,I i/\At X0 w0 (St (sl i) (hl i) lv c A.s.n) c a w/\μ i=m
 have ex:∀a w,J a w->∃m,p a w m/\∀k,p a w k->m<=k:=fun a w ⟨i,h1,h2⟩=>JP (p a w) (μ i) ⟨i,h1,h2,rfl⟩
 let M:Act->World->Nat:=fun a w=>if h:J a w then Classical.choose (ex a w h) else 0
 have hM:∀a w,J a w->p a w (M a w)/\∀k,p a w k->M a w<=k:=fun a w h=>by
  have e:M a w=Classical.choose (ex a w h):=dif_pos h
  rw[e]
  exact Classical.choose_spec (ex a w h)
 refine wp_loop J M ⟨i0,hI,ME hX hf ha⟩ ?_;intro a w hJ
 obtain⟨⟨i,h1,h2,hμ⟩,_⟩:=hM a w hJ
 have:b.wp P (D4 P Q (.lp (fun a w=>∃j,I j/\μ j<μ i/\At X0 w0 (St (sl j) (hl j) lv c A.s.n) c a w)::A.k)) a w:=((h i h1 _ (fun j q1 q2 a w q3=>⟨j,q1,q2,q3⟩)).run hQ).to h2
 rw[mT]at this
 refine wp_mono this fun e a' w' hq=>?_
 cases e<;>simp only[Exit.then]at hq ⊢
 case normal=>
  obtain⟨j,j1,j2,j3⟩:=hq
  have hJ':J a' w':=⟨j,j1,j3⟩
  exact⟨hJ',Nat.lt_of_le_of_lt ((hM _ _ hJ').2 _ ⟨j,j1,j3,rfl⟩) (hμ▸j2)⟩
 all_goals exact hq
theorem No{sl hl:List (Nat×V)}{n:Nat}{R:Act->World->Prop}(hX:Ok0 X0 κ)(ren:List (Nat×Nat))(hR:∀a w,At X0 w0 (St sl hl lv c n) c a w->R a w)
  (e:nx P cf=.round R (nx P cf).s)(en:(nx P cf).s.n=n)(hf:Fit κ (nx P cf).s ren sl hl lv c):Wk P X0 w0 Q cf:=by
 refine⟨fun hQ=>M8 hQ 1000 cf.k cf.s ?_⟩
 rw[show go P 1000 cf.k cf.s=_ from e]
 intro a w ha
 subst en
 exact hR a w (ME hX hf ha)
theorem UJ(m:Bool){f:FuncId}{fn:Func}{ins:List V}{lvi:List Nat}(hf:P.funcs[f]? =some fn)(hb:(fn.body.isSome,Nat.ble ins.length fn.ntmps)=(true,true))
  (h:∀X0 w0,Ok0 X0 0->(m=true->X0.wr=true)->Wk P X0 w0 (Fin P fn X0 w0 R) ⟨[.c (fn.body.getD .skip)],T0 ins lvi fn.ntmps⟩):SatM P m f ins lvi R:=by
 simp only[G6]at hb
 refine Nd (c:=fn.body.getD .skip) hf ?_ rfl hb.2 fun X0 w0 hX hm=>(h X0 w0 hX hm).run GE
 cases hh:fn.body with
|none=>rw[hh]at hb;exact absurd hb.1 (by simp)
|some c=>rfl
theorem Np{f:FuncId}{fn:Func}{ins:List V}{lvi:List Nat}(hf:P.funcs[f]? =some fn)(hb:(fn.body.isSome,Nat.ble ins.length fn.ntmps)=(true,true))
  (h:∀X0 w0,Ok0 X0 0->Wk P X0 w0 (Fin P fn X0 w0 R) ⟨[.c (fn.body.getD .skip)],T0 ins lvi fn.ntmps⟩):mW P f ins lvi R:=UJ false hf hb fun X0 w0 hX _=>h X0 w0 hX
end
def A1(l:List V):V:=.st l.length fun k=>l.getD k .un
def A2(l:List V):V:=.tu l.length fun k=>l.getD k .un
def B3{α:Type} [Inhabited α](t z:Nat)(e:α->V)(l:List α):V:=.sl t z l.length fun i=>e (l.getD i default)
abbrev Nq{α:Type} [Inhabited α](z:Nat)(e:α->V)(l:List α):V:=B3 0 z e l
section
variable [Inhabited α] {t z:Nat} {e:α->V}
theorem UK(l m:List α)(i:Nat):(bif blt i l.length then l.getD i default else m.getD (i-l.length) default)=(l++m).getD i default:=by
 cases hb:blt i l.length
 ·have:¬ i<l.length:=by rw[<-A8,hb];simp
  simp only[List.getD,cond_false]
  rw[L7 zO]
 rw[A8]at hb
 simp only[List.getD,cond_true]
 rw[N5 hb]
theorem pY(l:List α)(x:α):VEq (.sl t z (l.length+1) fun i=>bif blt i l.length then e (l.getD i default) else e x) (B3 t z e (l++[x])):=by
 have:B3 t z e (l++[x])=.sl t z (l.length+1) fun i=>e ((l++[x]).getD i default):=by simp[B3]
 rw[this]
 refine .sl _ _ _ _ _ fun i hi=>?_
 rw[<-UK l [x] i]
 cases hb:blt i l.length
 ·have:¬ i<l.length:=by rw[<-A8,hb];simp
  have:i-l.length=0:=by omega
  simp[this]
 rfl
theorem Nr(h:k<9223372036854775807):i64.wrap ((k:Int)+1)=((k+1:Nat):Int):=by
 simp[IntKind.wrap,IntKind.bits,IntKind.signed];omega
theorem Ns(h:k<9223372036854775807):VEq (.i .i64 (i64.wrap ((k:Int)+1))) (.i .i64 ((k+1:Nat):Int)):=.of_eq (by rw[Nr h])
end
def Cx.imo(X:Cx):Prop:=∀G ρ G' ρ' lv1 Q1,Gle G ρ G' ρ' lv1 Q1 X.κ->X.Φ G ρ lv1->X.Φ G' ρ' Q1
abbrev Cx.raw(ν:Nat)(G:Nat->Nat->Ow)(ρ:Nat->Nat->Option (Nat×Nat×Nat)):Cx:=⟨G,ρ,fun _ _ _=>True,0,ν,true⟩
def xZ:List K->Bool
|.dr _ _ _::_=>false
|_=>true
section
variable {κ:Nat}
theorem Nt{k:List K}{st:Bool}{Y:Pm}{a:Act}(hk:xZ k=true)(h:D4 P Q k .normal a w):BD P Q st k Y a w:=by
 cases k with
|nil=>exact h
|cons x k=>cases x<;>first|exact h|cases hk
end
def esc(r:Nat)(c:V):V->V
|.os r' z=>bif beq r' r then (match c with
 |.ar z' n g=>bif beq z z' then .sl r z n g else .os r' z
 |.bs _ l=>bif beq z 1 then .bl r l else .os r' z
 |_=>.os r' z) else .os r' z
|.st n g=>.st n fun k=>esc r c (g k)
|.tu n g=>.tu n fun k=>esc r c (g k)
|.fn f n g=>.fn f n fun k=>esc r c (g k)
|.fo z y m v=>.fo z y m (esc r c v)
|x=>x
def UL:V->Bool
|.ar _ _ _|.bs _ _=>true
|_=>false
structure RLe (v v':V):Prop where
 mem:v'.mem=true
 rep:∀(X:Cx) (lv:List Nat) (c:Nat) (cs:List Value),2<=c->(∀t,t∈lv->2<=t)->Go.Proofs.YtgohjiegkhfpmaaGreatDoor.rep X v lv c cs->Go.Proofs.YtgohjiegkhfpmaaGreatDoor.rep X v' lv c cs
section
variable {κ:Nat}
theorem tY{k:List K}{s s':T}(hn:s'.n=s.n)(h:∀X τ w,FrR X s.lv (C1 s k) s.n s.σ τ->Wd X0 X s.h s.lv (C1 s k) w0 w->∃X',FrR X' s'.lv (C1 s' k) s.n s'.σ τ/\Wd X0 X' s'.h s'.lv (C1 s' k) w0 w/\(∀b i x,X.G b i=.fz x->X'.G b i=.fz x)/\∀b i,C8 X' w b i=C8 X w b i)(hr:Run P X0 w0 Q ⟨k,s'⟩):Run P X0 w0 Q ⟨k,s⟩:=by
 rintro Y a w ⟨X,τ,rfl,hF,H,rfl⟩
 obtain⟨X',h1,h2,hz,h3⟩:=h X τ w hF H
 have e:C8 X' w=C8 X w:=funext fun b=>funext fun i=>h3 b i
 have:=hr _ _ _ ⟨X',τ,by rw[hn],by rw[hn];exact h1,h2,rfl⟩
 cases k with
|nil=>exact this
|cons x k=>
  cases x
  case dr all L f=>exact RV (Y2:=x8 X' w) e (FB hz) this
  case d1 all L f i=>
   have this:wpOp P all (D4 P Q k) i (fun a' w'=>∃Y',Nxt (x6 all i) (x8 X' w) Y' w'/\V1 P .any all (D4 P Q k) f (L.setIfInBounds i true) Y' a' w') (mk s.n τ) w:=this
   show wpOp P all (D4 P Q k) i (fun a' w'=>∃Y',Nxt (x6 all i) (x8 X w) Y' w'/\V1 P .any all (D4 P Q k) f (L.setIfInBounds i true) Y' a' w') (mk s.n τ) w
   exact wpOp_mono (fun a' w' ⟨Y',n,q⟩=>⟨Y',⟨fun q=>(show(x8 X w).y=(x8 X' w).y from e.symm)▸n.y q,Yle.trans (FB hz) n.z,n.sy,n.sz⟩,q⟩) this
  all_goals exact this
theorem UM{c:V}:∀{v:V},(esc r c v).mem=v.mem/\(esc r c v).sz=v.sz:=by
 intro v
 induction v with
|os r' z=>
  simp only[esc]
  cases beq r' r
  ·exact⟨rfl,rfl⟩
  cases c<;>try exact⟨rfl,rfl⟩
  ·rename_i z' n g;simp only[cond_true];cases beq z z'<;>exact⟨rfl,rfl⟩
  simp only[cond_true];cases beq z 1<;>exact⟨rfl,rfl⟩
|st n g ih=>exact⟨BF fun k _=>(ih k).1,FO fun k _=>(ih k).2⟩
|fo z y i v _ ih=>simp only[esc,V.mem,V.sz,ih.1,ih.2,and_self]
|_=>exact⟨rfl,rfl⟩
theorem GG{b:Nat}{c0:V}{bW:List Value}(hρ:X.ρ r 0=some (b,o,N))(hN:bW.length=N)(hc:rep X c0 [] 2 bW)(W5:FzAt X.G b o bW):∀{v:V} {lv:List Nat} {c:Nat} {cs:List Value},rep X v lv c cs->rep X (esc r c0 v) lv c cs:=by
 intro v
 induction v with
|os r' z=>
  rintro lv c cs hr
  simp only[esc]
  cases hb:beq r' r
  ·exact hr
  have:=A5 hb
  subst this
  simp only[cond_true]
  have aR:=hr
  obtain⟨q1,q2,b',n',q3,q4,_⟩:=hr
  rw[hρ]at q3
  simp only[F2,G6]at q3
  obtain⟨rfl,rfl,rfl⟩:=q3
  cases c0<;>try exact aR
  ·rename_i z' n g
   simp only
   cases hz:beq z z'
   ·exact aR
   have:=A5 hz
   subst this
   simp only[cond_true]
   obtain⟨l1,l2⟩:=hc
   have:n=n':=PJ q2 zO
   subst this
   obtain⟨a,cap,p1,p2,p3,p4,p5,p6⟩:=q4
   refine⟨q2,a,cap,p1,p2,p3,p4,p5,p6.imp id ?_⟩
   rintro⟨b2,o2,s1,s2,s3⟩
   refine⟨b2,o2,s1,fun i hi=>?_,s3⟩
   obtain⟨rfl,rfl⟩:=s2 zO
   have lX:i*z+z<=n*z:=by rw[<-G7];exact G2 _ hi
   exact⟨_,(l2 i hi).1,by simp;omega,(l2 i hi).2,fF W5 _ _⟩
  rename_i n l
  simp only
  cases hz:beq z 1
  ·exact aR
  have:=A5 hz
  subst this
  simp only[cond_true]
  obtain⟨l1,l2⟩:=hc
  have:n'=l.length:=by rw[l2,J7]at hN;omega
  subst this
  obtain⟨a,cap,p1,p2,p3,p4,p5,p6⟩:=q4
  refine⟨a,cap,p1,p2,p3,p4,p5,p6.imp id ?_⟩
  rintro⟨b2,o2,s1,s2,s3⟩
  refine⟨b2,o2,s1,fun k x hk=>?_,s3⟩
  have hlt:=(N1.1 hk).1
  rw[J7]at hlt
  obtain⟨rfl,rfl⟩:=s2 zO
  exact W5 k x (by rw[l2];exact hk)
|st n g ih=>intro lv c cs hr;exact d7 hr fun k cs _ h=>ih k h
|fn f n g ih=>rintro lv c cs ⟨vs,h1,h2,h3⟩;exact⟨vs,h1,h2,fun k hk=>by obtain⟨x,q1,q2⟩:=h3 k hk;exact⟨x,q1,ih k q2⟩⟩
|fo z y i v _ ih=>rintro lv c cs ⟨h1,h2,h3⟩;exact⟨h1,h2,ih h3⟩
|tu=>intro lv c cs hr;exact hr.elim
|_=>intro lv c cs hr;exact hr
theorem Nu{b:Nat}{c0:V}{bW:List Value}(hρ:X.ρ r 0=some (b,o,N))(hN:bW.length=N)(hc:rep X c0 [] 2 bW)(W5:FzAt X.G b o bW):∀{v:V} {lv:List Nat} {c:Nat} {x:Value},repv X lv c v x->repv X lv c (esc r c0 v) x:=by
 intro v
 induction v with
|tu n g ih=>rintro lv c x ⟨C,h1,h2,h3⟩;exact⟨C,h1,h2,fun k hk=>by obtain⟨y,q1,q2⟩:=h3 k hk;exact⟨y,q1,ih k q2⟩⟩
|st n g=>rintro lv c x ⟨C,h1,h2⟩;exact⟨C,h1,GG (v:=.st n g) hρ hN hc W5 h2⟩
|ar|bs|un=>intro lv c x h;exact h
|os r' z=>
  intro lv c x h
  have:=GG (v:=.os r' z) (cs:=[x]) hρ hN hc W5 h
  simp only[esc]at this ⊢
  cases hb:beq r' r<;>rw[hb]at this<;>try exact this
  simp only[cond_true]at this ⊢
  cases c0<;>try exact this
  ·rename_i z' n g;simp only at this ⊢;cases hz:beq z z'<;>rw[hz]at this<;>exact this
  simp only at this ⊢;cases hz:beq z 1<;>rw[hz]at this<;>exact this
|_=>intro lv c x h;exact GG (v:=_) (cs:=[x]) hρ hN hc W5 h
theorem Wd.esc{b:Nat}{c0:V}{bW:List Value}(H:Wd X0 X h lv c w0 w)(hρ:X.ρ r 0=some (b,o,N))(hN:bW.length=N)(hc:rep X c0 [] 2 bW)(W5:FzAt X.G b o bW)(wA:h r 0=.ro c0):
  Wd X0 X (fun r' j=>bif beq r' r&&beq j 0 then .ro c0 else Go.Proofs.YtgohjiegkhfpmaaGreatDoor.esc r c0 (h r' j)) lv c w0 w:=by
 refine { H with rt:=fun r' j b' o' N' K5=>?_}
 have hR:=H.rt r' j b' o' N' K5
 show RtR _ _ _ _ r' j b' o' N' (bif beq r' r&&beq j 0 then _ else _)
 cases hb:(beq r' r&&beq j 0)
 ·simp only[cond_false]
  cases hv:h r' j<;>rw[hv]at hR
  case ro v=>exact hR
  case un=>trivial
  all_goals
   obtain⟨cs,q1,q2,q3,q4⟩:=hR
   exact dU (UM.1.trans q2) (GG hρ hN hc W5 q1) q3 q4
 rw[A9]at hb
 have e1:=A5 hb.1
 have e2:=A5 hb.2
 subst e1 e2
 rw[wA]at hR
 exact hR
theorem Nv{k:List K}{s:T}(r:Nat)(hr:UL (s.h r 0)=true)(h:Wk P X0 w0 Q ⟨k,{ s with σ:=fun t=>esc r (s.h r 0) (s.σ t),h:=fun r' j=>bif beq r' r&&beq j 0 then .ro (s.h r 0) else esc r (s.h r 0) (s.h r' j) }⟩):Wk P X0 w0 Q ⟨k,s⟩:=by
 refine⟨fun hQ=>?_⟩
 have I1:=h.run hQ
 refine tY (by rfl) (fun X τ w hF H=>?_) I1;have hc:∀σ h,C1 { s with σ:=σ,h:=h} k=C1 s k:=fun v h=>by unfold C1;split<;>rfl
 rw[hc]
 have I0:(s.h r 0).strip=s.h r 0:=by cases hv:s.h r 0<;>rw[hv]at hr<;>first|rfl|cases hr
 have hpp:(s.h r 0).prs d6=true:=by cases hv:s.h r 0<;>rw[hv]at hr<;>first|rfl|cases hr
 have hnr:∀v,s.h r 0≠ .ro v:=fun v e=>by rw[e]at hr;cases hr
 have hnu:s.h r 0≠ .un:=fun e=>by rw[e]at hr;cases hr
 have W4:=H.c2
 cases hρ:X.ρ r 0 with
|none=>
  have noos:∀z lv c cs,¬ rep X (.os r z) lv c cs:=fun z lv c cs ⟨_,_,b,n,e,_⟩=>by rw[hρ]at e;cases e
  have nR:∀{v:V} {lv:List Nat} {c:Nat} {cs:List Value},rep X v lv c cs->rep X (esc r (s.h r 0) v) lv c cs:=by
   intro v
   induction v with
  |os r' z=>
    intro lv c cs K5
    simp only[esc]
    cases hb:beq r' r
    ·exact K5
    have:=A5 hb;subst this;exact absurd K5 (noos _ _ _ _)
  |st n g ih=>intro lv c cs hr;exact d7 hr fun k cs _ h=>ih k h
  |fn f n g ih=>rintro lv c cs ⟨vs,h1,h2,h3⟩;exact⟨vs,h1,h2,fun k hk=>by obtain⟨x,q1,q2⟩:=h3 k hk;exact⟨x,q1,ih k q2⟩⟩
  |fo z y i v _ ih=>rintro lv c cs ⟨h1,h2,h3⟩;exact⟨h1,h2,ih h3⟩
  |tu=>intro lv c cs hr;exact hr.elim
  |_=>intro lv c cs hr;exact hr
  have nV:∀{v:V} {lv:List Nat} {c:Nat} {x:Value},repv X lv c v x->repv X lv c (esc r (s.h r 0) v) x:=by
   intro v
   induction v with
  |tu n g ih=>rintro lv c x ⟨C,h1,h2,h3⟩;exact⟨C,h1,h2,fun k hk=>by obtain⟨y,q1,q2⟩:=h3 k hk;exact⟨y,q1,ih k q2⟩⟩
  |st n g=>rintro lv c x ⟨C,h1,h2⟩;exact⟨C,h1,nR (v:=.st n g) h2⟩
  |ar|bs|un=>intro lv c x h;exact h
  |os r' z=>
    intro lv c x hx
    simp only[esc]
    cases hb:beq r' r
    ·exact hx
    have:=A5 hb;subst this;exact absurd hx (noos _ _ _ _)
  |_=>intro lv c x h;exact nR (v:=_) (cs:=[x]) h
  refine⟨X,fun t=>nV (hF t),{ H with rt:=fun r' j b' o' N' K5=>?_ },fun _ _ _ h=>h,fun _ _=>rfl⟩
  have hR:=H.rt r' j b' o' N' K5
  show RtR _ _ _ _ r' j b' o' N' (bif beq r' r&&beq j 0 then _ else _)
  cases hb:(beq r' r&&beq j 0)
  ·simp only[cond_false]
   cases hv:s.h r' j<;>rw[hv]at hR
   case ro v=>exact hR
   case un=>trivial
   all_goals
    obtain⟨cs,q1,q2,q3,q4⟩:=hR
    exact dU (UM.1.trans q2) (nR q1) q3 q4
  rw[A9]at hb
  have e1:=A5 hb.1
  have e2:=A5 hb.2
  subst e1 e2
  rw[hρ]at K5;cases K5
|some p=>
  obtain⟨b,o,N⟩:=p
  have hR:=H.rt r 0 b o N hρ
  have oA:∃cs,rep X (s.h r 0) s.lv (C1 s k) cs/\(s.h r 0).mem=true/\cs.length=N/\R4 X w r 0 b o cs:=by
   cases hv:s.h r 0<;>rw[hv]at hR hnr hnu
   case ro v=>exact absurd rfl (hnr v)
   case un=>exact absurd rfl hnu
   all_goals exact hR
  obtain⟨cs,q1,q2,q3,q4⟩:=oA
  obtain⟨f1,f2,f3⟩:=H.frz hρ q1 q2 hpp q3 q4
  rw[I0]at f2
  have q5:rep X (s.h r 0) [] 2 cs:=by have:=sZ hpp q1;rw[I0]at this;exact this
  have q6:=q5.mono f1.nil (B2 2)
  have key:=f2.esc (X:=X.frz w r 0 b o N) hρ q3 q6 f3 (j8 _ _ _ _)
  refine⟨X.frz w r 0 b o N,fun t=>Nu (X:=X.frz w r 0 b o N) hρ q3 q6 f3 ((hF t).mono f1 (B2 _)),{ key with rt:=fun r' j b' o' N' K5=>?_ },f1.fz,H.frz_y q1 q2 q3 q4 rfl⟩
  have hR:=key.rt r' j b' o' N' K5
  have D5:(beq r' r&&beq j 0)=false->D9 s.h r 0 (.ro (s.h r 0)) r' j=s.h r' j:=fun hb=>gO _ _ fun⟨e1,e2⟩=>by subst e1 e2;simp at hb
  show RtR _ _ _ _ r' j b' o' N' (bif beq r' r&&beq j 0 then _ else _)
  cases hb:(beq r' r&&beq j 0)<;>simp only[hb]at hR
  ·simp only[cond_false]at hR ⊢
   rw[D5 hb]at hR
   exact hR
  exact hR
theorem Nw{k:List K}{s:T}(r:Nat)(v:V)(h0:(s.h r 0).mem=true)(hv:RLe (s.h r 0) v)(h:Wk P X0 w0 Q ⟨k,{ s with h:=D9 s.h r 0 v }⟩):Wk P X0 w0 Q ⟨k,s⟩:=by
 refine⟨fun hQ=>?_⟩
 have I1:=h.run hQ
 refine tY (by rfl) (fun X τ w hF H=>?_) I1;have hc:∀h,C1 { s with h:=h} k=C1 s k:=fun h=>by unfold C1;split<;>rfl
 rw[hc]
 refine⟨X,hF,{ H with rt:=fun r' j b o N hr=>?_ },fun _ _ _ h=>h,fun _ _=>rfl⟩
 have hR:=H.rt r' j b o N hr
 by_cases he:r'=r/\j=0
 ·obtain⟨rfl,rfl⟩:=he
  show RtR X s.lv _ w r' 0 b o N (D9 s.h r' 0 v r' 0)
  rw[j8]
  have oA:∃cs,rep X (s.h r' 0) s.lv (C1 s k) cs/\(s.h r' 0).mem=true/\cs.length=N/\R4 X w r' 0 b o cs:=by
   cases hv:s.h r' 0<;>rw[hv]at hR h0
   case ro v=>cases h0
   case un=>cases h0
   all_goals exact hR
  obtain⟨cs,q1,q2,q3,q4⟩:=oA
  exact dU hv.mem (hv.rep X _ _ _ H.c2 (fun t ht=>(H.lvc t ht).1) q1) q3 q4
 show RtR X s.lv _ w r' j b o N (D9 s.h r 0 v r' j)
 rw[gO _ _ he];exact hR
theorem yA(hX:Ok0 X0 0)(z:Nat)(g g':Nat->V)(e:((nx P cf).ended,dX P (nx P cf).s fn.results.toList,blt 0 z)=(true,some [.sl 1 z 0 g],true))(hR:R (.os 16 z) [(16,.ar z 0 g')] [16]):Wk P X0 w0 (Fin P fn X0 w0 R) cf:=by
 simp only[G6,A8]at e
 obtain⟨e1,e2,e3⟩:=e
 cases hn:nx P cf<;>rw[hn]at e1<;>first|(cases e1;done)|skip
 rename_i ex s'
 rw[hn]at e2
 have he:ex=.ret\/ex=.normal:=by cases ex<;>first|exact .inl rfl|exact .inr rfl|cases e1
 refine⟨fun _=>M8 GE 1000 cf.k cf.s ?_⟩
 rw[show go P 1000 cf.k cf.s=_ from hn]
 rintro a w ⟨X,τ,rfl,hF,H⟩
 obtain⟨vs,q1,q2,q3⟩:=MC (P:=P) H hF e2
 have h3:(fn.results.mapM (pV (mk s'.n τ).tmps)).run P w=.ok vs.toArray w:=by
  rw[Array.mapM_eq_foldlM, <-Array.foldlM_toList]
  simpa using q3 #[]
 have h4:results fn (mk s'.n τ).tmps=(do let vs <-fn.results.mapM (pV (mk s'.n τ).tmps);pure (if h:vs.size=1 then vs[0] else .tuple vs)):=by
  unfold results
  congr 1
 obtain⟨_,_,H1⟩:=MD (s:=s') (ren:=[]) (sl:=[]) (hl:=[]) (lv:=[]) (c':=16) hX (by rfl) trivial H
 obtain⟨x,rfl⟩:∃x,vs=[x]:=List.length_eq_one_iff.1 (by simpa using q1)
 obtain⟨x',f1,f2⟩:=q2 0 _ rfl
 simp at f1;subst f1
 obtain⟨_,ao,cap,p1,p2,p3,p4,p5,p6⟩:=f2
 have p5:=p5 rfl
 subst p5
 let bo:Nat×Nat:=match ao with|some ⟨b,o,_⟩=>(b,o)|none=>(0,0)
 have hpost:BI X0 w0 R x w:=by
  obtain⟨B1,HW⟩:=H1.regh (X':=(X.keep 0 [] [] []).nil 16 bo.1 0) (h':=S6 [(16,.ar z 0 g')]) (lv':=[16]) (c':=64) (r:=0) (nm:=16) (B2 _) zO (fun b i=>.inl rfl) (fun r' j p h=>by
   simp only[Cx.nil]at h
   split at h
   ·right;assumption
   ·exact .inl h) (fun r' j p h=>by
   simp only[Cx.nil]
   rw[if_neg (fun e=>by have:=H1.ρc _ _ _ h;omega)];exact h) (fun r' j D5=>by
   right
   cases j with
  |zero=>
    show lk [(16,_)] r'=.un
    simp only[lk]
    cases hb:beq r' 16
    ·rfl
    exact absurd (A5 hb) D5
  |succ j=>rfl) rfl (fun t ht=>by simp at ht;subst ht;omega) (fun b o N B1 hp=>by
   simp only[Cx.nil,and_self,if_true,F2,G6]at hp
   obtain⟨rfl,rfl,rfl⟩:=hp
   exact dU (v:=.ar z 0 g') (cs:=[]) rfl ⟨by simp,fun k hk=>by omega⟩ rfl (fun k x hk=>by simp at hk))
  refine⟨_,_,_,_,hR,⟨zO,e3,bo.1,0,by simp[Cx.nil],?_,fun _ _=>⟨ao,p1⟩⟩,HW⟩
  refine⟨ao,0,p1,B2 _,p3,zO,fun _=>rfl,?_⟩
  rcases p6 with⟨h1,h2⟩|⟨b,o,h1,_⟩
  ·exact .inl ⟨.inl (h1.resolve_right (by decide)),rfl⟩
  subst h1
  exact .inr ⟨b,o,rfl,fun h=>by omega,fun _ i hi G9=>by omega⟩
 suffices hh:(mk s'.n τ).defers=[]/\∃v,(results fn (mk s'.n τ).tmps).run P w=.ok v w/\∃v',Ending.returned v=.returned v'/\BI X0 w0 R v' w by
  rcases he with rfl|rfl<;>exact hh
 refine⟨oT _ _,x,?_,_,rfl,hpost⟩
 rw[h4,D0,h3]
 simp
end
theorem BL{z:Nat}(hi:i*z+z<=cs.length)(he:es.length=z)(D5:k≠i):((ins cs (i*z) es).drop (k*z)).take z=(cs.drop (k*z)).take z:=by
 apply V7
 intro m
 unfold ins
 simp only[t7,Q5,H9,zL,F7]
 by_cases hm:m<z
 ·rcases JC D5 with hlt|hgt
  ·have:k*z+z<=i*z:=by rw[<-G7];exact G2 _ hlt
   simp only[hm,if_true,show k*z+m<min (i*z) cs.length by omega,show k*z+m<i*z by omega]
  have:i*z+z<=k*z:=by rw[<-G7];exact G2 _ hgt
  simp only[hm,if_true,show ¬ (k*z+m<min (i*z) cs.length) by omega,if_false,show ¬ (k*z+m-min (i*z) cs.length<es.length) by omega]
  congr 1;omega
 simp[hm]
theorem UN{a z:Nat}(h:a+z<=cs.length):ins cs a ((cs.drop a).take z)=cs:=by
 unfold ins
 rw[show((cs.drop a).take z).length=z by simp;omega,H9, <-List.drop_drop,uY,uY]
theorem aG{z n:Nat}{g:Nat->V}(hi:i<n)(hm:(V.fo z (.ar z n g) i (g i)).mem=true):RLe (.ar z n g) (.fo z (.ar z n g) i (g i)):=by
 refine⟨hm,fun X lv c cs hc hl hr=>?_⟩
 have Y9:i*z+z<=cs.length:=by rw[hr.1, <-G7];exact G2 _ hi
 exact⟨Y9,⟨(cs.drop (i*z)).take z,by simp;omega,by rw[UN Y9];exact hr⟩,(hr.2 i hi).1.out hl hc⟩
theorem Nx{z n:Nat}{g:Nat->V}{vk:V}(hi:i<n)(hk:i≠k)(hm:(V.fo z (.fo z (.ar z n g) k vk) i (g i)).mem=true):RLe (.fo z (.ar z n g) k vk) (.fo z (.fo z (.ar z n g) k vk) i (g i)):=by
 refine⟨hm,fun X lv c cs hc hl hr=>?_⟩
 obtain⟨h1,⟨es,h2,h3⟩,h4⟩:=hr
 have D7:(ins cs (k*z) es).length=cs.length:=o9 zO
 have Y9:i*z+z<=cs.length:=by rw[<-D7,h3.1, <-G7];exact G2 _ hi
 refine⟨Y9,⟨(cs.drop (i*z)).take z,by simp;omega,by rw[UN Y9];exact⟨h1,⟨es,h2,h3⟩,h4⟩⟩,?_⟩
 have:=(h3.2 i hi).1
 rw[BL h1 h2 hk]at this
 exact this.out hl hc
theorem UO{z n:Nat}{g g':Nat->V}{v:V}(hg:∀j,j≠i->g' j=g j)(hv:g' i=v.strip)(hp:v.prs d6=true)(hm:v.mem=true)(h1:i*z+z<=cs.length)(h2:es.length=z)(h3:rep X (.ar z n g) lv c (ins cs (i*z) es))(h4:rep X v lv c ((cs.drop (i*z)).take z)):rep X (.ar z n g') lv c cs:=by
 have D7:(ins cs (i*z) es).length=cs.length:=o9 zO
 refine⟨by rw[<-D7];exact h3.1,fun k hk=>?_⟩
 by_cases he:k=i
 ·subst he
  rw[hv]
  exact⟨sZ hp h4,by rw[EX];exact hm⟩
 rw[hg k he]
 have:=h3.2 k hk
 rw[BL h1 h2 he]at this
 exact this
theorem UP{z n:Nat}{g g':Nat->V}{v:V}(hg:∀j,j≠i->g' j=g j)(hv:g' i=v.strip)(hp:(v.prs d6&&v.mem)=true):RLe (.fo z (.ar z n g) i v) (.ar z n g'):=by
 rw[A9]at hp
 refine⟨rfl,fun X lv c cs hc hl hr=>?_⟩
 obtain⟨h1,⟨es,h2,h3⟩,h4⟩:=hr
 exact UO hg hv hp.1 hp.2 h1 h2 h3 h4
theorem Ny{z n:Nat}{g g':Nat->V}{v vk:V}(oG:i≠k)(hg:∀j,j≠i->g' j=g j)(hv:g' i=v.strip)(hp:(v.prs d6&&v.mem)=true)(hm:(V.fo z (.ar z n g') k vk).mem=true):RLe (.fo z (.fo z (.ar z n g) k vk) i v) (.fo z (.ar z n g') k vk):=by
 rw[A9]at hp
 refine⟨hm,fun X lv c cs hc hl hr=>?_⟩
 obtain⟨h1,⟨es,h2,dH⟩,h4⟩:=hr
 obtain⟨k1,⟨es2,k2,k3⟩,k4⟩:=dH
 have D7:(ins cs (i*z) es).length=cs.length:=o9 zO
 rw[D7]at k1
 rw[BL h1 h2 (Ne.symm oG)]at k4
 refine⟨k1,⟨es2,k2,?_⟩,k4⟩
 have hlen2:(ins cs (k*z) es2).length=cs.length:=o9 zO
 refine UO (cs:=ins cs (k*z) es2) (es:=es) hg hv hp.1 hp.2 zO h2 ?_ (by rw[BL k1 k2 oG];exact h4)
 have e:ins (ins cs (k*z) es2) (i*z) es=ins (ins cs (i*z) es) (k*z) es2:=by
  apply V7
  intro m
  have hd:k*z+z<=i*z\/i*z+z<=k*z:=by
   rcases JC oG with h|h
   ·right;rw[<-G7];exact G2 _ h
   left;rw[<-G7];exact G2 _ h
  have get:∀(ds xs:List Value) (a:Nat),a+xs.length<=ds.length->(ins ds a xs)[m]? =if a<=m/\m<a+xs.length then xs[m-a]? else ds[m]? :=fun ds xs a hf=>by
   unfold ins
   simp only[H9,zL,F7,t7,Q5]
   have e1:min a ds.length=a:=by omega
   simp only[e1]
   by_cases q1:m<a
   ·simp[q1,show ¬ (a<=m/\m<a+xs.length) by omega]
   by_cases q2:m-a<xs.length
   ·simp[q1,q2,show a<=m/\m<a+xs.length by omega]
   simp only[q1,q2,if_false,show ¬ (a<=m/\m<a+xs.length) by omega];congr 1;omega
  rw[get _ _ _ zO,get _ _ _ zO,get _ _ _ zO,get _ _ _ zO]
  by_cases q1:i*z<=m/\m<i*z+es.length
  ·rw[if_pos q1,if_neg zO,if_pos q1]
  rw[if_neg q1]
  by_cases q2:k*z<=m/\m<k*z+es2.length
  ·rw[if_pos q2,if_pos q2]
  rw[if_neg q2,if_neg q2,if_neg q1]
 rw[e];exact k3
theorem yB{v:V}(h:VEq v v')(hm:v'.mem=true):RLe v v':=⟨hm,fun _ _ _ _ _ _ hr=>h.rep hr⟩
section
variable {κ:Nat}
theorem cB(q:Prop) [Decidable q](ha:q->Wk P X0 w0 Q (nx P cf).a)(hb:¬ q->Wk P X0 w0 Q (nx P cf).b)(e:((nx P cf).tag,(nx P cf).p)=(1,decide q):=by kernel_rfl):Wk P X0 w0 Q cf:=
 tX _ e (fun h=>ha (of_decide_eq_true h)) (fun h=>hb (of_decide_eq_false h))
theorem cN(q:Prop) [Decidable q](ha:¬ q->Wk P X0 w0 Q (nx P cf).a)(hb:q->Wk P X0 w0 Q (nx P cf).b)(e:((nx P cf).tag,(nx P cf).p)=(1, !decide q):=by kernel_rfl):Wk P X0 w0 Q cf:=
 tX _ e (fun h=>ha (by simpa using h)) (fun h=>hb (by simpa using h))
theorem cb(q:Bool)(ha:q=true->Wk P X0 w0 Q (nx P cf).a)(hb:q=false->Wk P X0 w0 Q (nx P cf).b)(e:((nx P cf).tag,(nx P cf).p)=(1,q):=by kernel_rfl):Wk P X0 w0 Q cf:=tX _ e ha hb
theorem cn(q:Bool)(ha:q=false->Wk P X0 w0 Q (nx P cf).a)(hb:q=true->Wk P X0 w0 Q (nx P cf).b)(e:((nx P cf).tag,(nx P cf).p)=(1, !q):=by kernel_rfl):Wk P X0 w0 Q cf:=tX _ e (fun h=>ha (by simpa using h)) (fun h=>hb (by simpa using h))
theorem cC(q:Prop) [Decidable q](ha:Wk P X0 w0 Q (nx P cf).a)(hp:q:=by omega)(e:((nx P cf).tag,(nx P cf).p)=(2,decide q):=by kernel_rfl):Wk P X0 w0 Q cf:=
 Nk _ e (decide_eq_true hp) ha
theorem O1(q:Prop) [Decidable q](h:q)(ha:Wk P X0 w0 Q (nx P cf).a)(e:((nx P cf).tag,(nx P cf).p)=(1,decide q):=by kernel_rfl):Wk P X0 w0 Q cf:=cB q (fun _=>ha) (fun h'=>absurd h h') e
theorem E2(q:Prop) [Decidable q](h:¬ q)(hb:Wk P X0 w0 Q (nx P cf).b)(e:((nx P cf).tag,(nx P cf).p)=(1,decide q):=by kernel_rfl):Wk P X0 w0 Q cf:=cB q (fun h'=>absurd h' h) (fun _=>hb) e
theorem GH(q:Prop) [Decidable q](h:q)(hb:Wk P X0 w0 Q (nx P cf).b)(e:((nx P cf).tag,(nx P cf).p)=(1, !decide q):=by kernel_rfl):Wk P X0 w0 Q cf:=cN q (fun h'=>absurd h h') (fun _=>hb) e
theorem MF(q:Bool)(h:q=true)(ha:Wk P X0 w0 Q (nx P cf).a)(e:((nx P cf).tag,(nx P cf).p)=(1,q):=by kernel_rfl):Wk P X0 w0 Q cf:=tX q e (fun _=>ha) fun h'=>by rw[h]at h';cases h'
theorem GI(q:Bool)(h:q=false)(hb:Wk P X0 w0 Q (nx P cf).b)(e:((nx P cf).tag,(nx P cf).p)=(1,q):=by kernel_rfl):Wk P X0 w0 Q cf:=tX q e (fun h'=>by rw[h]at h';cases h') fun _=>hb
theorem Nz(q:Bool)(h:q=false)(ha:Wk P X0 w0 Q (nx P cf).a)(e:((nx P cf).tag,(nx P cf).p)=(1, !q):=by kernel_rfl):Wk P X0 w0 Q cf:=MF (!q) (by rw[h];rfl) ha e
theorem kV(q:Bool)(h:q=true)(hb:Wk P X0 w0 Q (nx P cf).b)(e:((nx P cf).tag,(nx P cf).p)=(1, !q):=by kernel_rfl):Wk P X0 w0 Q cf:=GI (!q) (by rw[h];rfl) hb e
theorem c0(n:Nat)(ha:n=0->Wk P X0 w0 Q (nx P cf).a)(hb:Wk P X0 w0 Q (nx P cf).b)(e:((nx P cf).tag,(nx P cf).p)=(8,beq n 0):=by kernel_rfl):Wk P X0 w0 Q cf:=
 Nl _ e (fun h=>ha (A5 h)) hb
theorem cF{f:FuncId}{fn:Func}{ins:List V}{lvi:List Nat}{R:V->List Nat->Prop}(hf:P.funcs[f]? =some fn)
  (h:∀X0 w0,Ok0 X0 0->Wk P X0 w0 (Fin P fn X0 w0 fun out ho A0=>ho=[]/\R out A0) ⟨[.c (fn.body.getD .skip)],T0 ins lvi fn.ntmps⟩)(hb:(fn.body.isSome,Nat.ble ins.length fn.ntmps)=(true,true):=by kernel_rfl):Sat P f ins lvi R:=Np hf hb h
theorem v0{v p:V}(h:v=p:=by kernel_rfl):VEq v p:=.of_eq h
theorem vT{v p:V}{u:V}(h2:VEq u p)(h:v=u:=by kernel_rfl):VEq v p:=h▸h2
theorem vS{v:V}(hk:k<9223372036854775807:=by omega)(h:v=.i .i64 (i64.wrap ((k:Int)+1)):=by kernel_rfl):VEq v (.i .i64 ((k+1:Nat):Int)):=h▸Ns hk
theorem cR{sl hl:List (Nat×V)}{n:Nat}{R:Act->World->Prop}(hX:Ok0 X0 κ)(ren:List (Nat×Nat))(hR:∀a w,At X0 w0 (St sl hl lv c n) c a w->R a w)(hS:pW (fK κ ren) (gK κ ren hl) (nx P cf).s.σ sl)(hH:cT (fK κ ren) (gK κ ren hl) (iK κ ren hl) (nx P cf).s.h hl)
  (e:nx P cf=.round R (nx P cf).s:=by kernel_rfl)(en:(nx P cf).s.n=n:=by kernel_rfl)(hk:cU κ (nx P cf).s ren sl hl lv c=true:=by kernel_rfl):Wk P X0 w0 Q cf:=No hX ren hR e en ⟨hk,hS,hH⟩
theorem cL(hX:Ok0 X0 κ)(sl hl:ι->List (Nat×V))(I:ι->Prop)(μ:ι->Nat)(ren:List (Nat×Nat))(lv:List Nat)(c:Nat)(i0:ι)(hI:I i0)(hS:pW (fK κ ren) (gK κ ren (hl i0)) (nx P cf).a.s.σ (sl i0))(hH:cT (fK κ ren) (gK κ ren (hl i0)) (iK κ ren (hl i0)) (nx P cf).a.s.h (hl i0))
  (h:∀i,I i->∀R:Act->World->Prop,(∀j,I j->μ j<μ i->∀a w,At X0 w0 (St (sl j) (hl j) lv c (nx P cf).a.s.n) c a w->R a w)->Wk P X0 w0 Q ⟨.c (nx P cf).code:: .lp R::(nx P cf).a.k,St (sl i) (hl i) lv c (nx P cf).a.s.n⟩)
  (e:(nx P cf).tag=4:=by kernel_rfl)(hk:cU κ (nx P cf).a.s ren (sl i0) (hl i0) lv c=true:=by kernel_rfl):Wk P X0 w0 Q cf:=Nn hX sl hl I μ ren lv c e i0 ⟨hk,hS,hH⟩ hI h
theorem cK{f:FuncId}{ins:List V}{lvi:List Nat}{R:V->List Nat->Prop}(ren:List (Nat×Nat))(hs:Sat P f ins lvi R)(h:∀out A0,R out A0->Wk P X0 w0 Q (aft (nx P cf) ren out A0))
  (e:((nx P cf).tag,(nx P cf).f,(nx P cf).l.map (V.rn (D2 ren) g0),fG (nx P cf).a.s.lv 16 ren&&beq (C1 (nx P cf).a.s (nx P cf).a.k) ((nx P cf).nm+64),ren.map (·.2))=(3,f,ins,true,lvi):=by kernel_rfl):Wk P X0 w0 Q cf:=UH ren hs e h
theorem cQ{f:FuncId}{ins:List V}{lvi:List Nat}{v:V}(ren:List (Nat×Nat))(hs:Sat P f ins lvi fun out A0=>A0=[]/\out=v)(h:Wk P X0 w0 Q (aft (nx P cf) ren v []))
  (e:((nx P cf).tag,(nx P cf).f,(nx P cf).l.map (V.rn (D2 ren) g0),fG (nx P cf).a.s.lv 16 ren&&beq (C1 (nx P cf).a.s (nx P cf).a.k) ((nx P cf).nm+64),ren.map (·.2))=(3,f,ins,true,lvi):=by kernel_rfl):Wk P X0 w0 Q cf:=UH ren hs e fun out A0 ⟨h1,h2⟩=>by subst h1;subst h2;exact h
theorem I8{a:Int}(h: -9223372036854775808<=a/\a<9223372036854775808):i64.wrap a=a:=by simp[IntKind.wrap,IntKind.bits,IntKind.signed];omega
theorem gT{a:Int}(h:0<=a/\a<18446744073709551616):u64.wrap a=a:=by simp[IntKind.wrap,IntKind.bits,IntKind.signed];omega
theorem Oa{a:Int}(h:0<=a/\a<256):u8.wrap a=a:=by simp[IntKind.wrap,IntKind.bits,IntKind.signed];omega
theorem pZ(a:Int): -9223372036854775808<=i64.wrap a/\i64.wrap a<9223372036854775808:=by simp[IntKind.wrap,IntKind.bits,IntKind.signed];omega
theorem P3(a:Int):0<=u64.wrap a/\u64.wrap a<18446744073709551616:=by simp[IntKind.wrap,IntKind.bits,IntKind.signed];omega
theorem UQ(a:Int):0<=u8.wrap a/\u8.wrap a<256:=by simp[IntKind.wrap,IntKind.bits,IntKind.signed];omega
end
def lo(t:Nat):Nat:=bif blt t 2 then t else 0
def dY(z:Nat):V->V
|.ar z' n g=>bif beq z z' then .sl 0 z n g else .uk 1
|.bs _ l=>bif beq z 1 then .bl 0 l else .uk 1
|.st n g=>bif beq z 1&&V.mem.all n (fun k=>cP g n k k&&beq (g k).sz 1) then .sl 0 1 n g else .uk 1
|_=>.uk 1
def yC(a n:Nat):V->V
|.bs m l=>bif Nat.ble (a+n) m then .bl 0 ((l.drop a).take n) else .uk 1
|_=>.uk 1
def tZ(z m:Nat)(y v:V):V:=match y with
|.ar z' n g=>bif beq z z'&&blt m n&&v.mem then .ar z n (fun k=>bif beq k m then v else g k) else .fo z (.ar z' n g) m v
|y=>.fo z y m v
def yD(q:V->V)(c:V)(p:List Stp):V:=bif c.okp p&&blt 0 (c.get p).sz then .pz (q (c.get p)) else .uk 1
def BM(q:V->V)(c:V)(p:List Stp):V:=match c,p with
|.fo z _ i v,.e a z' _::p=>bif beq z z' then (bif beq a i then yD q v p else .uk 1) else .uk 1
|c,p=>yD q c p
def BN(c:V)(p:List Stp)(a n:Nat):V:=match c,p with
|.fo z _ i v,.e a' z' _::p=>bif beq z z' then (bif beq a' i then (bif v.okp p then yC a n (v.get p) else .uk 1) else .uk 1) else .uk 1
|c,p=>bif c.okp p then yC a n (c.get p) else .uk 1
def V.bw(q:V->V)(h:Nat->Nat->V):V->V
|.bl t l=>.bl (lo t) l
|.sl t z n g=>.sl (lo t) z n g
|.lb l=>.bl 1 l
|.st n g=>.st n (pK n fun k=>(g k).bw q h)
|.tu n g=>.tu n fun k=>(g k).bw q h
|.fn f n g=>.fn f n (pK n fun k=>(g k).bw q h)
|.os r z=>bif (H7 h r 0).mem then dY z (q (H7 h r 0)) else .uk 1
|.pr r j p=>bif beq j 0&&(H7 h r 0).mem then BM q (H7 h r 0) p else .uk 1
|.vw r p a n=>bif (H7 h r 0).mem then BN (H7 h r 0) p a n else .uk 1
|.fo z y m v=>tZ z m (y.bw q h) (v.bw q h)
|.mp _ _ _=>.uk 1
|x=>x
def V.brw:Nat->(Nat->Nat->V)->V->V
|0,h=>V.bw (fun _=>.un) h
|F+1,h=>V.bw (V.brw F h) h
def V.bwt(q:V->V)(h:Nat->Nat->V):V->V
|.tu n g=>.tu n fun k=>(g k).bwt q h
|.fo _ _ _ _=>.un
|v=>v.bw q h
def V.lent(h:Nat->Nat->V)(v:V):V:=(v.bwt (V.brw 6 h) h).nz
def Cx.lend(X:Cx)(w:World):Cx:=⟨fun b i=>match X.G b i with
|.fz x=>.fz x
|.rt _ _ _=>(match w.cell? (ad b i) with|some x=>bif x.oneCell' then .fz x else .no|none=>.no)
|_=>.no,fun _ _=>none,fun _ _ _=>True,0,w.heap.size,false⟩
section
variable {A0:List Nat} {nm:Nat}
theorem GJ:∀b i x,X.G b i=.fz x->(X.lend w).G b i=.fz x:=fun b i x hx=>by simp only[Cx.lend,hx]
theorem Oc{b:Nat}(hx:(X.lend w).G b i=.fz x):X.G b i=.fz x\/((∃r j k,X.G b i=.rt r j k)/\w.cell? (ad b i)=some x/\x.oneCell'=true):=by
 simp only[Cx.lend]at hx
 cases hg:X.G b i with
|fz y=>rw[hg]at hx;exact .inl hx
|rt r j k=>
  rw[hg]at hx
  simp only at hx
  cases hc:w.cell? (ad b i) with
 |none=>rw[hc]at hx;cases hx
 |some y=>
   rw[hc]at hx
   simp only at hx
   obtain⟨h1,h2⟩:=M7 hx (by simp)
   cases h2
   exact .inr ⟨⟨r,j,k,rfl⟩,rfl,h1⟩
|_=>rw[hg]at hx;cases hx
theorem GK{b:Nat}:(∃x,(X.lend w).G b i=.fz x)\/(X.lend w).G b i=.no:=by
 simp only[Cx.lend]
 cases X.G b i with
|fz y=>exact .inl ⟨y,rfl⟩
|rt r j k=>
  simp only
  cases w.cell? (ad b i) with
 |none=>exact .inr rfl
 |some y=>simp only;cases y.oneCell';exact .inr rfl;exact .inl ⟨y,rfl⟩
|_=>exact .inr rfl
theorem Od(H:Wd X0 X h lv nm w0 w):Wd (X.lend w) (X.lend w) h0 [] 16 w w:=by
 refine { kb:=zS _ _,tape:=rfl,fz0:=fun _ _ _ h=>h,no0:=fun _ _ _ h=>.inl h,mp0:=fun _ _ _ h=>h,ρ0:=fun _ _ _ h=>h,ex:=fun b i hn=>?_,fz:=fun b i x hx=>?_,tp:=fun b i t hx=>?_,rt:=fun r j b o N h=>(by cases h),c2:=by omega,lvc:=fun t ht=>by simp at ht,ρc:=fun r j p h=>(by cases h),inv:=trivial,imo:=fun _ _ _ _ _ _ _ _=>trivial,νe:=rfl,gz:=H.gz1 GJ,we:=rfl,ν0:=B2 _,νs:=B2 _,nf:=fun b hb _ C T fr he=>(by have:b<w.heap.size:=(Z4.1 he).1;simp only[Cx.lend]at hb;omega),κc:=L8 _}
 ·refine H.ex b i fun e=>hn ?_
  simp only[Cx.lend,e]
 ·rcases Oc hx with hx|⟨_,h1,h2⟩
  ·exact(H.fz b i x hx).move GJ rfl fun _ _ h=>h
  exact FzOk.cell h1 h2
 rcases GK (X:=X) (w:=w) (b:=b) (i:=i) with⟨x,h⟩|h<;>rw[h]at hx<;>cases hx
theorem MG(H:Wd X0 X h lv nm w0 w){b:Nat}(hr:X.ρ r 0=some (b,o,N))(hm:(H7 h r 0).mem=true):∃cs,rep X (H7 h r 0) lv nm cs/\cs.length=N/\FzAt (X.lend w).G b o cs:=by
 have:=H.rt r 0 b o N hr
 unfold H7 at hm ⊢
 cases hv:h r 0<;>rw[hv]at hm
 case un=>cases hm
 case ro v=>
  rw[hv]at this
  obtain⟨cs,h1,h2,h3,h4⟩:=this
  exact⟨cs,h1.out (fun t ht=>(H.lvc t ht).1) H.c2,h3,fun k x hk=>GJ _ _ _ (h4 k x hk)⟩
 all_goals
  rw[hv]at this
  obtain⟨cs,h1,h2,h3,h4⟩:=this
  refine⟨cs,h1,h3,fun k x hk=>?_⟩
  obtain⟨g1,g2,_⟩:=h4 k x hk
  have:=r8 h2 h1 x (E3 hk)
  simp only[Cx.lend,g1,g2,this,cond_true]
theorem Oe{t:Nat}:lo t<2:=by unfold lo;cases hb:blt t 2;simp;rw[A8]at hb;simpa using hb
theorem Of{t:Nat}(h:lo t=1):t=1:=by unfold lo at h;cases hb:blt t 2<;>rw[hb]at h<;>simp at h;exact h
theorem SlR.lo{G':Nat->Nat->Ow}{t n z:Nat}{W W':Nat->Nat->Prop}(hW:∀b o,W b o->W' b o)(h:SlR G lv c t n z W cs):SlR G' [] 2 (lo t) n z W' cs:=by
 obtain⟨a,cap,h1,h2,h3,_,h5,h6⟩:=h
 exact⟨a,cap,h1,h2,h3,Oe,fun e=>h5 (Of e),h6.imp (fun⟨e,q⟩=>⟨e.imp id fun e=>by rw[e];rfl,q⟩) fun⟨b,o,q1,q2,_⟩=>⟨b,o,q1,hW _ _ q2,fun ht=>by simp at ht⟩⟩
theorem UR{q:V->V}(H:Wd X0 X h lv nm w0 w)(hq:∀v cs,rep X v lv nm cs->rep (X.lend w) (q v) [] 2 cs){c:V}{p:List Stp}{b:Nat}{cs:List Value}(hm:c.mem=true)(hr:rep X c lv nm cs)(hf:FzAt (X.lend w).G b o cs)(hp:∀x∈p,x.ok):rep (X.lend w) (yD q c p) [] 2 [.pointer (some ⟨b,o+B9 p,none⟩)]:=by
 unfold yD
 cases hb:(c.okp p&&blt 0 (c.get p).sz)
 ·exact⟨rfl,fun x hx=>by rw[O8.1 hx];rfl⟩
 simp only[A9,A8]at hb
 obtain⟨r1,r2,r3⟩:=dS (Q1 H) H.c2 hb.1 hp hm hr
 exact⟨b,o+B9 p,_,rfl,hq _ _ r3,by simp;omega,fF hf _ _⟩
theorem Og{q:V->V}(H:Wd X0 X h lv nm w0 w)(hq:∀v cs,rep X v lv nm cs->rep (X.lend w) (q v) [] 2 cs){c:V}{p:List Stp}{b:Nat}{cs:List Value}(hm:c.mem=true)(hr:rep X c lv nm cs)(hf:FzAt (X.lend w).G b o cs)(hp:∀x∈p,x.ok):rep (X.lend w) (BM q c p) [] 2 [.pointer (some ⟨b,o+B9 p,none⟩)]:=by
 have uk:rep (X.lend w) (.uk 1) [] 2 [.pointer (some ⟨b,o+B9 p,none⟩)]:=⟨rfl,fun x hx=>by rw[O8.1 hx];rfl⟩
 unfold BM
 split
 ·rename_i z y i v a z' n' p'
  cases hz:beq z z'
  ·exact uk
  cases ha:beq a i
  ·exact uk
  have e1:=A5 hz
  have e2:=A5 ha
  subst e1 e2
  simp only[cond_true]
  obtain⟨k1,_,k4⟩:=hr
  simp only[V.mem,A9]at hm
  have:=UR (o:=o+a*z) (p:=p') H hq hm.1.2 k4 (fF hf _ _) fun x hx=>hp x (R5 _ hx)
  rw[show o+B9 (Stp.e a z n'::p')=o+a*z+B9 p' by simp only[B9,Stp.off];omega]
  exact this
 exact UR H hq hm hr hf hp
theorem US(H:Wd X0 X h lv nm w0 w){c:V}{p:List Stp}{b a n:Nat}(M4:c.okp p=true)(hm:c.mem=true)(hr:rep X c lv nm cs)(hf:FzAt (X.lend w).G b o cs)(hp:∀x∈p,x.ok)(q3:n<=cap)(q4:cap<=maxLen):rep (X.lend w) (yC a n (c.get p)) [] 2 [.slice (some ⟨b,o+B9 p+a,none⟩) n cap]:=by
 have uk:rep (X.lend w) (.uk 1) [] 2 [.slice (some ⟨b,o+B9 p+a,none⟩) n cap]:=⟨rfl,fun x hx=>by rw[O8.1 hx];rfl⟩
 obtain⟨r1,r2,r3⟩:=dS (Q1 H) H.c2 M4 hp hm hr
 cases hc:c.get p<;>rw[hc]at r3<;>try exact uk
 rename_i m l
 simp only[yC]
 cases hz:Nat.ble (a+n) m
 ·exact uk
 rw[i6]at hz
 simp only[cond_true]
 obtain⟨l1,l2⟩:=r3
 subst l1
 have hll:((l.drop a).take n).length=n:=by simp;omega
 refine⟨_,cap,by rw[hll],by rw[hll];exact q3,q4,zO,zO,.inr ⟨b,o+B9 p+a,rfl,?_,fun ht=>by simp at ht⟩⟩
 have h3:=fF hf (B9 p) (V.bs l.length l).sz
 rw[l2]at h3
 have h4:=fF h3 a n
 rw[<-List.map_drop, <-vC]at h4
 exact h4
theorem Oh(H:Wd X0 X h lv nm w0 w){c:V}{p:List Stp}{b a n:Nat}(hm:c.mem=true)(hr:rep X c lv nm cs)(hf:FzAt (X.lend w).G b o cs)(hp:∀x∈p,x.ok)(q3:n<=cap)(q4:cap<=maxLen):rep (X.lend w) (BN c p a n) [] 2 [.slice (some ⟨b,o+B9 p+a,none⟩) n cap]:=by
 have uk:rep (X.lend w) (.uk 1) [] 2 [.slice (some ⟨b,o+B9 p+a,none⟩) n cap]:=⟨rfl,fun x hx=>by rw[O8.1 hx];rfl⟩
 unfold BN
 split
 ·rename_i z y i v a' z' n' p'
  cases hz:beq z z'
  ·exact uk
  cases ha:beq a' i
  ·exact uk
  cases hk:v.okp p'
  ·exact uk
  have e1:=A5 hz
  have e2:=A5 ha
  subst e1 e2
  simp only[cond_true]
  obtain⟨k1,_,k4⟩:=hr
  simp only[V.mem,A9]at hm
  have:=US (a:=a) (n:=n) (o:=o+a'*z) (p:=p') H hk hm.1.2 k4 (fF hf _ _) (fun x hx=>hp x (R5 _ hx)) q3 q4
  rw[show o+B9 (Stp.e a' z n'::p')=o+a'*z+B9 p' by simp only[B9,Stp.off];omega]
  exact this
 cases hk:c.okp p
 ·exact uk
 exact US H hk hm hr hf hp q3 q4
theorem Oi{c:V}{p:List Stp}{a n:Nat}:(BN c p a n).one1=true:=by
 have e:∀c,(yC a n c).one1=true:=fun c=>by
  cases c<;>try rfl
  simp only[yC]
  cases Nat.ble (a+n) _<;>rfl
 unfold BN
 split
 ·rename_i z y i v a' z' n' p'
  cases beq z z'
  ·rfl
  cases beq a' i
  ·rfl
  cases v.okp p'
  ·rfl
  exact e _
 cases c.okp p
 ·rfl
 exact e _
theorem Oj{q:V->V}{c:V}{p:List Stp}:(BM q c p).one1=true:=by
 have e:∀c p,(yD q c p).one1=true:=fun c p=>by unfold yD;cases (c.okp p&&blt 0 (c.get p).sz)<;>rfl
 unfold BM
 split
 ·rename_i z y i v a z' n' p'
  cases beq z z'
  ·rfl
  cases beq a i
  ·rfl
  exact e _ _
 exact e _ _
theorem qA{q:V->V}(H:Wd X0 X h lv nm w0 w)(hq:∀v cs,rep X v lv nm cs->rep (X.lend w) (q v) [] 2 cs):∀{v:V} {cs:List Value},rep X v lv nm cs->rep (X.lend w) (v.bw q h) [] 2 cs:=by
 intro v
 have hf:∀b i x,X.G b i=.fz x->(X.lend w).G b i=.fz x:=GJ
 have h1:∀{v:V} {x:Value},v.one1=true->rep X v lv nm [x]->rep (X.lend w) (.uk 1) [] 2 [x]:=fun {v x} hv hr=>GC hv hr
 induction v with
|bl t l=>intro cs hr;exact SlR.lo (fun b o=>FzAt.mono hf) hr
|sl t z n g ih=>
  intro cs hr
  exact⟨hr.1,SlR.lo (fun b o hw i hi=>by
   obtain⟨es,r1,r2,r3,r4⟩:=hw i hi
   exact⟨es,rep.nest hf r1,r2,r3,r4.mono hf⟩) hr.2⟩
|lb l=>
  rintro cs ⟨_,a,cap,h1,h2,h3,h4,h5,h6⟩
  exact⟨a,cap,h1,h2,h3,zO,h5,h6.imp id fun⟨b,o,q1,q2,_⟩=>⟨b,o,q1,q2.2.2.mono hf,fun ht=>by simp at ht⟩⟩
|mp b n t=>intro cs hr;obtain⟨rfl,_⟩:=hr;exact⟨rfl,fun x hx=>by simp at hx;subst hx;cases n<;>rfl⟩
|st n g ih=>intro cs hr;exact d7 hr fun k cs hk hr=>by rw[jH hk];exact ih k hr
|ar z n g ih=>intro cs hr;exact⟨hr.1,fun k hk=>⟨rep.nest hf (hr.2 k hk).1,(hr.2 k hk).2⟩⟩
|pz v ih=>rintro cs ⟨b,o,es,q1,q2,q3,q4⟩;exact⟨b,o,es,q1,rep.nest hf q2,q3,q4.mono hf⟩
|fn f n g ih=>rintro cs ⟨vs,q1,q2,q3⟩;exact⟨vs,q1,q2,fun k hk=>by obtain⟨x,s1,s2⟩:=q3 k hk;exact⟨x,s1,by rw[jH hk];exact ih k s2⟩⟩
|fo z y m v ihy Q6=>
  rintro cs ⟨k1,⟨es,k2,k3⟩,k4⟩
  have r3:=ihy k3
  have r4:=Q6 k4
  simp only[V.bw]
  have fb:rep (X.lend w) (.fo z (y.bw q h) m (v.bw q h)) [] 2 cs:=⟨k1,⟨es,k2,r3⟩,r4⟩
  cases hy:y.bw q h<;>rw[hy]at r3 fb<;>try exact fb
  rename_i z' n g
  simp only[tZ]
  cases hb:(beq z z'&&blt m n&&(v.bw q h).mem)
  ·exact fb
  simp only[A9,A8]at hb
  have:=A5 hb.1.1
  subst this
  simp only[cond_true]
  obtain⟨l1,l2⟩:=r3
  rw[o9 zO]at l1
  refine⟨l1,fun k hk=>?_⟩
  cases he:beq k m
  ·have D5:k≠m:=fun e=>by subst e;rw[P6]at he;cases he
   have:=l2 k hk
   rw[BL k1 k2 D5]at this
   show rep _ (bif _ then _ else _) _ _ _/\(bif _ then _ else _:V).mem=true
   rw[he]
   exact this
  have:=A5 he
  subst this
  show rep _ (bif _ then _ else _) _ _ _/\(bif _ then _ else _:V).mem=true
  rw[he]
  exact⟨r4,hb.2⟩
|os r z=>
  intro cs hr
  have aR:=hr
  obtain⟨e1,e2,b,n,e3,e4,_⟩:=hr
  obtain⟨a,cap,rfl,p2,p3,p4,p5,p6⟩:=e4
  simp only[V.bw]
  cases hm:(H7 h r 0).mem
  ·exact h1 rfl aR
  obtain⟨cs',g1,g2,g3⟩:=MG H e3 hm
  have g4:=hq _ _ g1
  simp only[cond_true]
  cases hc:q (H7 h r 0)<;>rw[hc]at g4<;>try exact h1 rfl aR
  ·rename_i n' g
   simp only[dY]
   cases hz:(beq z 1&&V.mem.all n' fun k=>cP g n' k k&&beq (g k).sz 1)
   ·exact h1 rfl aR
   rw[A9]at hz
   obtain⟨z1,z2⟩:=hz
   have:=A5 z1
   subst this
   simp only[cond_true]
   have zk:∀k,k<n'->cP g n' k k=true/\(g k).sz=1:=fun k hk=>by
    have:=x5 z2 k hk
    rw[A9]at this
    exact⟨this.1,A5 this.2⟩
   have mm:(V.st n' g).mem=true:=EZ fun k hk=>(pH (zk k hk).1).2.2 k hk
   have hsum:∀k,k<=n'->V.sz.sum k (fun k=>(g k).sz)=k:=fun k=>by
    induction k with
   |zero=>intro _;rfl
   |succ k ih=>intro hk;simp only[V.sz.sum];rw[ih zO,(zk k zO).2]
   have D7:=X3 mm g4
   have hn:n'=n:=by
    have:(V.st n' g).sz=n':=hsum n' (B2 _)
    omega
   subst hn
   refine⟨zO,a,cap,rfl,p2,p3,zO,zO,p6.imp (fun⟨_,q⟩=>⟨.inr rfl,q⟩) ?_⟩
   rintro⟨b2,o2,s1,s2,s3⟩
   refine⟨b2,o2,s1,fun i hi=>?_,fun ht=>by simp at ht⟩
   obtain⟨rfl,rfl⟩:=s2 zO
   obtain⟨r1,r2,r3⟩:=dS (p:=[.f i i]) (v:=.st n' g) (fun t ht=>by simp at ht) (B2 2) (by simp only[V.okp,(zk i hi).1,Bool.and_self]) (fun x hx=>by rw[O8.1 hx];trivial) mm g4
   have hget:V.get (.st n' g) [.f i i]=g i:=by simp only[V.get]
   rw[hget]at r1 r2 r3
   rw[(zk i hi).2]at r1 r3
   have ho:B9 [Stp.f i i]=i:=rfl
   rw[ho]at r1 r3
   exact⟨_,r3,by rw[F7,K4];omega,r2,by have:=fF g3 i 1;rwa [l5]⟩
  ·rename_i z' n' g
   simp only[dY]
   cases hz:beq z z'
   ·exact h1 rfl aR
   have:=A5 hz
   subst this
   simp only[cond_true]
   obtain⟨l1,l2⟩:=g4
   have:n'=n:=PJ e2 zO
   subst this
   refine⟨e2,a,cap,rfl,p2,p3,zO,zO,p6.imp (fun⟨_,q⟩=>⟨.inr rfl,q⟩) ?_⟩
   rintro⟨b2,o2,s1,s2,s3⟩
   refine⟨b2,o2,s1,fun i hi=>?_,fun ht=>by simp at ht⟩
   obtain⟨rfl,rfl⟩:=s2 zO
   have lX:i*z+z<=n'*z:=by rw[<-G7];exact G2 _ hi
   exact⟨_,(l2 i hi).1,by simp;omega,(l2 i hi).2,fF g3 _ _⟩
  rename_i m l
  simp only[dY]
  cases hz:beq z 1
  ·exact h1 rfl aR
  have:=A5 hz
  subst this
  simp only[cond_true]
  obtain⟨l1,l2⟩:=g4
  have:n=l.length:=by rw[l2,J7]at g2;omega
  subst this
  refine⟨a,cap,rfl,p2,p3,zO,zO,p6.imp (fun⟨_,q⟩=>⟨.inr rfl,q⟩) ?_⟩
  rintro⟨b2,o2,s1,s2,s3⟩
  refine⟨b2,o2,s1,fun k x hk=>?_,fun ht=>by simp at ht⟩
  have hlt:=(N1.1 hk).1
  rw[J7]at hlt
  obtain⟨rfl,rfl⟩:=s2 zO
  exact g3 k x (by rw[l2];exact hk)
|pr r j p=>
  intro cs hr
  have aR:=hr
  obtain⟨⟨e1,e2⟩,b,o0,N,e3,rfl,e4⟩:=hr
  simp only[V.bw]
  cases hb:(beq j 0&&(H7 h r 0).mem)
  ·exact h1 rfl aR
  simp only[A9]at hb
  obtain⟨b1,b2⟩:=hb
  have:=A5 b1
  subst this
  obtain⟨cs',g1,g2,g3⟩:=MG H e3 b2
  exact Og H hq b2 g1 g3 e4
|vw r p a n=>
  intro cs hr
  have aR:=hr
  obtain⟨⟨e1,e2⟩,e3,b,o,N,cap,q1,rfl,q3,q4⟩:=hr
  simp only[V.bw]
  cases hb:(H7 h r 0).mem
  ·exact h1 rfl aR
  obtain⟨cs',g1,g2,g3⟩:=MG H q1 hb
  exact Oh H hb g1 g3 e3 q3 q4
|tu|ro=>intro cs hr;exact hr.elim
|_=>intro cs hr;exact hr
theorem Ok{q:V->V}(H:Wd X0 X h lv nm w0 w)(hq:∀v cs,rep X v lv nm cs->rep (X.lend w) (q v) [] 2 cs):∀{v:V} {x:Value},repv X lv nm v x->repv (X.lend w) [] 2 (v.bwt q h) x:=by
 intro v
 have cell:∀{v:V} {x:Value},v.one1=true->rep (X.lend w) v [] 2 [x]->repv (X.lend w) [] 2 v x:=fun {v x} h1 hr=>by cases v<;>first|exact hr|cases h1
 induction v with
|tu n g ih=>rintro x ⟨C,h1,h2,h3⟩;exact⟨C,h1,h2,fun k hk=>by obtain⟨y,q1,q2⟩:=h3 k hk;exact⟨y,q1,ih k q2⟩⟩
|st|ar|bs=>rintro x ⟨C,h1,h2⟩;exact⟨C,h1,qA H hq h2⟩
|un=>intro _ _;trivial
|os r z=>
  intro x hr
  refine cell ?_ (qA (v:=.os r z) H hq hr)
  simp only[V.bwt,V.bw]
  cases (H7 h r 0).mem
  ·rfl
  simp only[cond_true]
  cases q (H7 h r 0)<;>try rfl
  ·rename_i n g;simp only[dY];cases (beq z 1&&V.mem.all n fun k=>cP g n k k&&beq (g k).sz 1)<;>rfl
  ·simp only[dY];cases beq z _<;>rfl
  simp only[dY];cases beq z 1<;>rfl
|pr r j p=>
  intro x hr
  refine cell ?_ (qA (v:=.pr r j p) H hq hr)
  simp only[V.bwt,V.bw]
  cases (beq j 0&&(H7 h r 0).mem)
  ·rfl
  exact Oj
|vw r p a n=>
  intro x hr
  refine cell ?_ (qA (v:=.vw r p a n) H hq hr)
  simp only[V.bwt,V.bw]
  cases (H7 h r 0).mem
  ·rfl
  exact Oi
|fo z y m v=>intro _ _;trivial
|mp b n t=>intro x hr;exact qA (v:=.mp b n t) (cs:=[x]) H hq hr
|_=>intro x hr;exact qA (v:=_) (cs:=[x]) H hq hr
theorem UT(H:Wd X0 X h lv nm w0 w):∀(F:Nat) (v:V) (cs:List Value),rep X v lv nm cs->rep (X.lend w) (v.brw F h) [] 2 cs
|0,_,_,hr=>qA (q:=fun _=>.un) H (fun _ _ _=>trivial) hr
|F+1,_,_,hr=>qA H (UT H F) hr
theorem Ol(H:Wd X0 X h lv nm w0 w){v:V}(hr:repv X lv nm v x):repv (X.lend w) [] 16 (v.lent h) x:=
 FF ((Ok H (UT H 6) hr).mono (Cx.le.rfl' _ _ _) zO)
def V.Flo:V->Prop
|.st n g|.tu n g|.ar _ n g=>∀k,k<n->(g k).Flo
|.bl _ l=>l=[]
|.sl _ _ n _=>n=0
|.fn _ _ _|.pz _|.fo _ _ _ _|.vw _ _ _ _|.lb _|.ro _|.mp _ _ _=>False
|_=>True
def V.flo:V->Bool
|.st n g|.tu n g=>V.mem.all n fun k=>(g k).flo
|.bl _ l=>l.isEmpty
|.sl _ _ n _|.ar _ n _=>beq n 0
|.fn _ _ _|.pz _|.fo _ _ _ _|.vw _ _ _ _|.lb _|.ro _|.mp _ _ _=>false
|_=>true
theorem UU:∀{v:V},v.flo=true->v.Flo:=by
 intro v
 induction v with
|st n g ih=>intro h k hk;exact ih k (x5 h k hk)
|tu n g ih=>intro h k hk;exact ih k (x5 h k hk)
|ar z n g ih=>intro h k hk;have:=A5 h;omega
|bl t l=>intro h;show l=[];simpa [V.flo] using h
|sl t z n g=>intro h;exact A5 h
|fn|pz|fo|vw|lb|ro|mp=>intro h;cases h
|_=>intro _;trivial
def Cx.backB(X:Cx)(w:World)(X':Cx)(nm:Nat):Cx:=⟨fun b i=>match X.G b i with
|.no=>if b<w.heap.size then .no else (match X'.G b i with|.rt r j k=>.rt (nm+r) j k|_=>.no)
|g=>g,fun r j=>bif blt r nm then X.ρ r j else bif blt 1 (r-nm) then X'.ρ (r-nm) j else none,X.Φ,X.κ,X.ν,X.wr⟩
theorem mX{b:Nat}(hb:b<w.heap.size\/X.G b i≠ .no):(X.backB w X' nm).G b i=X.G b i:=by
 simp only[Cx.backB]
 cases hg:X.G b i with
|no=>rcases hb with hb|hb;rw[if_pos hb];exact absurd hg hb
|_=>rfl
theorem BO{b:Nat}(hb:¬ b<w.heap.size)(hg:X.G b i=.no):(X.backB w X' nm).G b i=(match X'.G b i with|.rt r j k=>.rt (nm+r) j k|_=>.no):=by
 simp only[Cx.backB,hg,if_neg hb]
theorem MH:X.le (X.backB w X' nm) lv lv nm:=by
 refine⟨fun b i x hx=>by rw[mX (.inr (by rw[hx];simp))];exact hx,fun b i t _ _ hx=>by rw[mX (.inr (by rw[hx];simp))];exact hx,fun t ht _=>ht,fun r j p _ hlt h=>?_,rfl⟩
 simp only[Cx.backB];rw[show blt r nm=true by rw[A8];exact hlt];exact h
theorem UV{X'':Cx}:∀{v:V} {cs:List Value},v.Flo->rep X' v [] 2 cs->rep X'' v [] 2 cs:=by
 intro v
 induction v with
|st n g ih=>intro cs hf h;exact d7 h fun k cs hk hr=>ih k (hf k hk) hr
|ar z n g ih=>intro cs hf h;exact⟨h.1,fun k hk=>⟨ih k (hf k hk) (h.2 k hk).1,(h.2 k hk).2⟩⟩
|bl t l=>
  rintro cs rfl ⟨a,cap,h1,h2,h3,h4,h5,h6⟩
  exact⟨a,cap,h1,h2,h3,h4,h5,h6.imp id fun⟨b,o,q1,_,_⟩=>⟨b,o,q1,fun k x hk=>by simp at hk,fun ht=>by simp at ht⟩⟩
|sl t z n g ih=>
  rintro cs hf ⟨h0,a,cap,h1,h2,h3,h4,h5,h6⟩
  have:n=0:=hf
  subst this
  exact⟨h0,a,cap,h1,h2,h3,h4,h5,h6.imp id fun⟨b,o,q1,_,_⟩=>⟨b,o,q1,fun i hi=>by omega,fun ht=>by simp at ht⟩⟩
|os r z=>rintro cs _ ⟨h1,_,_,_,_,⟨_,_,_,_,_,h4,_⟩,_⟩;omega
|pr r j p=>intro cs _ h;exact absurd h.1 zO
|fn|pz|fo|vw|lb|ro|mp=>intro cs hf;exact hf.elim
|tu=>intro cs _ h;exact h.elim
|_=>intro cs _ h;exact h
theorem yE(H:Wd X0 X h lv nm w0 w)(hρ:∀r p,2<=r->X'.ρ r 0=some p->(X.backB w X' nm).ρ (nm+r) 0=some p):∀{v:V} {cs:List Value},v.Flo->rep X' v A0 64 cs->rep (X.backB w X' nm) (v.rn (fB nm) (fB nm)) lv (nm+64) cs:=by
 have W4:=H.c2
 have fbc:∀t,t<64->fB nm t<nm+64:=fun t ht=>by
  unfold fB
  cases hb:blt t 2
  ·simp only[cond_false];omega
  rw[A8]at hb;simp only[cond_true];omega
 have fb1:∀t,fB nm t=1->t=1:=fun t h1=>by
  unfold fB at h1
  cases hb:blt t 2<;>rw[hb]at h1
  ·simp only[cond_false]at h1;omega
  exact h1
 have fbl:∀t,¬ fB nm t∈lv:=fun t hm=>by
  have h1:=H.lvc _ hm
  unfold fB at h1
  cases hb:blt t 2<;>rw[hb]at h1
  ·simp only[cond_false]at h1;omega
  rw[A8]at hb;simp only[cond_true]at h1;omega
 intro v
 induction v with
|st n g ih=>
  intro cs hf hr
  simp only[V.rn]
  cases hb:V.mem.all n (fun k=>(g k).nml 2)
  ·exact d7 hr fun k cs hk hr=>by rw[jH hk];exact ih k (hf k hk) hr
  refine d7 hr fun k cs hk hr=>?_
  have h1:=ih k (hf k hk) hr
  have h2:(g k).nml 2=true:=x5 hb k hk
  have dB:∀{v:V},v.nml 2=true->v.Flo->∀{cs:List Value},rep X' v A0 64 cs->rep (X.backB w X' nm) v lv (nm+64) cs:=by
   intro v
   induction v with
  |st n g ih=>intro hn hf cs hr;exact d7 hr fun k cs hk hr=>ih k (x5 hn k hk) (hf k hk) hr
  |ar z n g ih=>intro hn hf cs hr;exact⟨hr.1,fun k hk=>⟨UV (hf k hk) (hr.2 k hk).1,(hr.2 k hk).2⟩⟩
  |bl t l=>
    rintro hn rfl cs ⟨a,cap,h1,h2,h3,h4,h5,h6⟩
    simp only[V.nml,A8]at hn
    exact⟨a,cap,h1,h2,h3,zO,h5,h6.imp id fun⟨b,o,q1,_,_⟩=>⟨b,o,q1,fun k x hk=>by simp at hk,fun ht=>by have:=H.lvc t ht;omega⟩⟩
  |sl t z n g=>
    rintro hn hf cs ⟨h0,a,cap,h1,h2,h3,h4,h5,h6⟩
    have:n=0:=hf
    subst this
    simp only[V.nml,A8]at hn
    exact⟨h0,a,cap,h1,h2,h3,zO,h5,h6.imp id fun⟨b,o,q1,_,_⟩=>⟨b,o,q1,fun i hi=>by omega,fun ht=>by have:=H.lvc t ht;omega⟩⟩
  |os r z=>intro hn _ cs hr;simp only[V.nml,A8]at hn;have:=hr.1;omega
  |pr r j p=>intro hn _ cs hr;simp only[V.nml,A8]at hn;have:=hr.1;omega
  |fn|pz|fo|vw|lb|ro|mp=>intro _ hf;exact hf.elim
  |tu=>intro _ _ cs hr;exact hr.elim
  |_=>intro _ _ cs hr;exact hr
  exact dB h2 (hf k hk) hr
|ar z n g ih=>intro cs hf hr;exact⟨hr.1,fun k hk=>⟨UV (hf k hk) (hr.2 k hk).1,(hr.2 k hk).2⟩⟩
|bl t l=>
  rintro cs rfl ⟨a,cap,h1,h2,h3,h4,h5,h6⟩
  exact⟨a,cap,h1,h2,h3,fbc t h4,fun e=>h5 (fb1 t e),h6.imp (fun⟨e,q⟩=>⟨e.imp id fun e=>by rw[e];rfl,q⟩) fun⟨b,o,q1,_,_⟩=>⟨b,o,q1,fun k x hk=>by simp at hk,fun ht=>absurd ht (fbl t)⟩⟩
|sl t z n g ih=>
  rintro cs hf ⟨h0,a,cap,h1,h2,h3,h4,h5,h6⟩
  have:n=0:=hf
  subst this
  exact⟨h0,a,cap,h1,h2,h3,fbc t h4,fun e=>h5 (fb1 t e),h6.imp (fun⟨e,q⟩=>⟨e.imp id fun e=>by rw[e];rfl,q⟩) fun⟨b,o,q1,_,_⟩=>⟨b,o,q1,fun i hi=>by omega,fun ht=>absurd ht (fbl t)⟩⟩
|pr r j p=>
  rintro cs _ ⟨⟨e1,e2⟩,b,o,N,q1,q2,q3⟩
  simp only[V.rn]
  cases hb:(blt 1 (fB nm r)&&beq j 0)
  ·subst q2;exact⟨rfl,fun x hx=>by simp at hx;subst hx;rfl⟩
  rw[A9,A8]at hb
  have hj:=A5 hb.2
  subst hj
  have:fB nm r=nm+r:=by unfold fB;rw[show blt r 2=false by (cases h:blt r 2;rfl;rw[A8]at h;omega)];rfl
  rw[this]
  exact⟨⟨zO,zO⟩,b,o,N,hρ r _ e1 q1,q2,q3⟩
|os r z=>
  rintro cs _ ⟨e1,e2,b,n,q1,⟨a,cap,p1,p2,p3,p4,p5,p6⟩,q2⟩
  have:fB nm r=nm+r:=by unfold fB;rw[show blt r 2=false by (cases h:blt r 2;rfl;rw[A8]at h;omega)];rfl
  have h1:=fbl r
  simp only[V.rn]
  rw[this,show blt 1 (nm+r)=true by rw[A8];omega]
  rw[this]at h1
  exact⟨zO,e2,b,n,hρ r _ e1 q1,⟨a,cap,p1,p2,p3,zO,fun e=>by omega,p6.imp (fun⟨e,q⟩=>⟨.inl (e.resolve_right zO),q⟩) fun⟨b,o,s1,s2,_⟩=>⟨b,o,s1,s2,fun ht=>absurd ht h1⟩⟩,fun _ ht=>absurd ht h1⟩
|fn|pz|fo|vw|lb|ro|mp=>intro cs hf;exact hf.elim
|tu=>intro cs _ h;exact h.elim
|_=>intro cs _ h;exact h
theorem Om(H:Wd X0 X h lv nm w0 w)(hρ:∀r p,2<=r->X'.ρ r 0=some p->(X.backB w X' nm).ρ (nm+r) 0=some p):∀{v:V} {x:Value},v.Flo->repv X' A0 64 v x->repv (X.backB w X' nm) lv (nm+64) (v.rn (fB nm) (fB nm)) x:=by
 intro v
 induction v with
|tu n g ih=>rintro x hf ⟨C,h1,h2,h3⟩;exact⟨C,h1,h2,fun k hk=>by obtain⟨y,q1,q2⟩:=h3 k hk;exact⟨y,q1,ih k (hf k hk) q2⟩⟩
|st n g ih=>
  rintro x hf ⟨C,h1,h2⟩
  have:=yE H hρ hf h2
  simp only[V.rn]at this ⊢
  cases hb:V.mem.all n (fun k=>(g k).nml 2)<;>rw[hb]at this<;>exact⟨C,h1,this⟩
|ar|bs=>rintro x hf ⟨C,h1,h2⟩;exact⟨C,h1,yE H hρ hf h2⟩
|un=>intro _ _ _;trivial
|pr r j p=>
  intro x hf h
  have:=yE (v:=.pr r j p) H hρ (cs:=[x]) hf h
  simp only[V.rn]at this ⊢
  cases hb:(blt 1 (fB nm r)&&beq j 0)<;>rw[hb]at this<;>exact this
|os r z=>
  intro x hf h
  have:=yE (v:=.os r z) H hρ (cs:=[x]) hf h
  simp only[V.rn]at this ⊢
  cases hb:blt 1 (fB nm r)<;>rw[hb]at this<;>exact this
|fn|pz|fo|vw|lb|ro|mp=>intro x hf;exact hf.elim
|_=>intro x hf h;exact yE (v:=_) H hρ hf h
theorem On{ho:List (Nat×V)}(H:Wd X0 X h lv nm w0 w)(H':Wd (X.lend w) X' (S6 ho) A0 64 w w')(hf:∀r,(lk ho r).Flo):
 (∀r p,2<=r->X'.ρ r 0=some p->(X.backB w X' nm).ρ (nm+r) 0=some p)/\Wd X0 (X.backB w X' nm) (hB h nm ho) lv (nm+64) w0 w'/\Yle (C8 X w) (C8 (X.backB w X' nm) w'):=by
 have same:∀b i,b<w.heap.size->w'.cell? (ad b i)=w.cell? (ad b i)/\w'.frozen? (ad b i)=w.frozen? (ad b i):=fun b i hb=>by
  refine⟨H'.kb.cell hb ?_,BH H'.kb hb⟩
  rintro(⟨r,j,k,hg⟩|⟨t,hg⟩)<;>rcases GK (X:=X) (w:=w) (b:=b) (i:=i) with⟨x,h⟩|h<;>rw[h]at hg<;>cases hg
 have hρ:∀r p,2<=r->X'.ρ r 0=some p->(X.backB w X' nm).ρ (nm+r) 0=some p:=fun r p h2 hr=>by
  show(bif blt (nm+r) nm then X.ρ (nm+r) 0 else bif blt 1 (nm+r-nm) then X'.ρ (nm+r-nm) 0 else none)=some p
  rw[show blt (nm+r) nm=false by (cases h:blt (nm+r) nm;rfl;rw[A8]at h;omega),show nm+r-nm=r by omega,show blt 1 r=true by rw[A8];omega]
  exact hr
 have B1:X.le (X.backB w X' nm) lv lv nm:=MH
 have jL:∀{a b:Nat},blt a b=false->b<=a:=fun {a b} h=>zI fun hl=>by rw[(by rw[A8];exact hl:blt a b=true)]at h;cases h
 have big:∀b i,¬ b<w.heap.size->X.G b i=.no:=fun b i hb=>by
  cases hg:X.G b i with
 |no=>rfl
 |_=>exact absurd (H.ex b i (by rw[hg];simp)) hb
 have own:∀b i r j k,X'.G b i=.rt r j k->¬ b<w.heap.size:=fun b i r j k hx hb=>by
  rcases GK (X:=X) (w:=w) (b:=b) (i:=i) with⟨x,h⟩|h
  ·rw[H'.fz0 b i x h]at hx;cases hx
  rcases H'.no0 b i hb h with h|⟨_,h⟩<;>rw[h]at hx<;>cases hx
 refine⟨hρ,?_,fun b i x hx=>?_⟩
 rotate_left 1
 ·have hb:=H.ex b i (xG hx)
  rw[xF (mX (.inl hb)) (same b i hb).1]
  exact hx
 refine { kb:=tA H.kb H'.kb (fun x i hx hm=>?_) (fun x _ hm=>absurd hm.1 (by simp[Cx.lend])),tape:=H'.tape.trans H.tape,fz0:=fun b i x hx=>B1.fz _ _ _ (H.fz0 b i x hx),no0:=fun b i hb hn=>?_,mp0:=fun b t hb hx=>H.mp0 b t hb (by rw[<-mX (nm:=nm) (X':=X') (.inl (X7 hb H.size))];exact hx),ρ0:=fun r j p hp=>(by simp only[Cx.backB];rw[show blt r nm=true by rw[A8];exact H.ρc _ _ _ (H.ρ0 r j p hp)];exact H.ρ0 r j p hp),ex:=fun b i hn=>?_,fz:=fun b i x hx=>?_,tp:=fun b i t hx=>?_,rt:=fun r j b o N hr=>?_,c2:=by have:=H.c2;omega,lvc:=fun t ht=>?_,ρc:=fun r j p hp=>?_,inv:=H.inv' B1,imo:=H.imo,νe:=H.νe,gz:=H.gz,we:=H.we,ν0:=H.ν0,νs:=J2 H.νs H'.size,nf:=fun b hb ⟨i,hi⟩ C T fr he=>(by
 by_cases hlt:b<w.heap.size
 ·obtain⟨C0,e1,e2⟩:=MB H'.kb hlt he
  rw[<-e2];exact H.nf b hb ⟨i,by rw[<-mX (nm:=nm) (X':=X') (.inl hlt)];exact hi⟩ C0 T fr e1
 ·refine H'.nf b (by simp only[Cx.lend];omega) ⟨i,fun e=>hi ?_⟩ C T fr he
  rw[BO hlt (big b i hlt),e]),κc:=by have:=H.κc;omega}
 ·exfalso
  rcases hm with⟨r,j,k,hg⟩|⟨t,hg⟩<;>rcases GK (X:=X) (w:=w) (b:=x) (i:=i) with⟨y,h⟩|h<;>rw[h]at hg<;>cases hg
 ·have:b<w.heap.size:=X7 hb H.size
  rw[mX (.inl this)];exact H.no0 b i hb hn
 ·by_cases hb:b<w.heap.size
  ·exact X7 hb H'.size
  rw[BO hb (big b i hb)]at hn
  refine H'.ex b i fun e=>hn ?_
  rw[e]
 ·by_cases hb:b<w.heap.size
  ·rw[mX (.inl hb)]at hx;exact(H.fz b i x hx).move B1.fz (same b i hb).1 fun _ _ hm=>Mx H'.kb (fun hw=>by simp[EW,Cx.lend]at hw) hm
  rw[BO hb (big b i hb)]at hx;cases hg:X'.G b i<;>rw[hg]at hx<;>cases hx
 ·by_cases hb:b<w.heap.size
  ·rw[mX (.inl hb)]at hx;rw[(same b i hb).1,(same b i hb).2];exact H.tp b i t hx
  rw[BO hb (big b i hb)]at hx;cases hg:X'.G b i<;>rw[hg]at hx<;>cases hx
 ·simp only[Cx.backB]at hr
  cases hb:blt r nm
  ·rw[hb]at hr
   simp only[cond_false]at hr
   obtain⟨h1,h2⟩:=M7 hr (by simp)
   rw[A8]at h1
   have U6:=jL hb
   have hR:=H'.rt (r-nm) j b o N h2
   have hL:∀cs,R4 X' w' (r-nm) j b o cs->R4 (X.backB w X' nm) w' r j b o cs:=fun cs hL k x hk=>by
    obtain⟨q1,q2,q3⟩:=hL k x hk
    have hn:=own _ _ _ _ _ q1
    refine⟨?_,q2,q3⟩
    rw[BO hn (big _ _ hn),q1]
    simp only
    rw[show nm+(r-nm)=r by omega]
   unfold hB
   rw[hb]
   simp only[cond_false]
   cases j with
  |succ j=>trivial
  |zero=>
    have dG:=hf (r-nm)
    show RtR _ _ _ _ _ _ _ _ _ ((lk ho (r-nm)).rn _ _)
    change RtR _ _ _ _ _ _ _ _ _ (lk ho (r-nm)) at hR
    cases hv:lk ho (r-nm)<;>rw[hv]at hR dG
    case un=>trivial
    case ro=>exact dG.elim
    case tu=>obtain⟨cs,h1,_⟩:=hR;exact h1.elim
    all_goals
     obtain⟨cs,g1,g2,g3,g4⟩:=hR
     exact dU ((mU (f:=fB nm) (g':=fB nm) _).1.trans g2) (yE H hρ dG g1) g3 (hL cs g4)
  rw[hb]at hr
  simp only[cond_true]at hr
  unfold hB
  rw[hb]
  refine(H.rt r j b o N hr).mono B1 zO fun _ cs _ hL _ k x hk=>?_
  obtain⟨q1,q2,q3⟩:=hL k x hk
  have I2:=H.ex b _ (by rw[q1];simp)
  obtain⟨s1,s2⟩:=same b (o+k) I2
  exact⟨by rw[mX (.inl I2)];exact q1,by rw[s1];exact q2,q3.to fun j=>(same b j I2).2⟩
 ·have:=H.lvc t ht;omega
 simp only[Cx.backB]at hp
 cases hb:blt r nm
 ·rw[hb]at hp
  simp only[cond_false]at hp
  obtain⟨h1,h2⟩:=M7 hp (by simp)
  have:=H'.ρc _ _ _ h2;omega
 rw[A8]at hb;omega
theorem Oo{k:List K}{s:T}(hQ:mS Q){f:FuncId}{l ins:List V}{d:Option Tmp}{nm:Nat}{A:Cf}(e:go P N k s=.call f l d nm A)(hl:(l.map (V.lent A.s.h),beq (C1 A.s A.k) (nm+64))=(ins,true))(hs:mW P f ins [] R)
  (h:∀out ho A0,R out ho A0->(out.Flo/\∀r,(lk ho r).Flo)/\Run P X0 w0 Q ⟨A.k,{ A.s with h:=hB A.s.h nm ho }.put d (out.nu nm)⟩):Run P X0 w0 Q ⟨k,s⟩:=by
 refine M8 hQ N k s ?_
 rw[e]
 intro X τ w vs hF H D7 oF hd
 simp only[G6]at hl
 obtain⟨rfl,hk⟩:=hl
 have hk:=A5 hk
 have hret:=hs (X.lend w) w vs (by simpa using D7) (fun i v x hv hx=>by
  rw[Y6]at hv
  obtain⟨v0,z8,rfl⟩:=eL.1 hv
  exact Ol H (oF i v0 x z8 hx)) ⟨fun _ _=>rfl,rfl,fun _ _ _ _=>trivial⟩ (Od H) fun e=>by cases e
 refine hret.mono fun v w' ⟨X',ho,A0,out,q1,q2,q3⟩=>?_
 obtain⟨⟨f1,f2⟩,I1⟩:=h out ho A0 q1
 obtain⟨c1,c2,c4⟩:=On H q3 f2
 refine xU (mR c2 (MH (lv:=A.s.lv)).fz fun _=>c4) (I1 _ _ _ ?_);have:=jK (s:={ A.s with h:=hB A.s.h nm ho }) (hF.mono (MH (lv:=A.s.lv)) (by omega:nm<=nm+64)) c2 (d:=d) (fun d' e=>by subst e;exact hd) (Om H c1 f1 q2) A.s.c
 have O9:C1 ({ A.s with h:=hB A.s.h nm ho }.put d (out.nu nm)) A.k=nm+64:=by
  rw[<-hk];cases d<;>rfl
 rw[O9]
 exact this
def GL(e:Ev)(out:V)(ho:List (Nat×V)):Cf:=⟨e.a.k,{ e.a.s with h:=hB e.a.s.h e.nm ho }.put e.d (out.nu e.nm)⟩
theorem UW{f:FuncId}{ins:List V}(hs:mW P f ins [] R)(e:((nx P cf).tag,(nx P cf).f,(nx P cf).l.map (V.lent (nx P cf).a.s.h),beq (C1 (nx P cf).a.s (nx P cf).a.k) ((nx P cf).nm+64))=(3,f,ins,true))
  (h:∀out ho A0,R out ho A0->(out.Flo/\∀r,(lk ho r).Flo)/\Wk P X0 w0 Q (GL (nx P cf) out ho)):Wk P X0 w0 Q cf:=by
 cases hn:nx P cf<;>rw[hn]at e h<;>simp only[Ev.tag,G6,reduceCtorEq,Nat.reduceEqDiff,false_and]at e
 rename_i f' l d nm A
 obtain⟨_,rfl,e2,e3⟩:=e
 exact⟨fun hQ=>Oo hQ (N:=1000) hn (Prod.ext e2 e3) hs fun out ho A0 q=>⟨(h out ho A0 q).1,(h out ho A0 q).2.run hQ⟩⟩
theorem S0{f:FuncId}{ins:List V}{R:V->List Nat->Prop}(hs:Sat P f ins [] R)(h:∀out A0,R out A0->out.flo=true/\Wk P X0 w0 Q (GL (nx P cf) out []))
  (e:((nx P cf).tag,(nx P cf).f,(nx P cf).l.map (V.lent (nx P cf).a.s.h),beq (C1 (nx P cf).a.s (nx P cf).a.k) ((nx P cf).nm+64))=(3,f,ins,true):=by kernel_rfl):Wk P X0 w0 Q cf:=
 UW hs e fun out ho A0 q=>by obtain⟨rfl,q⟩:=q;exact⟨⟨UU (h out A0 q).1,fun _=>trivial⟩,(h out A0 q).2⟩
theorem kW{f:FuncId}{ins:List V}{v:V}(hs:Sat P f ins [] fun out A0=>A0=[]/\out=v)(h:Wk P X0 w0 Q (GL (nx P cf) v []))(hf:v.flo=true:=by exact rfl)
  (e:((nx P cf).tag,(nx P cf).f,(nx P cf).l.map (V.lent (nx P cf).a.s.h),beq (C1 (nx P cf).a.s (nx P cf).a.k) ((nx P cf).nm+64))=(3,f,ins,true):=by kernel_rfl):Wk P X0 w0 Q cf:=S0 hs (fun out A0 ⟨h1,h2⟩=>by subst h1;subst h2;exact⟨hf,h⟩) e
end
def Cx.ent(X:Cx)(lvi:List Nat):Cx:=⟨X.G,fun _ _=>none,fun G ρ lv=>(∀r p,2<=r->r<16->X.ρ r 0=some p->ρ r 0=some p)/\∀t,t∈lv->t<16->t∈lvi/\∀b i,X.G b i=.tp t->G b i=.tp t,16,X.ν,X.wr⟩
def SatHM(P:Program)(m:Bool)(f:FuncId)(ins:List V)(lvi:List Nat)(hi:List (Nat×V))(R:V->List (Nat×V)->List Nat->Prop):Prop:=
 ∀(X:Cx) (w:World) (vs:List Value),vs.length=ins.length->(∀(i:Nat) v x,ins[i]? =some v->vs[i]? =some x->repv X lvi 16 v x)->Wd (X.ent lvi) X (S6 hi) lvi 16 w w->(m=true->X.wr=true)->
  Ret P f vs w fun v w'=>∃X' ho A0 out,R out ho A0/\repv X' A0 64 out v/\Wd (X.ent lvi) X' (S6 ho) A0 64 w w'
abbrev UX(P:Program)(f:FuncId)(ins:List V)(lvi:List Nat)(hi:List (Nat×V))(R:V->List (Nat×V)->List Nat->Prop):Prop:=SatHM P false f ins lvi hi R
theorem SatHM.mono{m:Bool}{f:FuncId}{ins:List V}{lvi:List Nat}{hi:List (Nat×V)}{R':V->List (Nat×V)->List Nat->Prop}(h:SatHM P m f ins lvi hi R)(hr:∀v h l,R v h l->R' v h l):SatHM P m f ins lvi hi R':=fun X w vs a b c q=>
 (h X w vs a b c q).mono fun _ _ ⟨X',ho,A0,out,q1,q2⟩=>⟨X',ho,A0,out,hr _ _ _ q1,q2⟩
def MI(ins:List V)(lvi:List Nat)(hi:List (Nat×V))(n:Nat):T:=⟨fun t=>ins.getD t .un,S6 hi,lvi,16,n⟩
theorem GM:∀(ren:List (Nat×Nat)) (t:Nat),(∃q∈ren,q.1=t/\D2 ren t=q.2)\/((∀q∈ren,q.1≠t)/\D2 ren t=bif blt t 2 then t else 0)
|[],t=>.inr ⟨fun q hq=>by simp at hq,rfl⟩
|(a,b)::l,t=>by
  simp only[D2]
  cases hb:beq t a
  ·simp only[cond_false]
   rcases GM l t with⟨q,q1,q2,q3⟩|⟨h1,h2⟩
   ·exact .inl ⟨q,R5 _ q1,q2,q3⟩
   refine .inr ⟨fun q hq=>?_,h2⟩
   rcases K8.1 hq with rfl|hq
   ·intro e;simp only at e;subst e;rw[P6]at hb;cases hb
   exact h1 q hq
  exact .inl ⟨(a,b),X9 ..,(A5 hb).symm,rfl⟩
theorem MJ:∀(ren:List (Nat×Nat)) (t:Nat),(∃q∈ren,q.2=t/\M9 ren t=q.1)\/((∀q∈ren,q.2≠t)/\M9 ren t=0)
|[],t=>.inr ⟨fun q hq=>by simp at hq,rfl⟩
|(a,b)::l,t=>by
  simp only[M9]
  cases hb:beq t b
  ·simp only[cond_false]
   rcases MJ l t with⟨q,q1,q2,q3⟩|⟨h1,h2⟩
   ·exact .inl ⟨q,R5 _ q1,q2,q3⟩
   refine .inr ⟨fun q hq=>?_,h2⟩
   rcases K8.1 hq with rfl|hq
   ·intro e;simp only at e;subst e;rw[P6]at hb;cases hb
   exact h1 q hq
  exact .inl ⟨(a,b),X9 ..,(A5 hb).symm,rfl⟩
def uA(nm:Nat)(ren:List (Nat×Nat))(rr:List Nat):Bool:=ren.all (fun q=>blt 1 q.1&&blt q.1 nm&&blt 1 q.2&&blt q.2 16&&beq (D2 ren q.1) q.2&&beq (M9 ren q.2) q.1)&&rr.all fun r=>ren.any fun q=>beq q.1 r
def X5(lv:List Nat)(ren:List (Nat×Nat)):List Nat:=(ren.filter fun q=>lv.elem q.1).map (·.2)
def gH(ren:List (Nat×Nat))(rr:List Nat)(r:Nat):Nat:=bif rr.elem r then D2 ren r else 0
def qC(h:Nat->Nat->V)(ren:List (Nat×Nat))(rr:List Nat):List (Nat×V):=rr.map fun r=>(D2 ren r,(h r 0).rn (D2 ren) (gH ren rr))
def M1(nm:Nat)(ren:List (Nat×Nat))(t:Nat):Nat:=bif blt t 2 then t else bif blt t 16 then M9 ren t else nm+t
def gU(nm:Nat)(ren:List (Nat×Nat))(rr:List Nat)(t:Nat):Nat:=bif blt t 16 && !rr.elem (M9 ren t) then 0 else M1 nm ren t
def fI(lv:List Nat)(nm:Nat)(ren:List (Nat×Nat))(A0:List Nat):List Nat:=lv.filter (fun t=> !(ren.map (·.1)).elem t)++A0.map (M1 nm ren)
def yF(h:Nat->Nat->V)(nm:Nat)(ren:List (Nat×Nat))(rr:List Nat)(ho:List (Nat×V)):Nat->Nat->V:=fun r j=>
 bif blt r nm then bif rr.elem r&&beq j 0 then (lk ho (D2 ren r)).rn (M1 nm ren) (gU nm ren rr) else h r j
 else (S6 ho (r-nm) j).rn (M1 nm ren) (gU nm ren rr)
def Cx.passH(X:Cx)(w:World)(lv:List Nat)(ren:List (Nat×Nat))(rr:List Nat):Cx:=⟨fun b i=>match X.G b i with
|.fz x=>.fz x
|.tp t=>bif (X5 lv ren).elem (D2 ren t) then .tp (D2 ren t) else .no
|.rt r j k=>bif rr.elem r&&beq j 0 then .rt (D2 ren r) 0 k else .no
|.no=>.no,fun u j=>bif beq j 0&&blt 1 u&&rr.elem (M9 ren u) then X.ρ (M9 ren u) 0 else none,fun _ _ _=>True,0,w.heap.size,X.wr⟩
def Cx.backH(X:Cx)(w:World)(lv:List Nat)(ren:List (Nat×Nat))(rr:List Nat)(X':Cx)(nm:Nat):Cx:=⟨fun b i=>ov (X'.G b i) <|
 let new:Ow:=match X'.G b i with|.fz x=>.fz x|.tp t=>.tp (M1 nm ren t)|.rt r j k=>.rt (M1 nm ren r) j k|.no=>.no
 match X.G b i with
|.fz x=>.fz x
|.rt r j k=>bif rr.elem r&&beq j 0 then new else .rt r j k
|.tp t=>bif (X5 lv ren).elem (D2 ren t) then new else .tp t
|.no=>if b<w.heap.size then .no else new,fun r j=>bif blt r nm then (match X.ρ r j with|some p=>some p|none=>bif rr.elem r&&beq j 0 then X'.ρ (D2 ren r) 0 else none) else bif Nat.ble 16 (r-nm) then X'.ρ (r-nm) j else none,X.Φ,X.κ,X.ν,X.wr⟩
theorem UY{F:Nat->V}{f:Nat->Nat}{r0:Nat}:∀{rr:List Nat},r0∈rr->(∀r,r∈rr->f r=f r0->r=r0)->lk (rr.map fun r=>(f r,F r)) (f r0)=F r0
|r::l,h,hinj=>by
  simp only[U1,lk]
  cases hb:beq (f r0) (f r)
  ·rcases K8.1 h with rfl|h
   ·rw[P6]at hb;cases hb
   exact UY h fun r hr=>hinj r (R5 _ hr)
  have:=hinj r (X9 ..) (A5 hb).symm
  subst this;rfl
section
variable {A0:List Nat} {nm:Nat} {ren:List (Nat×Nat)} {rr:List Nat}
structure RenS (nm:Nat) (ren:List (Nat×Nat)) (rr:List Nat):Prop where
 q:∀q,q∈ren->2<=q.1/\q.1<nm/\2<=q.2/\q.2<16/\D2 ren q.1=q.2/\M9 ren q.2=q.1
 r:∀r,r∈rr->∃q∈ren,q.1=r
theorem Oq(hr:uA nm ren rr=true):RenS nm ren rr:=by
 unfold uA at hr
 rw[A9]at hr
 refine⟨fun q hq=>?_,fun r K5=>?_⟩
 ·have:=P5.1 hr.1 q hq
  simp only[A9,A8]at this
  obtain⟨⟨⟨⟨⟨a1,a2⟩,a3⟩,a4⟩,a5⟩,a6⟩:=this
  exact⟨a1,a2,a3,a4,A5 a5,A5 a6⟩
 have:=P5.1 hr.2 r K5
 obtain⟨q,q1,q2⟩:=vI.1 this
 exact⟨q,q1,A5 q2⟩
theorem RenS.ro(S:RenS nm ren rr)(hr:r∈rr):2<=r/\r<nm/\2<=D2 ren r/\D2 ren r<16/\M9 ren (D2 ren r)=r:=by
 obtain⟨q,q1,rfl⟩:=S.r r hr
 obtain⟨a1,a2,a3,a4,a5,a6⟩:=S.q q q1
 rw[a5];exact⟨a1,a2,a3,a4,a6⟩
theorem RenS.z(S:RenS nm ren rr):D2 ren 0=0:=by
 rcases GM ren 0 with⟨q,q1,q2,_⟩|⟨_,h⟩
 ·have:=(S.q q q1).1;omega
 exact h
theorem RenS.to(S:RenS nm ren rr){t:Nat}(h2:2<=D2 ren t):2<=t/\t<nm/\D2 ren t<16/\M9 ren (D2 ren t)=t/\∃q∈ren,q.1=t/\q.2=D2 ren t:=by
 rcases GM ren t with⟨q,q1,q2,q3⟩|⟨_,h⟩
 ·obtain⟨a1,a2,a3,a4,a5,a6⟩:=S.q q q1
  subst q2
  rw[q3];exact⟨a1,a2,a4,a6,q,q1,rfl,rfl⟩
 rw[h]at h2
 cases hb:blt t 2<;>rw[hb]at h2
 ·simp at h2
 rw[A8]at hb;simp only[cond_true]at h2;omega
theorem RenS.back(S:RenS nm ren rr){t:Nat}(h2:2<=M9 ren t):2<=t/\t<16/\M9 ren t<nm/\D2 ren (M9 ren t)=t/\∃q∈ren,q.1=M9 ren t/\q.2=t:=by
 rcases MJ ren t with⟨q,q1,q2,q3⟩|⟨_,h⟩
 ·obtain⟨a1,a2,a3,a4,a5,a6⟩:=S.q q q1
  subst q2
  rw[q3];exact⟨a3,a4,a2,a5,q,q1,rfl,rfl⟩
 omega
theorem GN{t:Nat}:t∈X5 lv ren↔∃q∈ren,q.1∈lv/\q.2=t:=by
 unfold X5
 simp only[J6,zP,List.elem_eq_mem,decide_eq_true_eq]
 constructor
 ·rintro⟨q,⟨h1,h2⟩,h3⟩;exact⟨q,h1,h2,h3⟩
 rintro⟨q,h1,h2,h3⟩;exact⟨q,⟨h1,h2⟩,h3⟩
theorem RenS.lvi(S:RenS nm ren rr){t:Nat}(hm:D2 ren t∈X5 lv ren):t∈lv/\2<=D2 ren t:=by
 obtain⟨q,q1,q2,q3⟩:=GN.1 hm
 obtain⟨a1,a2,a3,a4,a5,a6⟩:=S.q q q1
 have h2:2<=D2 ren t:=by omega
 have:=(S.to h2).2.2.2.1
 rw[<-q3,a6]at this
 subst this
 exact⟨q2,h2⟩
theorem UZ(S:RenS nm ren rr)(H:Wd X0 X h lv nm w0 w):RenT X (X.passH w lv ren rr) lv (X5 lv ren) nm 16 (D2 ren) (gH ren rr):=by
 have gcase:∀r,2<=gH ren rr r->r∈rr/\gH ren rr r=D2 ren r:=fun r h2=>by
  unfold gH at h2 ⊢
  cases hb:rr.elem r<;>rw[hb]at h2
  ·simp at h2
  exact⟨by simpa using hb,rfl⟩
 have tpc:∀t,D2 ren t∈X5 lv ren->t∈lv/\∀b i,X.G b i=.tp t->(X.passH w lv ren rr).G b i=.tp (D2 ren t):=fun t hm=>by
  refine⟨(S.lvi hm).1,fun b i hx=>?_⟩
  simp only[Cx.passH,hx]
  rw[show(X5 lv ren).elem (D2 ren t)=true by simpa using hm];rfl
 refine⟨fun r p h2 hr=>?_,fun r _ h2=>?_,fun b i x hx=>by simp only[Cx.passH,hx],fun t _=>?_,fun t _ h1=>?_,⟨zO,fun t ht=>?_⟩,fun t _ hm=>tpc t hm,S.z⟩
 ·obtain⟨e1,e2⟩:=gcase r h2
  obtain⟨a1,a2,a3,a4,a5⟩:=S.ro e1
  rw[e2]
  simp only[Cx.passH,a5]
  rw[show blt 1 (D2 ren r)=true by rw[A8];omega,show rr.elem r=true by simpa using e1]
  exact hr
 ·obtain⟨e1,e2⟩:=gcase r h2
  rw[e2]
  exact⟨(S.ro e1).2.2.2.1,fun hm=>tpc r hm⟩
 ·by_cases h2:2<=D2 ren t
  ·exact(S.to h2).2.2.1
  omega
 ·rcases GM ren t with⟨q,q1,q2,q3⟩|⟨_,h⟩
  ·have:=(S.q q q1).2.2.1;omega
  rw[h]at h1
  cases hb:blt t 2<;>rw[hb]at h1
  ·simp at h1
  exact h1
 obtain⟨q,q1,_,rfl⟩:=GN.1 ht
 exact(S.q q q1).2.2.1
theorem RtR.rn2{lv:List Nat}{f:Nat->Nat}(R:RenT X X' lv lv' c c' f g'){w':World}{r' b:Nat}{v:V}(hL:∀cs,R4 X w r j b o cs->R4 X' w' r' j b o cs)(h:RtR X lv c w r j b o N v):RtR X' lv' c' w' r' j b o N (v.rn f g'):=by
 cases v with
|ro v=>obtain⟨cs,h1,h2,h3,h4⟩:=h;exact⟨cs,rep.nest R.fz h1,h2,h3,h4.mono R.fz⟩
|un=>trivial
|tu=>obtain⟨cs,h1,_⟩:=h;exact h1.elim
|_=>
  obtain⟨cs,h1,h2,h3,h4⟩:=h
  exact dU ((mU (f:=f) (g':=g') _).1.trans h2) (aF R h1) h3 (hL cs h4)
theorem Ot(S:RenS nm ren rr)(H:Wd X0 X h lv nm w0 w):Wd ((X.passH w lv ren rr).ent (X5 lv ren)) (X.passH w lv ren rr) (S6 (qC h ren rr)) (X5 lv ren) 16 w w:=by
 have R0:=UZ S H
 have nn:∀b i,(X.passH w lv ren rr).G b i≠ .no->X.G b i≠ .no:=fun b i hn e=>hn (by simp only[Cx.passH,e])
 refine { kb:=zS _ _,tape:=rfl,fz0:=fun _ _ _ h=>h,no0:=fun _ _ _ h=>.inl h,mp0:=fun _ _ _ h=>h,ρ0:=fun _ _ _ h=>(by cases h),ex:=fun b i hn=>H.ex b i (nn b i hn),fz:=fun b i x hx=>?_,tp:=fun b i t hx=>?_,rt:=fun r j b o N hr=>?_,c2:=by omega,lvc:=fun t ht=>?_,ρc:=fun r j p hr=>?_,inv:=⟨fun r p _ _ h=>h,fun t ht _=>⟨ht,fun _ _ h=>h⟩⟩,imo:=fun G ρ G' ρ' lv1 Q1 hg hh=>⟨fun r p h2 K6 hr=>hg.ρ r 0 p h2 K6 (hh.1 r p h2 K6 hr),fun t ht K6=>⟨(hh.2 t (hg.lv t ht K6) K6).1,fun b i hx=>hg.tp b i t ht K6 ((hh.2 t (hg.lv t ht K6) K6).2 b i hx)⟩⟩,νe:=rfl,gz:=H.gz1 R0.fz,we:=rfl,ν0:=B2 _,νs:=B2 _,nf:=fun b hb _ C T fr he=>(by have:b<w.heap.size:=(Z4.1 he).1;simp only[Cx.ent,Cx.passH]at hb;omega),κc:=B2 _}
 ·simp only[Cx.passH]at hx
  cases hg:X.G b i with
 |fz y=>rw[hg]at hx;simp only at hx;cases hx;exact(H.fz b i x hg).move R0.fz rfl fun _ _ h=>h
 |tp t=>rw[hg]at hx;simp only at hx;cases he:(X5 lv ren).elem (D2 ren t)<;>rw[he]at hx<;>cases hx
 |rt r j k=>rw[hg]at hx;simp only at hx;cases he:(rr.elem r&&beq j 0)<;>rw[he]at hx<;>cases hx
 |no=>rw[hg]at hx;cases hx
 ·simp only[Cx.passH]at hx
  cases hg:X.G b i with
 |tp t'=>exact H.tp b i t' hg
 |rt r j k=>rw[hg]at hx;simp only at hx;cases he:(rr.elem r&&beq j 0)<;>rw[he]at hx<;>cases hx
 |_=>rw[hg]at hx;cases hx
 ·simp only[Cx.passH]at hr
  obtain⟨h1,h2⟩:=M7 hr (by simp)
  simp only[A9,A8]at h1
  have hj:=A5 h1.1.1
  subst hj
  have hm:M9 ren r∈rr:=by simpa using h1.2
  obtain⟨a1,a2,a3,a4,a5⟩:=S.ro hm
  have a6:=(S.back (t:=r) a1).2.2.2.1
  show RtR _ _ _ _ _ _ _ _ _ (lk (qC h ren rr) r)
  have e:lk (qC h ren rr) r=(h (M9 ren r) 0).rn (D2 ren) (gH ren rr):=by
   have:=UY (F:=fun r=>(h r 0).rn (D2 ren) (gH ren rr)) (f:=D2 ren) hm (fun r' K5 he=>by
    have:=(S.ro K5).2.2.2.2
    rw[he,a5]at this;exact this.symm)
   rw[a6]at this
   exact this
  rw[e]
  refine RtR.rn2 R0 (fun cs hL k x hk=>?_) (H.rt _ 0 b o N h2);obtain⟨q1,q2,q3⟩:=hL k x hk
  refine⟨?_,q2,q3⟩
  simp only[Cx.passH,q1]
  rw[show rr.elem (M9 ren r)=true from h1.2,a6];rfl
 ·obtain⟨q,q1,_,rfl⟩:=GN.1 ht
  have:=S.q q q1;omega
 simp only[Cx.passH]at hr
 obtain⟨h1,h2⟩:=M7 hr (by simp)
 simp only[A9,A8]at h1
 have hm:M9 ren r∈rr:=by simpa using h1.2
 exact(S.back (t:=r) (S.ro hm).1).2.1
theorem dZ{a b:Nat}(h:a<b):blt a b=true:=by rw[A8];exact h
theorem jL{a b:Nat}(h:b<=a):blt a b=false:=by cases hb:blt a b;rfl;rw[A8]at hb;omega
theorem GO{t:Nat}(h:t<2):M1 nm ren t=t:=by unfold M1;rw[dZ h];rfl
theorem jM{t:Nat}(h1:2<=t)(h2:t<16):M1 nm ren t=M9 ren t:=by unfold M1;rw[jL h1,dZ h2];rfl
theorem kX{t:Nat}(h:16<=t):M1 nm ren t=nm+t:=by unfold M1;rw[jL zO,jL h];rfl
theorem Ou{ho:List (Nat×V)}(S:RenS nm ren rr)(H:Wd X0 X h lv nm w0 w)(H':Wd ((X.passH w lv ren rr).ent (X5 lv ren)) X' (S6 ho) A0 64 w w'):
 X.le (X.backH w lv ren rr X' nm) lv (fI lv nm ren A0) nm/\Wd X0 (X.backH w lv ren rr X' nm) (yF h nm ren rr ho) (fI lv nm ren A0) (nm+64) w0 w'/\RenT X' (X.backH w lv ren rr X' nm) A0 (fI lv nm ren A0) 64 (nm+64) (M1 nm ren) (gU nm ren rr):=by
 have W4:=H.c2
 obtain⟨iρ,itp⟩:(∀r p,2<=r->r<16->(X.passH w lv ren rr).ρ r 0=some p->X'.ρ r 0=some p)/\∀t,t∈A0->t<16->t∈X5 lv ren/\∀b i,(X.passH w lv ren rr).G b i=.tp t->X'.G b i=.tp t:=H'.inv
 have pfz:∀b i x,X.G b i=.fz x->X'.G b i=.fz x:=fun b i x hx=>H'.fz0 b i x (by show(X.passH w lv ren rr).G b i=_;simp only[Cx.passH,hx])
 have kI:∀b i,b<w.heap.size->(X.passH w lv ren rr).G b i=.no->X'.G b i=.no\/∃t,X'.G b i=.fz (N9 t):=fun b i hb h=>H'.no0 b i hb h
 have okey:∀n o:Ow,(∀x,n=.fz x->o=.fz x)->ov n o=o:=fun n o h=>by
  rcases pT n o with⟨x,h1,_,h3⟩|⟨_,h3⟩
  ·rw[h3,h x h1]
  exact h3
 have ono:∀o:Ow,ov .no o=o:=fun o=>rfl
 have nomt:∀b i,(w.cell? (ad b i)).isSome=true->∀t,X'.G b i≠ .fz (N9 t):=fun b i hc t hx=>by
  obtain⟨es,F8,h1,_⟩:=(H'.fz b i _ hx).m t rfl
  exact TY H'.kb hc h1
 have fztp:∀b i,(w.cell? (ad b i)).isSome=true->∀x,X'.G b i=.fz x->x.oneCell'=true:=fun b i hc x hx=>(H'.fz b i x hx).o.elim id fun⟨t,e⟩=>absurd (e▸hx) (nomt b i hc t)
 have oD:∀b i x,X.G b i=.fz x->(X.backH w lv ren rr X' nm).G b i=.fz x:=fun b i x hx=>by
  simp only[Cx.backH,hx,pfz b i x hx]
  exact okey _ _ fun y h=>h
 have sort:∀b i,(∃x,X.G b i=.fz x)\/((X.backH w lv ren rr X' nm).G b i=X.G b i/\b<w.heap.size/\X'.G b i=.no/\(∀x,X.G b i≠ .fz x)/\(X.passH w lv ren rr).G b i=.no)\/
  ((X.backH w lv ren rr X' nm).G b i=(match X'.G b i with|.fz x=>.fz x|.tp t=>.tp (M1 nm ren t)|.rt r j k=>.rt (M1 nm ren r) j k|.no=>.no)/\(∀x,X.G b i≠ .fz x)/\(X.G b i=.no->¬ b<w.heap.size)/\(∀r j k,X.G b i=.rt r j k->r∈rr/\j=0)/\∀t,X.G b i=.tp t->D2 ren t∈X5 lv ren)\/
  (∃t,X'.G b i=.fz (N9 t)/\(X.backH w lv ren rr X' nm).G b i=.fz (N9 t)/\∀x,X.G b i≠ .fz x):=fun b i=>by
  cases hg:X.G b i with
 |fz x=>exact .inl ⟨x,rfl⟩
 |tp t=>
   have hb:=H.ex b i (by rw[hg];simp)
   cases he:(X5 lv ren).elem (D2 ren t)
   ·have hp:(X.passH w lv ren rr).G b i=.no:=by simp only[Cx.passH,hg,he];rfl
    rcases kI b i hb hp with h|⟨t',h⟩
    ·exact .inr (.inl ⟨by simp only[Cx.backH,hg,he,h];rfl,hb,h,by simp,hp⟩)
    exact .inr (.inr (.inr ⟨t',h,by simp only[Cx.backH];exact xX h rfl,by simp⟩))
   exact .inr (.inr (.inl ⟨by simp only[Cx.backH,hg,he,cond_true];exact okey _ _ fun x h=>by rw[h],by simp,by simp,by simp,fun t' e=>by cases e;simpa using he⟩))
 |rt r j k=>
   have hb:=H.ex b i (by rw[hg];simp)
   cases he:(rr.elem r&&beq j 0)
   ·have hp:(X.passH w lv ren rr).G b i=.no:=by simp only[Cx.passH,hg,he];rfl
    rcases kI b i hb hp with h|⟨t',h⟩
    ·exact .inr (.inl ⟨by simp only[Cx.backH,hg,he,h];rfl,hb,h,by simp,hp⟩)
    exact .inr (.inr (.inr ⟨t',h,by simp only[Cx.backH];exact xX h rfl,by simp⟩))
   refine .inr (.inr (.inl ⟨by simp only[Cx.backH,hg,he,cond_true];exact okey _ _ fun x h=>by rw[h],by simp,by simp,fun r' j' k' e=>?_,by simp⟩))
   cases e
   rw[A9]at he
   exact⟨by simpa using he.1,A5 he.2⟩
 |no=>
   by_cases hb:b<w.heap.size
   ·have hp:(X.passH w lv ren rr).G b i=.no:=by simp only[Cx.passH,hg]
    rcases kI b i hb hp with h|⟨t',h⟩
    ·exact .inr (.inl ⟨by simp only[Cx.backH,hg,if_pos hb,h];rfl,hb,h,by simp,hp⟩)
    exact .inr (.inr (.inr ⟨t',h,by simp only[Cx.backH];exact xX h rfl,by simp⟩))
   exact .inr (.inr (.inl ⟨by simp only[Cx.backH,hg,if_neg hb];exact okey _ _ fun x h=>by rw[h],by simp,fun _=>hb,by simp,by simp⟩))
 have new:∀b i,X'.G b i≠ .no->(∃x,X.G b i=.fz x/\X'.G b i=.fz x/\(X.backH w lv ren rr X' nm).G b i=.fz x)\/(X.backH w lv ren rr X' nm).G b i=(match X'.G b i with|.fz x=>.fz x|.tp t=>.tp (M1 nm ren t)|.rt r j k=>.rt (M1 nm ren r) j k|.no=>.no):=fun b i hn=>by
  rcases sort b i with⟨x,hx⟩|⟨_,_,h3,_⟩|⟨h1,_⟩|⟨t,h1,h2,_⟩
  ·exact .inl ⟨x,hx,pfz b i x hx,oD b i x hx⟩
  ·exact absurd h3 hn
  ·exact .inr h1
  exact .inr (by rw[h1];exact h2)
 have same:∀b i,b<w.heap.size->(X.passH w lv ren rr).G b i=.no->w'.cell? (ad b i)=w.cell? (ad b i)/\w'.frozen? (ad b i)=w.frozen? (ad b i):=fun b i hb h=>by
  refine⟨H'.kb.cell hb ?_,BH H'.kb hb⟩
  rintro(⟨r,j,k,hg⟩|⟨t,hg⟩)<;>(have hg:(X.passH w lv ren rr).G b i=_:=hg;rw[h]at hg;cases hg)
 have lo2:∀t,t∈A0->2<=t/\t<64:=fun t ht=>H'.lvc t ht
 have lomid:∀t,t∈A0->t<16->2<=M9 ren t/\M9 ren t∈lv:=fun t ht K6=>by
  obtain⟨q,q1,q2,rfl⟩:=GN.1 (itp t ht K6).1
  obtain⟨a1,a2,a3,a4,a5,a6⟩:=S.q q q1
  rw[a6];exact⟨a1,q2⟩
 have fblt:∀t,t<64->M1 nm ren t<nm+64:=fun t ht=>by
  by_cases h2:t<2
  ·rw[GO h2];omega
  by_cases K6:t<16
  ·rw[jM zO K6]
   by_cases hf:2<=M9 ren t
   ·have:=(S.back hf).2.2.1;omega
   omega
  rw[kX zO];omega
 have inj:∀t u,2<=t->2<=u->2<=M1 nm ren t->M1 nm ren t=M1 nm ren u->t=u:=fun t u ht hu h2 he=>by
  by_cases K6:t<16
  ·rw[jM ht K6]at he h2
   obtain⟨_,_,b3,b4,_⟩:=S.back h2
   by_cases g16:u<16
   ·rw[jM hu g16]at he
    rw[he]at h2
    have:=(S.back h2).2.2.2.1
    rw[<-he,b4]at this;exact this
   rw[kX zO]at he;omega
  rw[kX zO]at he
  by_cases g16:u<16
  ·rw[jM hu g16]at he
   by_cases hf:2<=M9 ren u
   ·have:=(S.back hf).2.2.1;omega
   omega
  rw[kX zO]at he;omega
 have lvm:∀t,2<=t->2<=M1 nm ren t->M1 nm ren t∈fI lv nm ren A0->t∈A0:=fun t ht h2 hm=>by
  rcases S3.1 hm with hm|hm
  ·exfalso
   rw[zP]at hm
   have hlt:=(H.lvc _ hm.1).2
   have K6:t<16:=by
    by_cases K6:t<16
    ·exact K6
    rw[kX zO]at hlt;omega
   rw[jM ht K6]at hm h2
   obtain⟨_,_,_,_,q,q1,q2,_⟩:=S.back h2
   have:¬ M9 ren t∈ren.map (·.1):=by simpa using hm.2
   exact this (q2▸List.mem_map_of_mem q1)
  obtain⟨u,u1,u2⟩:=J6.1 hm
  have:=inj t u ht (lo2 u u1).1 h2 u2.symm
  subst this;exact u1
 have lv2':∀t,t∈fI lv nm ren A0->2<=t/\t<nm+64:=fun t ht=>by
  rcases S3.1 ht with hm|hm
  ·have:=H.lvc t (zP.1 hm).1;omega
  obtain⟨u,u1,rfl⟩:=J6.1 hm
  refine⟨?_,fblt u (lo2 u u1).2⟩
  by_cases K6:u<16
  ·rw[jM (lo2 u u1).1 K6];exact(lomid u u1 K6).1
  rw[kX zO];omega
 have wG:∀t b i,2<=t->M1 nm ren t∈fI lv nm ren A0->X'.G b i=.tp t->(X.backH w lv ren rr X' nm).G b i=.tp (M1 nm ren t):=fun t b i _ _ hx=>by
  rcases new b i (by rw[hx];simp) with⟨x,_,h2,_⟩|h
  ·rw[hx]at h2;cases h2
  rw[h,hx]
 have B1:X.le (X.backH w lv ren rr X' nm) lv (fI lv nm ren A0) nm:=by
  refine⟨oD,fun b i t ht hlt hx=>?_,fun t ht hlt=>?_,fun r j p _ hlt h=>by simp only[Cx.backH];rw[dZ hlt,h];rfl,rfl⟩
  ·by_cases hm:D2 ren t∈X5 lv ren
   ·have h2:=(S.lvi hm).2
    obtain⟨b1,b2,b3,b4,q,q1,q2,q3⟩:=S.to h2
    have hfb:M1 nm ren (D2 ren t)=t:=by rw[jM h2 b3,b4]
    have hmo:D2 ren t∈A0:=lvm _ h2 (by rw[hfb];exact b1) (by rw[hfb];exact ht)
    have hp:(X.passH w lv ren rr).G b i=.tp (D2 ren t):=by simp only[Cx.passH,hx];rw[show(X5 lv ren).elem (D2 ren t)=true by simpa using hm];rfl
    have vZ:=(itp _ hmo b3).2 b i hp
    have:=wG (D2 ren t) b i h2 (by rw[hfb];exact ht) vZ
    rw[hfb]at this;exact this
   simp only[Cx.backH,hx]
   rw[show(X5 lv ren).elem (D2 ren t)=false by simpa using hm,BG (fztp b i (H.tp b i t hx).1)];rfl
  rcases S3.1 ht with hm|hm
  ·exact(zP.1 hm).1
  obtain⟨u,u1,rfl⟩:=J6.1 hm
  by_cases K6:u<16
  ·rw[jM (lo2 u u1).1 K6];exact(lomid u u1 K6).2
  rw[kX zO]at hlt;omega
 have ρk:∀r p,2<=r->2<=M1 nm ren r->(r<16->M9 ren r∈rr)->X'.ρ r 0=some p->(X.backH w lv ren rr X' nm).ρ (M1 nm ren r) 0=some p:=fun r p h2 hf nQ hr=>by
  by_cases K6:r<16
  ·rw[jM h2 K6]at hf ⊢
   obtain⟨_,_,b3,b4,_⟩:=S.back hf
   have hm:=nQ K6
   simp only[Cx.backH]
   rw[dZ b3]
   simp only[cond_true]
   cases hx:X.ρ (M9 ren r) 0 with
  |none=>simp only;rw[show rr.elem (M9 ren r)=true by simpa using hm,b4];exact hr
  |some p0=>
    have hp:(X.passH w lv ren rr).ρ r 0=some p0:=by
     simp only[Cx.passH]
     rw[show blt 1 r=true by rw[A8];omega,show rr.elem (M9 ren r)=true by simpa using hm]
     exact hx
    have:=iρ r p0 h2 K6 hp
    rw[this]at hr;exact hr
  rw[kX zO]
  simp only[Cx.backH]
  rw[jL zO,show nm+r-nm=r by omega,show Nat.ble 16 r=true by rw[i6];omega]
  exact hr
 have gcase:∀r,2<=gU nm ren rr r->2<=r/\gU nm ren rr r=M1 nm ren r/\(r<16->M9 ren r∈rr):=fun r h2=>by
  unfold gU at h2 ⊢
  cases hb:(blt r 16 && !rr.elem (M9 ren r))<;>rw[hb]at h2
  ·simp only[cond_false]at h2 ⊢
   refine⟨?_,zT,fun K6=>?_⟩
   ·by_cases hr:r<2
    ·rw[GO hr]at h2;exact h2
    omega
   rw[dZ K6]at hb;simpa using hb
  simp at h2
 have ren':RenT X' (X.backH w lv ren rr X' nm) A0 (fI lv nm ren A0) 64 (nm+64) (M1 nm ren) (gU nm ren rr):=by
  refine⟨fun r p h2 hr=>?_,fun r hlt h2=>?_,fun b i x hx=>?_,fblt,fun t _ h1=>?_,⟨zO,fun t ht=>(lv2' t ht).1⟩,fun t ht hm=>?_,rfl⟩
  ·obtain⟨g1,g2,g3⟩:=gcase r h2
   rw[g2]at h2 ⊢
   exact ρk r p g1 h2 g3 hr
  ·obtain⟨g1,g2,g3⟩:=gcase r h2
   rw[g2]at h2 ⊢
   exact⟨fblt r hlt,fun hm=>⟨lvm r g1 h2 hm,fun b i hx=>wG r b i g1 hm hx⟩⟩
  ·rcases new b i (by rw[hx];simp) with⟨y,_,h2,h3⟩|h
   ·rw[hx]at h2;cases h2;exact h3
   rw[h,hx]
  ·by_cases h2:t<2
   ·rw[GO h2]at h1;exact h1
   by_cases K6:t<16
   ·rw[jM zO K6]at h1
    rcases MJ ren t with⟨q,q1,q2,q3⟩|⟨_,h⟩
    ·have:=(S.q q q1).1;omega
    omega
   rw[kX zO]at h1;omega
  have h2:=(lv2' _ hm).1
  have lS:2<=t:=by
   by_cases hr:t<2
   ·rw[GO hr]at h2;exact h2
   omega
  exact⟨lvm t lS h2 hm,fun b i hx=>wG t b i lS hm hx⟩
 have dn:∀b i,(X.backH w lv ren rr X' nm).G b i≠ .no->b<w'.heap.size:=fun b i hn=>by
  rcases sort b i with⟨x,hx⟩|⟨_,h2,_⟩|⟨h1,_⟩|⟨t,h1,_⟩
  ·exact X7 (H.ex b i (by rw[hx];simp)) H'.size
  ·exact X7 h2 H'.size
  ·rw[h1]at hn
   exact H'.ex b i fun e=>hn (by rw[e])
  exact H'.ex b i (by rw[h1];simp)
 have mt0:∀b t,(X.passH w lv ren rr).G b 0=.fz (N9 t)->X.G b 0=.fz (N9 t):=fun b t h=>by
  simp only[Cx.passH]at h
  cases hg:X.G b 0 with
 |fz x=>rw[hg]at h;exact h
 |no=>rw[hg]at h;cases h
 |rt r j k=>rw[hg]at h;simp only at h;cases he:(rr.elem r&&beq j 0)<;>rw[he]at h<;>cases h
 |tp t'=>rw[hg]at h;simp only at h;cases he:(X5 lv ren).elem (D2 ren t')<;>rw[he]at h<;>cases h
 refine⟨B1,{ kb:=tA H.kb H'.kb (fun x i hx hm=>?_) (fun x hx ⟨hw,t,hm⟩=>⟨H.we.symm.trans hw,t,H.mp0 x t hx (mt0 x t hm)⟩),tape:=H'.tape.trans H.tape,fz0:=fun b i x hx=>B1.fz _ _ _ (H.fz0 b i x hx),no0:=fun b i hb hn=>?_,mp0:=fun b t hb hx=>(by
  have hlt:=X7 hb H.size
  refine H.mp0 b t hb (mt0 b t (H'.mp0 b t hlt ?_))
  rcases sort b 0 with⟨x,vZ⟩|⟨h1,_,_,h4,_⟩|⟨h1,_⟩|⟨t',h1,h2,_⟩
  ·rw[oD b 0 x vZ]at hx;cases hx;exact pfz b 0 _ vZ
  ·rw[h1]at hx;exact absurd hx (h4 _)
  ·rw[h1]at hx;cases oE:X'.G b 0<;>rw[oE]at hx<;>simp only at hx<;>first|exact hx|cases hx
  ·rw[h2]at hx;rw[<-RM (Ow.fz.inj hx)];exact h1),ρ0:=fun r j p hp=>(by simp only[Cx.backH];rw[dZ (H.ρc _ _ _ (H.ρ0 r j p hp)),H.ρ0 r j p hp];rfl),ex:=dn,fz:=fun b i x hx=>?_,tp:=fun b i t hx=>?_,rt:=fun r j b o N hr=>?_,c2:=by omega,lvc:=lv2',ρc:=fun r j p hp=>?_,inv:=H.inv' B1,imo:=H.imo,νe:=H.νe,gz:=H.gz,we:=H.we,ν0:=H.ν0,νs:=J2 H.νs H'.size,nf:=fun b hb ⟨i,hi⟩ C T fr he=>(by
  by_cases hlt:b<w.heap.size
  ·obtain⟨C0,e1,e2⟩:=MB H'.kb hlt he
   rw[<-e2]
   refine H.nf b hb ⟨i,fun e=>hi ?_⟩ C0 T fr e1
   rcases kI b i hlt (by simp only[Cx.passH,e]) with h|⟨t,h⟩
   ·simp only[Cx.backH,e,if_pos hlt,h];rfl
   exfalso
   obtain⟨es,F8,h4,_⟩:=(H'.fz b i _ h).m t rfl
   rw[h4]at he;cases he
  refine H'.nf b (by simp only[Cx.ent,Cx.passH];omega) ⟨i,fun e=>hi ?_⟩ C T fr he
  rcases sort b i with⟨x,hx⟩|⟨_,h2,_⟩|⟨h1,_⟩|⟨t,h1,_⟩
  ·exact absurd (H.ex b i (by rw[hx];simp)) hlt
  ·exact absurd h2 hlt
  ·rw[h1,e]
  rw[h1]at e;cases e),κc:=by have:=H.κc;omega },ren'⟩
 ·have bV:∀e,X0.G x i=e->e≠ .no/\(∀y,e≠ .fz y):=fun e he=>by
   constructor
   ·rintro rfl
    rcases H.no0 x i hx he with hg|⟨t0,hg⟩
    ·have hp:(X.passH w lv ren rr).G x i=.no:=by simp only[Cx.passH,hg]
     rcases hm with⟨r,j,k,h⟩|⟨t,h⟩<;>(have h:(X.passH w lv ren rr).G x i=_:=h;rw[hp]at h;cases h)
    have hp:(X.passH w lv ren rr).G x i=.fz (N9 t0):=by simp only[Cx.passH,hg]
    rcases hm with⟨r,j,k,h⟩|⟨t,h⟩<;>(have h:(X.passH w lv ren rr).G x i=_:=h;rw[hp]at h;cases h)
   rintro y rfl
   have hg:=H.fz0 x i y he
   have hp:(X.passH w lv ren rr).G x i=.fz y:=by simp only[Cx.passH,hg]
   rcases hm with⟨r,j,k,h⟩|⟨t,h⟩<;>(have h:(X.passH w lv ren rr).G x i=_:=h;rw[hp]at h;cases h)
  cases Q7:X0.G x i with
 |no=>exact absurd rfl (bV _ Q7).1
 |fz y=>exact absurd rfl ((bV _ Q7).2 y)
 |rt r j k=>exact .inl ⟨r,j,k,Q7⟩
 |tp t=>exact .inr ⟨t,Q7⟩
 ·have:b<w.heap.size:=X7 hb H.size
  rcases H.no0 b i hb hn with hg|⟨t,hg⟩
  ·rcases kI b i this (by simp only[Cx.passH,hg]) with h|⟨t,h⟩
   ·exact .inl (by simp only[Cx.backH,hg,if_pos this,h];rfl)
   exact .inr ⟨t,by simp only[Cx.backH];exact xX h rfl⟩
  exact .inr ⟨t,oD b i _ hg⟩
 ·have:X'.G b i=.fz x:=by
   rcases sort b i with⟨y,hy⟩|⟨h1,h2,h3,h4,_⟩|⟨h1,_⟩|⟨t,h1,h2,_⟩
   ·rw[oD b i y hy]at hx;cases hx
    exact pfz b i x hy
   ·rw[h1]at hx;exact absurd hx (h4 x)
   ·rw[h1]at hx
    cases hg:X'.G b i<;>rw[hg]at hx<;>simp only at hx<;>first|exact hx|cases hx
   rw[h2]at hx;cases hx;exact h1
  exact(H'.fz b i x this).move ren'.fz rfl fun _ _ h=>h
 ·rcases sort b i with⟨y,hy⟩|⟨h1,h2,h3,h4,h5⟩|⟨h1,_⟩|⟨t',_,h2,_⟩
  ·rw[oD b i y hy]at hx;cases hx
  ·rw[h1]at hx
   obtain⟨s1,s2⟩:=same b i h2 h5
   rw[s1,s2];exact H.tp b i t hx
  ·rw[h1]at hx
   cases hg:X'.G b i<;>rw[hg]at hx<;>simp only at hx<;>cases hx
   exact H'.tp b i _ hg
  rw[h2]at hx;cases hx
 ·have back:∀r' b,r'≠0->X'.ρ r' j=some (b,o,N)->M1 nm ren r'=r->RtR (X.backH w lv ren rr X' nm) (fI lv nm ren A0) (nm+64) w' r j b o N ((S6 ho r' j).rn (M1 nm ren) (gU nm ren rr)):=fun r' b _ h2 e=>by
   refine RtR.rn2 ren' (fun cs hL k x hk=>?_) (H'.rt r' j b o N h2)
   obtain⟨q1,q2,q3⟩:=hL k x hk
   refine⟨?_,q2,q3⟩
   rcases new b (o+k) (by rw[q1];simp) with⟨y,_,h3,_⟩|h3
   ·rw[q1]at h3;cases h3
   rw[h3,q1];simp only;rw[e]
  unfold yF
  cases hb:blt r nm
  ·simp only[Cx.backH,hb,cond_false]at hr
   obtain⟨h1,h2⟩:=M7 hr (by simp)
   rw[i6]at h1
   simp only[cond_false]
   have U6:nm<=r:=zI fun hl=>by rw[dZ hl]at hb;cases hb
   exact back (r-nm) b zO h2 (by rw[kX h1];omega)
  simp only[Cx.backH,hb,cond_true]at hr
  simp only[cond_true]
  rw[A8]at hb
  cases hm:(rr.elem r&&beq j 0)
  ·simp only[cond_false]
   have hx:X.ρ r j=some (b,o,N):=by
    cases hx:X.ρ r j with
   |none=>rw[hx,hm]at hr;cases hr
   |some p=>rw[hx]at hr;exact hr
   refine(H.rt r j b o N hx).mono B1 zO fun _ cs _ hL _ k x hk=>?_
   obtain⟨q1,q2,q3⟩:=hL k x hk
   rcases sort b (o+k) with⟨y,hy⟩|⟨h1,h2,h3,h4,h5⟩|⟨h1,h2,h3,h4,_⟩|⟨t,h1,_⟩
   ·rw[q1]at hy;cases hy
   ·obtain⟨s1,s2⟩:=same b (o+k) h2 h5
    exact⟨by rw[h1];exact q1,by rw[s1];exact q2,q3.to fun j=>BH H'.kb h2⟩
   ·obtain⟨z1,z2⟩:=h4 r j k q1
    rw[show rr.elem r=true by simpa using z1,z2]at hm;cases hm
   exact absurd h1 (nomt b (o+k) (by rw[q2];rfl) t)
  simp only[cond_true]
  rw[A9]at hm
  have hj:=A5 hm.2
  subst hj
  have hmr:r∈rr:=by simpa using hm.1
  obtain⟨a1,a2,a3,a4,a5⟩:=S.ro hmr
  have hx:X'.ρ (D2 ren r) 0=some (b,o,N):=by
   cases hx:X.ρ r 0 with
  |none=>rw[hx,hm.1]at hr;exact hr
  |some p=>
    rw[hx]at hr
    have hr:some p=some (b,o,N):=hr
    refine iρ _ _ a3 a4 ?_
    simp only[Cx.passH,a5]
    rw[show blt 1 (D2 ren r)=true by rw[A8];omega,hm.1]
    exact hx.trans hr
  exact back (D2 ren r) b zO hx (by rw[jM a3 a4,a5])
 simp only[Cx.backH]at hp
 cases hb:blt r nm
 ·rw[hb]at hp
  simp only[cond_false]at hp
  obtain⟨h1,h2⟩:=M7 hp (by simp)
  have:=H'.ρc _ _ _ h2
  have U6:nm<=r:=zI fun hl=>by rw[dZ hl]at hb;cases hb
  omega
 rw[A8]at hb;omega
theorem Ov{m:Bool}(hm:m=true->X0.wr=true){k:List K}{s:T}(hQ:mS Q){f:FuncId}{l ins:List V}{lvi:List Nat}{hi:List (Nat×V)}{d:Option Tmp}{A:Cf}(ren:List (Nat×Nat))(rr:List Nat)(e:go P N k s=.call f l d nm A)(iH:(xZ A.k||kS f)=true)
  (hl:(l.map (V.rn (D2 ren) (gH ren rr)),uA nm ren rr&&beq (C1 A.s A.k) (nm+64),X5 A.s.lv ren,qC A.s.h ren rr)=(ins,true,lvi,hi))(hs:SatHM P m f ins lvi hi R)
  (h:∀out ho A0,R out ho A0->Run P X0 w0 Q ⟨A.k,{ A.s with h:=yF A.s.h nm ren rr ho,lv:=fI A.s.lv nm ren A0 }.put d (out.rn (M1 nm ren) (gU nm ren rr))⟩):Run P X0 w0 Q ⟨k,s⟩:=by
 refine M8 hQ N k s ?_
 rw[e]
 intro X τ w vs hF H D7 oF hd
 simp only[G6,A9]at hl
 obtain⟨rfl,⟨j6,hk⟩,rfl,rfl⟩:=hl
 have hk:=A5 hk
 have S:=Oq j6
 have R0:=UZ S H
 have hret:=hs (X.passH w A.s.lv ren rr) w vs (by simpa using D7) (fun i v x hv hx=>by
  rw[Y6]at hv
  obtain⟨v0,z8,rfl⟩:=eL.1 hv
  exact gS R0 (oF i v0 x z8 hx)) (Ot S H) fun e=>H.we.trans (hm e)
 refine hret.mono fun v w' ⟨X',ho,A0,out,q1,q2,q3⟩=>?_
 obtain⟨c1,c2,c3⟩:=Ou S H q3
 cases I0:kS f with
|true=>
  refine xU (mR c2 c1.fz fun e=>by cases e) (h out ho A0 q1 _ _ _ ?_);have:=jK (s:=A.s) (hF.mono c1 (by omega:nm<=nm+64)) c2 (d:=d) (fun d' e=>by subst e;exact hd) (gS c3 q2) A.s.c
  have O9:C1 ({ A.s with h:=yF A.s.h nm ren rr ho,lv:=fI A.s.lv nm ren A0 }.put d (out.rn (M1 nm ren) (gU nm ren rr))) A.k=nm+64:=by
   rw[<-hk];cases d<;>rfl
  rw[O9]
  exact this
|false=>
 rw[I0,Bool.or_false]at iH
 refine Nt iH ((h out ho A0 q1).to ?_);have:=tW (s:=A.s) (hF.mono c1 (by omega:nm<=nm+64)) c2 (d:=d) (fun d' e=>by subst e;exact hd) (gS c3 q2)
 have O9:C1 ({ A.s with h:=yF A.s.h nm ren rr ho,lv:=fI A.s.lv nm ren A0 }.put d (out.rn (M1 nm ren) (gU nm ren rr))) A.k=nm+64:=by
  rw[<-hk];cases d<;>rfl
 rw[O9]
 exact this
def GP(e:Ev)(ren:List (Nat×Nat))(rr:List Nat)(out:V)(ho:List (Nat×V))(A0:List Nat):Cf:=⟨e.a.k,{ e.a.s with h:=yF e.a.s.h e.nm ren rr ho,lv:=fI e.a.s.lv e.nm ren A0 }.put e.d (out.rn (M1 e.nm ren) (gU e.nm ren rr))⟩
theorem VB{m:Bool}(hm:m=true->X0.wr=true){f:FuncId}{ins:List V}{lvi:List Nat}{hi:List (Nat×V)}(ren:List (Nat×Nat))(rr:List Nat)(hs:SatHM P m f ins lvi hi R)
  (e:((nx P cf).tag,(nx P cf).f,(nx P cf).l.map (V.rn (D2 ren) (gH ren rr)),(xZ (nx P cf).a.k||kS f)&&(uA (nx P cf).nm ren rr&&beq (C1 (nx P cf).a.s (nx P cf).a.k) ((nx P cf).nm+64)),X5 (nx P cf).a.s.lv ren,qC (nx P cf).a.s.h ren rr)=(3,f,ins,true,lvi,hi))
  (h:∀out ho A0,R out ho A0->Wk P X0 w0 Q (GP (nx P cf) ren rr out ho A0)):Wk P X0 w0 Q cf:=by
 cases hn:nx P cf<;>rw[hn]at e h<;>simp only[Ev.tag,G6,reduceCtorEq,Nat.reduceEqDiff,false_and]at e
 obtain⟨_,rfl,e1,e2,e3,e4⟩:=e
 rw[A9]at e2
 exact⟨fun hQ=>Ov hm hQ (N:=1000) ren rr hn e2.1 (by simp only[G6];exact⟨e1,e2.2,e3,e4⟩) hs fun out ho A0 hR=>(h out ho A0 hR).run hQ⟩
theorem Ox{f:FuncId}{ins:List V}{lvi:List Nat}{hi:List (Nat×V)}(ren:List (Nat×Nat))(rr:List Nat)(hs:UX P f ins lvi hi R)
  (e:((nx P cf).tag,(nx P cf).f,(nx P cf).l.map (V.rn (D2 ren) (gH ren rr)),(xZ (nx P cf).a.k||kS f)&&(uA (nx P cf).nm ren rr&&beq (C1 (nx P cf).a.s (nx P cf).a.k) ((nx P cf).nm+64)),X5 (nx P cf).a.s.lv ren,qC (nx P cf).a.s.h ren rr)=(3,f,ins,true,lvi,hi))
  (h:∀out ho A0,R out ho A0->Wk P X0 w0 Q (GP (nx P cf) ren rr out ho A0)):Wk P X0 w0 Q cf:=VB (fun h=>by cases h) ren rr hs e h
theorem Oy(m:Bool){f:FuncId}{fn:Func}{ins:List V}{lvi:List Nat}{hi:List (Nat×V)}(hf:P.funcs[f]? =some fn)(hb:(fn.body.isSome,Nat.ble ins.length fn.ntmps)=(true,true))
  (h:∀X0 w0,Ok0 X0 16->(m=true->X0.wr=true)->Wk P X0 w0 (Fin P fn X0 w0 R) ⟨[.c (fn.body.getD .skip)],MI ins lvi hi fn.ntmps⟩):SatHM P m f ins lvi hi R:=by
 simp only[G6]at hb
 obtain⟨c,hc⟩:∃c,fn.body=some c:=iF.1 hb.1
 have B1:=hb.2
 rw[i6]at B1
 intro X w vs D7 oF H hm
 have I1:=(h (X.ent lvi) w ⟨fun _ _=>rfl,rfl,fun e=>by cases e⟩ hm).run GE
 rw[hc]at I1
 refine T7 hf hc rfl zO (I1.to ⟨X,_,rfl,fun t=>?_,H⟩)
 simp only[MI,ev]
 by_cases ht:t<ins.length
 ·have:blt t fn.ntmps=true:=by rw[A8];omega
  rw[this]
  simp only[cond_true]
  rw[List.getD,B6 ht,List.getD,B6 zO]
  exact oF t _ _ (B6 ht) (B6 zO)
 rw[List.getD,V6 zO];trivial
end
section
variable {f:FuncId}
theorem Oz(hX:Ok0 X 0)(H:Wd X X h0 lv 16 w w)(Hk:Hp w w' [] []):Wd X X h0 [] 64 w w':=by
 have hh:∀b,b<w.heap.size->w'.heap[b]? =w.heap[b]? :=fun b hb=>Hk.frame b hb (by simp)
 have cell:∀b i,b<w.heap.size->w'.cell? (ad b i)=w.cell? (ad b i):=fun b i hb=>by unfold World.cell?; rw[hh b hb]
 have frz:∀b i,b<w.heap.size->w'.frozen? (ad b i)=w.frozen? (ad b i):=fun b i hb=>by unfold World.frozen?; rw[hh b hb]
 have tp':∀b i t,X.G b i=.tp t->(w'.cell? (ad b i)).isSome=true/\w'.frozen? (ad b i)=false:=fun b i t hx=>by
  have hb:=H.ex b i (by rw[hx];simp)
  rw[cell b i hb,frz b i hb];exact H.tp b i t hx
 exact { kb:=⟨Hk.os,Hk.output,fun i hi=>(by rw[hh i hi];exact(zS w (EW X)).2.2 i hi)⟩,tape:=Hk.tape,fz0:=fun _ _ _ h=>h,no0:=fun _ _ _ h=>.inl h,mp0:=fun _ _ _ h=>h,ρ0:=fun _ _ _ h=>h,ex:=fun b i hn=>X7 (H.ex b i hn) Hk.size,fz:=fun b i x hx=>(H.fz b i x hx).move (fun _ _ _ h=>h) (cell b i (H.ex b i (by rw[hx];simp))) (fun _ _ hm=>by rw[hh b (H.ex b i (by rw[hx];simp))];exact hm),tp:=fun b i t hx=>tp' b i t hx,rt:=fun r j b o N hr=>(by rw[hX.ρ]at hr;cases hr),c2:=by omega,lvc:=fun t ht=>(by simp at ht),ρc:=fun r j p hr=>(by rw[hX.ρ]at hr;cases hr),inv:=hX.Φ rfl _ _ _,imo:=H.imo,νe:=rfl,gz:=H.gz,we:=rfl,ν0:=H.ν0,νs:=J2 H.νs Hk.size,nf:=fun b hb ⟨i,hi⟩ C T fr he=>(by rw[hh b (H.ex b i hi)]at he;exact H.nf b hb ⟨i,hi⟩ C T fr he),κc:=by rw[hX.κ];omega}
theorem uB{ins:List V}{lvi:List Nat}{R:V->List Nat->Prop}(h:∀(X:Cx) (w:World) (vs:List Value),vs.length=ins.length->(∀(i:Nat) v x,ins[i]? =some v->vs[i]? =some x->repv X lvi 16 v x)->Wd X X h0 lvi 16 w w->Ret P f vs w fun v w'=>(∃out,R out []/\repv X [] 64 out v)/\Hp w w' [] []):Sat P f ins lvi R:=fun X w vs h1 h2 hX H _=>
 (h X w vs h1 h2 H).mono fun v w' ⟨⟨out,hR,hv⟩,Hk⟩=>⟨X,[],[],out,⟨rfl,hR⟩,hv,by
  have e:S6 ([]:List (Nat×V))=h0:=by funext r j;cases j<;>rfl
  rw[e];exact Oz hX H Hk⟩
theorem yG(H:Wd X X h0 lv 16 w w){t:Nat}{l:List UInt8}(hv:repv X lv 16 (.bl t l) x):∃a cap,x=.slice a l.length cap/\l.length<=cap/\cap<=maxLen/\RdS w a (l.map E9):=by
 obtain⟨a,cap,e1,e2,e3,e4,e5,e6⟩:=hv
 refine⟨a,cap,by simpa using e1,e2,e3,?_⟩
 rcases e6 with⟨h1,h2⟩|⟨b,o,rfl,hw,_⟩
 ·have:l=[]:=l4.1 zO
  subst this;exact .inl rfl
 exact H.rd (xD _) hw
theorem Pa(H:Wd X X h0 lv 16 w w){t n:Nat}{g:Nat->List UInt8}{q:Nat->Nat}(hv:repv X lv 16 (.sl t 1 n fun i=>.bl (q i) (g i)) x):
  ∃a cap,x=.slice a n cap/\n<=cap/\cap<=maxLen/\∃ps:List (Option Addr×Nat),ps.length=n/\RdS w a ((ps.zipIdx).map fun p=>.slice p.1.1 (g p.2).length p.1.2)/\∀(i:Nat) p,ps[i]? =some p->(g i).length<=p.2/\p.2<=maxLen/\RdS w p.1 ((g i).map E9):=by
 obtain⟨_,a,cap,e1,e2,e3,e4,e5,e6⟩:=hv
 refine⟨a,cap,by simpa using e1,e2,e3,?_⟩
 rcases e6 with⟨h1,h2⟩|⟨b,o,rfl,hw,_⟩
 ·have:n=0:=by omega
  subst this
  exact⟨[],rfl,.inl rfl,fun i p hp=>by simp at hp⟩
 have one:∀i,i<n->∃p:Option Addr×Nat,((g i).length<=p.2/\p.2<=maxLen/\RdS w p.1 ((g i).map E9))/\X.G b (o+i)=.fz (.slice p.1 (g i).length p.2):=fun i hi=>by
  obtain⟨es,r1,r2,r3,r4⟩:=hw i hi
  obtain⟨a',M5,k1,k2,k3,k4,k5,k6⟩:=r1
  subst k1
  refine⟨(a',M5),⟨k2,k3,?_⟩,by have:=r4 0 _ rfl;simpa using this⟩
  rcases k6 with⟨z1,z2⟩|⟨b',o',rfl,iJ,_⟩
  ·have:g i=[]:=l4.1 zO
   rw[this];exact .inl rfl
  exact H.rd (xD _) iJ
 have build:∀m,m<=n->∃ps:List (Option Addr×Nat),ps.length=m/\∀(i:Nat) p,ps[i]? =some p->((g i).length<=p.2/\p.2<=maxLen/\RdS w p.1 ((g i).map E9))/\X.G b (o+i)=.fz (.slice p.1 (g i).length p.2):=by
  intro m
  induction m with
 |zero=>intro _;exact⟨[],rfl,fun i p hp=>by simp at hp⟩
 |succ m ih=>
   intro hm
   obtain⟨ps,p1,p2⟩:=ih zO
   obtain⟨p,q1,q2⟩:=one m zO
   refine⟨ps++[p],by simp[p1],fun i p' hp=>?_⟩
   by_cases hi:i<m
   ·rw[N5 zO]at hp;exact p2 i p' hp
   have:i=m:=by have:=(N1.1 hp).1;simp[p1]at this;omega
   subst this
   rw[L7 zO,p1,bP]at hp
   cases hp;exact⟨q1,q2⟩
 obtain⟨ps,p1,p2⟩:=build n (B2 _)
 refine⟨ps,p1,H.rd (fun x hx=>by obtain⟨_,_,rfl⟩:=J6.1 hx;rfl) fun k x hk=>?_,fun i p hp=>(p2 i p hp).1⟩
 rw[Y6]at hk
 obtain⟨y,y1,rfl⟩:=eL.1 hk
 rw[List.getElem?_zipIdx]at y1
 obtain⟨p,z1,rfl⟩:=eL.1 y1
 have:=(p2 k p z1).2
 simpa using this
def V.nf:V->V
|.bl t l=>.bl (bif beq t 1 then 0 else t) l
|.sl t z n g=>.sl (bif beq t 1 then 0 else t) z n g
|x=>x
theorem SatM.full{m:Bool}{ins ins':List V}{lvi:List Nat}(h:SatM P m f ins lvi R)(e:ins'.map V.nf=ins:=by kernel_rfl):SatM P m f ins' lvi R:=fun X w vs h1 h2 hX H hm=>by
 refine h X w vs (by rw[h1, <-e,J7]) (fun i v x hv hx=>?_) hX H hm
 rw[<-e,Y6]at hv
 obtain⟨v0,z8,rfl⟩:=eL.1 hv
 have hr:=h2 i v0 x z8 hx
 have z:∀{t n z:Nat} {W:Nat->Nat->Prop} {cs:List Value},SlR X.G lvi 16 t n z W cs->SlR X.G lvi 16 (bif beq t 1 then 0 else t) n z W cs:=fun {t n z W cs} ⟨a,cap,q1,q2,q3,q4,q5,q6⟩=>by
  cases hb:beq t 1
  ·exact⟨a,cap,q1,q2,q3,q4,q5,q6⟩
  show SlR X.G lvi 16 0 n z W cs
  exact⟨a,cap,q1,q2,q3,zO,fun e=>by omega,q6.imp (fun⟨_,q⟩=>⟨.inr (Eq.refl _),q⟩) fun⟨b,o,r1,r2,_⟩=>⟨b,o,r1,r2,fun h0=>by have:=(H.lvc _ h0).1;omega⟩⟩
 cases v0<;>first|exact hr|exact z hr|exact⟨hr.1,z hr.2⟩
theorem Sat.full{ins ins':List V}{lvi:List Nat}{R:V->List Nat->Prop}(h:Sat P f ins lvi R)(e:ins'.map V.nf=ins:=by kernel_rfl):Sat P f ins' lvi R:=SatM.full h e
end
section
variable {κ:Nat}
theorem Pb{k:List K}:D4 P Q (.lp (D4 P Q k .normal)::k)=D4 P Q k:=by
 rw[mT];funext e;cases e<;>rfl
theorem Pc{k k':List K}(h:D4 P Q k=D4 P Q k'):∀x:K,D4 P Q (x::k)=D4 P Q (x::k')
|.c _=>by rw[tO,tO,h]
|.bl _=>by rw[tP,tP,h]
|.ops _ _ _=>by rw[xR,xR,h]
|.lp _=>by rw[mT,mT,h]
|.dr _ _ _=>by rw[xS,xS,h]
|.d1 _ _ _ _=>by rw[xT,xT,h]
theorem Pd{x:K}{k:List K}{s:T}(h:Run P X0 w0 Q ⟨x:: .lp (D4 P Q k .normal)::k,s⟩):Run P X0 w0 Q ⟨x::k,s⟩:=fun Y a w ha=>by
 have h1:=h Y a w (by cases x<;>exact ha)
 have e:D4 P Q (.lp (D4 P Q k .normal)::k)=D4 P Q k:=Pb
 cases x
 case dr all L f=>show V1 P .any all (D4 P Q k) f L Y a w;rw[<-e];exact h1
 case d1 all L f i=>simp only[FW]at h1 ⊢;rw[e]at h1;exact h1
 all_goals
  show D4 P Q _ .normal a w
  rw[<-Pc e];exact h1
theorem Pe{x:K}{k:List K}{s:T}{n:Nat}(sl hl:ι->List (Nat×V))(I:ι->Prop)(lv:List Nat)(h2:∀i,I i->Wk P X0 w0 Q ⟨k,St (sl i) (hl i) lv c n⟩)
  (h:∀R:Act->World->Prop,(∀i,I i->∀a w,At X0 w0 (St (sl i) (hl i) lv c n) c a w->R a w)->Wk P X0 w0 Q ⟨x:: .lp R::k,s⟩):Wk P X0 w0 Q ⟨x::k,s⟩:=
 ⟨fun hQ=>Pd ((h _ fun i hi a w ha=>((h2 i hi).run hQ).to (ha.up (by
  show c<=C1 _ k
  unfold C1;split<;>simp[St]))).run hQ)⟩
def Cf.cut(A:Cf)(R:Act->World->Prop):Cf:=⟨(match A.k with|x::k=>x:: .lp R::k|[]=>[.lp R]),A.s⟩
theorem MK{A:Cf}{n:Nat}(k:List K)(sl hl:ι->List (Nat×V))(I:ι->Prop)(lv:List Nat)(hk:(A.k.isEmpty,A.k.tail)=(false,k))(h2:∀i,I i->Wk P X0 w0 Q ⟨k,St (sl i) (hl i) lv c n⟩)
  (h:∀R:Act->World->Prop,(∀i,I i->∀a w,At X0 w0 (St (sl i) (hl i) lv c n) c a w->R a w)->Wk P X0 w0 Q (A.cut R)):Wk P X0 w0 Q A:=by
 obtain⟨k0,s⟩:=A
 simp only[G6]at hk
 cases k0 with
|nil=>cases hk.1
|cons x k'=>
  obtain⟨_,rfl⟩:=hk
  exact Pe sl hl I lv h2 h
theorem VC{n:Nat}(p:Bool)(sl hl:ι->List (Nat×V))(I:ι->Prop)(lv:List Nat)(e:((nx P cf).tag,(nx P cf).p)=(1,p))(hk:((nx P cf).a.k.isEmpty,(nx P cf).b.k.isEmpty,(nx P cf).b.k.tail)=(false,false,(nx P cf).a.k.tail))
  (h2:∀i,I i->Wk P X0 w0 Q ⟨(nx P cf).a.k.tail,St (sl i) (hl i) lv c n⟩)
  (h:∀R:Act->World->Prop,(∀i,I i->∀a w,At X0 w0 (St (sl i) (hl i) lv c n) c a w->R a w)->(p=true->Wk P X0 w0 Q ((nx P cf).a.cut R))/\(p=false->Wk P X0 w0 Q ((nx P cf).b.cut R))):Wk P X0 w0 Q cf:=by
 simp only[G6]at hk
 refine tX p e (fun hp=>MK _ sl hl I lv (by rw[hk.1]) h2 fun R hR=>(h R hR).1 hp) (fun hp=>MK _ sl hl I lv (by rw[hk.2.1,hk.2.2]) h2 fun R hR=>(h R hR).2 hp)
def Ev.a0(e:Ev):Cf:=e.alts.getD 0 ⟨[],pX⟩
theorem Pf(n:Nat)(sl hl:ι->List (Nat×V))(I:ι->Prop)(lv:List Nat)(e:((nx P cf).tag,(nx P cf).alts.length)=(5,n))(hk:(nx P cf).alts.map (fun A=>(A.k.isEmpty,A.k.tail))=replicate n (false,(nx P cf).a0.k.tail))
  (h2:∀i,I i->Wk P X0 w0 Q ⟨(nx P cf).a0.k.tail,St (sl i) (hl i) lv c m⟩)
  (h:∀R:Act->World->Prop,(∀i,I i->∀a w,At X0 w0 (St (sl i) (hl i) lv c m) c a w->R a w)->∀i,i<n->Wk P X0 w0 Q (((nx P cf).alts.getD i ⟨[],pX⟩).cut R)):Wk P X0 w0 Q cf:=by
 refine L6 n e fun i hi=>MK _ sl hl I lv ?_ h2 fun R hR=>h R hR i hi
 have D7:(nx P cf).alts.length=n:=by simp only[G6]at e;exact e.2
 have:=congrArg (fun l=>l[i]?) hk
 simp only[Y6]at this
 rw[B6 zO]at this
 simp only[X8,List.getElem?_replicate,if_pos hi,F2]at this
 rw[List.getD,B6 zO]
 exact this
end
section
variable {κ:Nat}
theorem GQ(D:V->Prop)(e:((nx P cf).tag,beq (C1 (nx P cf).a.s (nx P cf).a.k) ((nx P cf).nm+64))=(9,true))
  (z7:∀X τ w,FrR X (nx P cf).a.s.lv (nx P cf).nm (nx P cf).a.s.n (nx P cf).a.s.σ τ->Wd X0 X (nx P cf).a.s.h (nx P cf).a.s.lv (nx P cf).nm w0 w->
   ∃v w' X' v',(execOp (ev (nx P cf).a.s.n τ) (nx P cf).op).run P w=.ok (.value v) w'/\X.le X' (nx P cf).a.s.lv (nx P cf).a.s.lv (nx P cf).nm/\Wd X0 X' (nx P cf).a.s.h (nx P cf).a.s.lv ((nx P cf).nm+64) w0 w'/\repv X' (nx P cf).a.s.lv ((nx P cf).nm+64) v' v/\Yle (C8 X w) (C8 X' w')/\D v')
  (hk:∀v',D v'->Wk P X0 w0 Q ⟨(nx P cf).a.k,(nx P cf).a.s.put (nx P cf).op.dst v'⟩):Wk P X0 w0 Q cf:=by
 refine⟨fun hQ=>M8 hQ 1000 cf.k cf.s ?_⟩
 cases hn:nx P cf<;>rw[hn]at e z7 hk<;>simp only[Ev.tag,G6,reduceCtorEq,Nat.reduceEqDiff,false_and]at e
 rename_i o nm A
 rw[show go P 1000 cf.k cf.s=.ext o nm A from hn]
 intro X τ w hF H hd
 obtain⟨v,w',X',v',h1,h2,h3,h4,h5,h6⟩:=z7 X τ w hF H
 refine .inl ⟨v,w',by rw[W7];exact h1,?_⟩;have:=jK (s:=A.s) (hF.mono h2 (Nat.le_add_right nm 64)) h3 hd h4 A.s.c
 have K3:C1 A.s A.k=nm+64:=A5 e.2
 refine xU (mR h3 h2.fz fun _=>h5) (((hk v' h6).run hQ) _ _ _ ?_);have O9:C1 (A.s.put o.dst v') A.k=C1 A.s A.k:=by
  have:(A.s.put o.dst v').c=A.s.c:=by cases o.dst<;>rfl
  unfold C1;split<;>rw[this]
 show AtY _ _ _ (C1 (A.s.put o.dst v') A.k) _ _ _
 rw[O9,K3]
 exact this
theorem VD(e:((nx P cf).tag,beq (C1 (nx P cf).a.s (nx P cf).a.k) ((nx P cf).nm+64),(nx P cf).op.dst.isNone)=(9,true,true))
  (z7:∀X τ w,FrR X (nx P cf).a.s.lv (nx P cf).nm (nx P cf).a.s.n (nx P cf).a.s.σ τ->Wd X0 X (nx P cf).a.s.h (nx P cf).a.s.lv (nx P cf).nm w0 w->
   ∃w' X',(execOp (ev (nx P cf).a.s.n τ) (nx P cf).op).run P w=.ok .skip w'/\X.le X' (nx P cf).a.s.lv (nx P cf).a.s.lv (nx P cf).nm/\Wd X0 X' (nx P cf).a.s.h (nx P cf).a.s.lv ((nx P cf).nm+64) w0 w'/\Yle (C8 X w) (C8 X' w'))
  (hk:Wk P X0 w0 Q (nx P cf).a):Wk P X0 w0 Q cf:=by
 refine⟨fun hQ=>M8 hQ 1000 cf.k cf.s ?_⟩
 cases hn:nx P cf<;>rw[hn]at e z7 hk<;>simp only[Ev.tag,G6,reduceCtorEq,Nat.reduceEqDiff,false_and]at e
 rename_i o nm A
 rw[show go P 1000 cf.k cf.s=.ext o nm A from hn]
 intro X τ w hF H hd
 obtain⟨w',X',h1,h2,h3,h5⟩:=z7 X τ w hF H
 obtain⟨_,e2,e3⟩:=e
 have hnone:o.dst=none:=by
  have:o.dst.isNone=true:=e3
  cases ho:o.dst with
 |none=>rfl
 |some d=>rw[ho]at this;cases this
 refine .inr ⟨w',by rw[W7];exact h1,?_⟩;have K3:C1 A.s A.k=nm+64:=A5 e2
 refine xU (mR h3 h2.fz fun _=>h5) ((hk.run hQ) _ _ _ ?_)
 show AtY _ _ A.s (C1 A.s A.k) _ _ _
 rw[K3,hnone]
 exact⟨X',τ,rfl,hF.mono h2 (Nat.le_add_right nm 64),h3,rfl⟩
end
structure KeyT (P:Program) (kt:TypeId):Prop where
 chk:∀(e:Bool) (k:List UInt8),k.length=32->∀w,(Instr.checkKey e 10000 kt (F9 k)).run P w=.ok () w
 eq:∀p q:List UInt8,p.length=32->q.length=32->∀w,(Op.equal kt (F9 p) (F9 q)).run P w=.ok (decide (p=q)) w
 wide:(match P.underlying kt with|some (.array _ _)|some (.struct _)=>true|_=>false)=true
theorem VE{p q:List UInt8}(h:F9 p=F9 q):p=q:=by
 have h1:p.map E9=q.map E9:=by simpa [F9] using h
 have inj:∀a b:UInt8,E9 a=E9 b->a=b:=fun a b h=>by
  have h:(a.toNat:Int)=b.toNat:=by simpa [E9] using h
  exact DB.1 (by exact_mod_cast h)
 exact List.map_inj_right (f:=E9) (fun _ _ h=>inj _ _ h) |>.1 h1
open Classical in
noncomputable def jN (k:Value):List MapEntry->Nat->Option (Nat×Value)
|[],_=>none
|e::r,i=>if k=e.key then some (i,e.val) else jN k r (i+1)
theorem GR{k:Value}:∀{es:List MapEntry} {i j:Nat} {v:Value},jN k es i=some (j,v)->∃m e,j=i+m/\es[m]? =some e/\k=e.key/\e.val=v
|[],_,_,_,h=>by cases h
|e::r,i,j,v,h=>by
  rw[jN]at h
  split at h
  ·rename_i hk;cases h;exact⟨0,e,rfl,rfl,hk,rfl⟩
  obtain⟨m,e',h1,h2,h3⟩:=GR h
  exact⟨m+1,e',zO,h2,h3⟩
theorem ML{k:Value}:∀{es:List MapEntry} {i:Nat},jN k es i=none->∀e∈es,k≠e.key
|[],_,_,e,he=>by cases he
|e0::r,i,h,e,he=>by
  rw[jN]at h
  split at h
  ·cases h
  rename_i hk
  rcases K8.1 he with rfl|he
  ·exact hk
  exact ML h e he
section
variable {nm n:Nat} {σ:Fr} {ty t kt et:TypeId} {x y:Operand} {b tg:Nat}
theorem VF(hK:KeyT P kt){k:List UInt8}(hk:k.length=32)(w:World):∀(es:List MapEntry) (i:Nat),(∀e∈es,∃k':List UInt8,k'.length=32/\e.key=F9 k')->(Instr.findAsking kt (F9 k) es i).run P w=.ok (jN (F9 k) es i) w
|[],i,_=>rfl
|e::r,i,hh=>by
  obtain⟨k',h1,h2⟩:=hh e (X9 ..)
  rw[Instr.findAsking,D0,h2,hK.eq k k' hk h1,jN,h2]
  by_cases lY:k=k'
  ·subst lY;simp
  have:F9 k≠F9 k':=fun e=>lY (VE e)
  simp only[lY,decide_false,F6,this,if_false]
  exact VF hK hk w r (i+1) fun e he=>hh e (R5 _ he)
theorem MM(hK:KeyT P kt){k:List UInt8}(hk:k.length=32)(w:World){es:List MapEntry}(hh:∀e∈es,∃k':List UInt8,k'.length=32/\e.key=F9 k'):(Instr.findKey kt (F9 k) es).run P w=.ok (jN (F9 k) es 0) w:=by
 rw[run_findKey_eq w hK.wide];exact VF hK hk w es 0 hh
def GS:Nat->V
|0=>.i .i64 0
|1=>.bl 0 []
|_=>A1 [.bl 0 [],.b false]
def bD:Nat->Value
|0=>.int .i64 0
|1=>.slice none 0 0
|_=>.agg #[.slice none 0 0,.bool false]
theorem VG:rep X (.bl 0 []) [] 2 [.slice none 0 0]:=⟨none,0,rfl,B2 _,by decide,by decide,fun h=>(by cases h),.inl ⟨.inl rfl,rfl⟩⟩
theorem BP(h:tg<=2):X4 tg (GS tg)=true/\repv X [] 2 (GS tg) (bD tg):=by
 match tg,h with
|0,_=>exact⟨rfl,rfl,by decide⟩
|1,_=>exact⟨rfl,VG⟩
|2,_=>exact⟨rfl,_,rfl,[.slice none 0 0],[.bool false],rfl,⟨[],[.slice none 0 0],rfl,rfl,VG⟩,rfl⟩
def aH:V->V
|.bl _ l=>.bl 0 l
|.st n g=>.st n fun k=>aH (g k)
|x=>x
theorem VH{lv:List Nat}{v:V}{x:Value}(hm:X4 tg (aH v)=true)(hr:repv X lv c v x):repv X [] 2 (aH v) x:=by
 have bl:∀{q:Nat} {l:List UInt8} {cs:List Value},rep X (.bl q l) lv c cs->rep X (.bl 0 l) [] 2 cs:=fun {q l cs} h=>by
  obtain⟨a,cap,h1,h2,h3,h4,h5,h6⟩:=h
  exact⟨a,cap,h1,h2,h3,zO,fun h=>(by cases h),h6.imp (fun⟨_,q⟩=>⟨.inr rfl,q⟩) fun⟨b,o,q1,q2,_⟩=>⟨b,o,q1,q2,fun ht=>by simp at ht⟩⟩
 cases v
 case i k a=>exact hr
 case bl q l=>exact bl hr
 case st n g=>
  obtain⟨C,h1,h2⟩:=hr
  refine⟨C,h1,?_⟩
  have hm:beq n 2=true/\(match aH (g 0),aH (g 1) with|.bl t l,.b _=>beq t 0&&Nat.ble l.length 1000000|_,_=>false)=true:=by
   simp only[aH]at hm
   unfold X4 at hm
   split at hm
   ·rename_i e;cases e
   ·rename_i e;cases e
   ·rename_i e;cases e;rw[A9]at hm;exact hm
   cases hm
  obtain rfl:=A5 hm.1
  have hm:=hm.2
  have e0:∃q l,g 0=.bl q l:=by
   cases hg:g 0<;>rw[hg]at hm<;>first|exact⟨_,_,rfl⟩|(simp[aH]at hm)
  have e1:∃p,g 1=.b p:=by
   obtain⟨q,l,e0⟩:=e0
   rw[e0]at hm
   cases hg:g 1<;>rw[hg]at hm<;>first|exact⟨_,rfl⟩|(simp[aH]at hm)
  obtain⟨q,l,e0⟩:=e0
  obtain⟨p,e1⟩:=e1
  refine d7 h2 fun k cs hk hr=>?_
  match k,hk with
 |0,_=>show rep X (aH (g 0)) [] 2 cs;rw[e0]at hr ⊢;exact bl hr
 |1,_=>show rep X (aH (g 1)) [] 2 cs;rw[e1]at hr ⊢;exact hr
 all_goals
  exfalso
  simp only[aH]at hm
  unfold X4 at hm
  split at hm<;>first|(cases hm;done)|(rename_i e;cases e)
end
end Go.Proofs.YtgohjiegkhfpmaaGreatDoor
